/- A part. -/
import Derived.Test.YtkjmpcfikenlbaaGreatDoorX3
set_option linter.all false
namespace Go.Tx
open Go Go.Ev
variable{k:Nat}{t:al}
def Vf{U Z A}:∀{l}{r},gc U Z A (l.map .J) r↔c5 U l r
 |[],r=>by simp only[hq,gc,c5]
 |t::l,r=>by
  simp only[gg,gc,c5];constructor
  .rintro⟨v,aK,rfl,D,F⟩;exact⟨v,aK,rfl,D,Vf.1 F⟩
  .rintro⟨v,aK,rfl,D,F⟩;exact⟨v,aK,rfl,D,Vf.2 F⟩
def bU.bS{C}{X}{f s ak z}{args}{l:di}{b8}(h:bU C X f args [(s,.box ak z (.bS (l.map .J)))] b8):bU C X f args [(s,.box ak z (.cb l))] b8:=by
 intro U Z H fV a4 aC;have fR:∀t B,look [(s,fB.box ak z (.bS (l.map .J)))] t=some B->t=s/\B=.box ak z (.bS (l.map .J)):=λt B h=>by
  simp only[look]at h;cases q:Nat.beq s t with
  |true=>rw[q]at h;cases h;exact⟨(dA.1 q).symm,rfl⟩
  |false=>rw[q]at h;cases h
 have aH:look [(s,fB.box ak z (.cb l))] s=some (.box ak z (.cb l)):=by simp only[look,kN rfl]
 have auk:∀t e8 cJ aJ,look [(s,fB.box ak z (.cb l))] t=some (.box e8 cJ aJ)->look [(s,fB.box ak z (.bS (l.map .J)))] t=some (.box e8 cJ (.bS (l.map .J))):=λt e8 cJ aJ h=>by
  simp only[look]at h ⊢;cases q:Nat.beq s t with
  |true=>rw[q]at h;cases h;rfl
  |false=>rw[q]at h;cases h
 have agz:∀t e8 cJ aJ,look [(s,fB.box ak z (.bS (l.map .J)))] t=some (.box e8 cJ aJ)->∃gj,look [(s,fB.box ak z (.cb l))] t=some (.box e8 cJ gj):=λt e8 cJ aJ h=>by
  simp only[look]at h ⊢;cases q:Nat.beq s t with
  |true=>rw[q]at h;cases h;exact⟨_,rfl⟩
  |false=>rw[q]at h;cases h
 have TL:Shape [(s,fB.box ak z (.cb l))] [(s,fB.box ak z (.bS (l.map .J)))]:=⟨agz,λt e8 cJ Q u h=>by have:=(fR t _ h).2;cases this⟩;have⟨ax,cL,dP,fW,gi,iW⟩:=a4.obj s _ aH;have td:b0 U Z [(s,.box ak z (.bS (l.map .J)))] H:=⟨a4.e6,λt B h ag=>by
  obtain⟨rfl,rfl⟩:=fR t B h;exact a4.lt _ _ aH rfl,λt a6 B bH h cz _ _ _=>(fR t B h).1.trans (fR a6 bH cz).1.symm,λt B h=>by
  obtain⟨rfl,rfl⟩:=fR t B h;exact⟨ax,cL,dP,fW,by rw[ex];exact gi,Vf.2 iW⟩⟩
 have⟨r,bE,v,az,bm,b2,q,run,FA,a8,ec,aN⟩:=h U Z H fV td (TL.lC aC);refine⟨r,bE,v,az,bm,b2,q,run,FA,⟨a8.le,a8.next,λa aC D F=>a8.same a aC (λt B Y ag a1=>?_) F,λa B aV=>?_,λt B Y ag=>?_⟩,ec,λt B Y=>?_⟩
 .obtain⟨rfl,rfl⟩:=fR t B Y;exact D _ _ aH rfl a1
 .rcases a8.new a B aV with h|h|⟨t,bH,Y,ag,aw⟩|h
  .exact .inl h
  .exact .inr (.inl h)
  .obtain⟨rfl,rfl⟩:=fR t bH Y;exact .inr (.inr (.inl ⟨_,_,aH,rfl,aw⟩))
  .exact .inr (.inr (.inr h))
 .rcases a8.fE t B Y ag with h|⟨t0,bH,iJ,f7,aw,a1⟩
  .exact .inl h
  .obtain⟨rfl,rfl⟩:=fR t0 bH iJ;exact .inr ⟨_,_,aH,rfl,aw,a1⟩
 .refine aN t (.box ak z (.bS (l.map .J))) ?_;simp only[look]at Y ⊢;cases q:Nat.beq s t with
  |true=>rfl
  |false=>rw[q]at Y;cases Y
def TT{n}(h:n<256):r8 [[.int 4 n]]=some [UInt8.ofNat n]:=by
 have aB:Nat.blt n 256=true:=by simpa[Gq]using h
 unfold r8;simp only[aB];rfl
def ahk(a b):eJ 18446744073709551616 a b<18446744073709551616:=mA _ af
structure jW(rows:e9):Prop where
 len:rows.length<=700
def qb(g:Nat)(Q:e9)(V:b9->Prop)(v:b9)(A:bf):Prop:=V v/\∃a,a<=Q.length/\A=[(1000,dD g Q a)]
set_option maxRecDepth 100000
set_option maxHeartbeats 8000000
attribute [local irreducible] eo eA bU eE eJ eN cU eX
section
variable{C:Nat->cE}{ext:Nat->Option eS}{Q:e9}(aa:Env C ext Q)
include aa
variable{g:Nat}(aS:jW Q)
include aS
def ae7(a)(aC:a<=Q.length):bU C [] 22 [.bN 1000 0] [(1000,dD g Q a)] λv A=>A=[(1000,dD g Q a)]/\v=.bool (Nat.blt a Q.length):=aa.left aS.len g a aC
def dy(a n)(aC:a<=Q.length)(aD:0<n)(kr:n<9223372036854775808):bU C [] 8 [.bN 1000 0,.J (.int 3 n)] [(1000,dD g Q a)] (qb g Q λv=>∃r,v=.int 3 r/\r<n):=aa.next aS.len g a n aC aD kr
def wQ(a n)(aC:a<=Q.length)(aD:0<n)(kr:n<1000):bU C [] 16 [.bN 1000 0,.J (.int 3 n)] [(1000,dD g Q a)] (qb g Q λv=>∃b,v=.bool b):=by refine aa.z 16 ff rfl rfl ?_;refine N ?_;refine aW (dy aa aS a n aC aD I) ?_;rintro v A ⟨⟨r,rfl,ag⟩,bz,ki,rfl⟩;refine N ?_;exact⟨⟨_,rfl⟩,bz,ki,rfl⟩
def als(a)(aC:a<=Q.length):bU C [] 217 [.bN 1000 0] [(1000,dD g Q a)] (qb g Q λv=>∃b,v=.bool b):=by
 refine aa.z 217 ff rfl rfl ?_
 (conv=>whnf)
 repeat' (first|refine hZ (ae7 aa aS a aC) ?_|(refine aW (dy aa aS a 3 aC af af) ?_;rintro v A ⟨⟨r,rfl,ag⟩,bz,ki,rfl⟩)|refine bZ ?_|refine a3 ?_|refine s2 ?_ ?_<;>intros|fail)<;>(conv=>whnf)
 all_goals first|exact⟨⟨_,rfl⟩,bz,ki,rfl⟩|exact⟨⟨_,rfl⟩,a,aC,rfl⟩
def NK(a)(aC:a<=Q.length):bU C [] 147 [.bN 1000 0] [(1000,dD g Q a)] (qb g Q λv=>∃x,v=.int 3 x/\x<18446744073709551616):=by
 refine aa.z 147 ff rfl rfl ?_;refine N ?_;refine aW (dy aa aS a 8 aC af af) ?_;rintro v A ⟨⟨r,rfl,ag⟩,bk,cY,rfl⟩
 (conv=>whnf)
 repeat' (first|(refine aW (dy aa aS _ _ (by assumption) af af) ?_;rintro v A ⟨⟨b3,rfl,ct⟩,bu,cy,rfl⟩)|refine bZ ?_|refine a3 ?_|refine s2 ?_ ?_<;>intros|fail)<;>(conv=>whnf)
 .have:b3=0\/b3=1\/b3=2\/b3=3\/b3=4\/b3=5:=I;rcases this with rfl|rfl|rfl|rfl|rfl|rfl
  all_goals
   (conv=>whnf)
   repeat(first|refine bV.mk af (dU.mk _ rfl ?_)|refine bV.mk af ?_|refine dU.mk _ rfl ?_|refine bZ ?_);(conv=>whnf)
   exact⟨⟨_,rfl,af⟩,bu,cy,rfl⟩
 all_goals
  refine uj.rJ ?_
  refine N ?_
  exact⟨⟨_,rfl,ahk _ _⟩,bu,cy,rfl⟩
omit aS
def xX(s:bj)(i)(ap:s.length<100000)(aN:i<1000000):dz C 57 [.J (.str s),.J (.int 3 i)] λv=>∃b:UInt8,v=.str (s++[b])/\97<=b.toNat/\b.toNat<=122:=by
 refine aa.z 57 ff rfl rfl ?_;refine bw ?_;have F:97+i % 26<256:=I;rw[show r8 [[b9.int 4 (97+i % 26)]]=some [UInt8.ofNat (97+i % 26)]from TT F];have aB:(UInt8.ofNat (97+i % 26)).toNat=97+i % 26:=by simp[UInt8.toNat_ofNat];omega
 revert aB;generalize UInt8.ofNat (97+i % 26)=b;intro aB;refine bw ?_;exact⟨rfl,b,rfl,I,I⟩
def ky(s:bj):dz C 60 [.J (.str s)] λv=>v=.agg (al.mk s 1 []).cells:=by refine aa.z 60 ff rfl rfl ?_;refine N ?_;exact⟨rfl,rfl⟩
def FI(s:bj)(g)(Q:g4):dz C 152 [.J (.str s),.J (.aH g Q)] λv=>v=.agg [.str s,.aH g Q]:=by refine aa.z 152 ff rfl rfl ?_;refine N ?_;exact⟨rfl,rfl⟩
def J6(g)(l:List bj)(s:bj)(Y:l.length<1000000):dz C 64 [.J (.aH g (l.map b6)),.J (.str s)] λv=>∃b,v=.bool b:=by
 refine aa.z 64 (gK [(0,[3,7,8],[],[])]) rfl rfl ?_;have hm:(l.map b6).length=l.length:=bW;refine N ?_;refine kA b6 l 6 (λd (_:Unit)=>[]) (λd _=>[]) (λd _=>True) ⟨(),trivial,rfl⟩ (λd _ x r ba aw be ag a7 bt=>?_) (λ_ ba a7=>?_)
 .refine dk ?_;refine cQ (λ_=>?_) (λ_=>?_)
  .refine N ?_;exact⟨rfl,_,rfl⟩
  .refine N ?_;exact bt () _ _ trivial rfl
 .refine dd ?_;exact⟨rfl,_,rfl⟩
def AG(n):dz C 69 [.J (.int 3 n)] λv=>v=.agg (ai.mk 1 [] [] n 1 [] 1 [] 1 [] 1 [] (.mk [] 1 []) 0).cells:=by refine aa.z 69 ff rfl rfl ?_;refine N ?_;exact⟨rfl,rfl⟩
def aeA(t)(n):dz C 146 [.J (.agg t.cells),.J (.int 3 n)] λv=>v=.agg (ai.mk 7 [] [] 0 86 [t] 1 [] 1 [] 90 [ai.mk 1 [] [] n 1 [] 1 [] 1 [] 1 [] (.mk [] 1 []) 0] (.mk [] 1 []) 0).cells:=by refine aa.z 146 ff rfl rfl ?_;refine N ?_;refine bn (AG aa n) ?_;refine⟨rfl,?_⟩;show b9.agg [.int 3 7,.str [],.str [],.int 3 0,.aH 86 [t.cells],.aH 1 [],.aH 1 [],.aH 90 [ai.cells _],.str [],.aH 1 [],.int 3 0]=b9.agg [.int 3 7,.str [],.str [],.int 3 0,.aH 86 [t.row],.aH 1 [],.aH 1 [],.aH 90 [ai.row _],.str [],.aH 1 [],.int 3 0];rw[al.dN,ai.dN]
end
def hJ{α:Type}(ak g:Nat)(l:List α):Prop:=l=[]\/g / 2=ak
def GT:Nat->al->Prop
 |0,_=>False|k+1,t=>t.ay.length<=300/\t.l.length<=1/\hJ 43 t.g t.l/\(t.ay=[65,114,114,97,121]->t.l≠[])/\∀x∈t.l,GT k x
def GT.mono:∀{k}{t},GT k t->∀{j},k<=j->GT j t
 |k+1,t,h,j,bl=>by
  cases j with
  |zero=>omega|succ j=>exact⟨h.1,h.2.1,h.2.2.1,h.2.2.2.1,λx M=>(h.2.2.2.2 x M).mono I⟩
def GT.ok:∀{k}{t},GT k t->t.ok
 |k+1,t,h=>(al.mS t).2 ⟨by have:=h.1;omega,by have:=h.2.1;omega,λx M=>(h.2.2.2.2 x M).ok⟩
def GT.ir:∀{k}{t},GT k t->t.ir<=k
 |k+1,t,h=>by
  rw[al.vG];have:∀l:List al,(∀x∈l,x.ir<=k)->al.f6 l<=k:=by
   intro l;induction l with
   |nil=>intro _;simp[al.f6]|cons a l bQ=>intro h;have:=h a ua;have:=bQ λx M=>h x (tD _ M);simp[al.f6];omega
  have:=this t.l λx M=>(h.2.2.2.2 x M).ir;omega
def GT.b0(h:GT k t)(ar:k<1000):t.b0:=⟨h.ok,by have:=h.ir;omega⟩
def GT.nil{k}{s:bj}{g}(ap:s.length<=300)(aC:s≠[65,114,114,97,121])(ar:0<k):GT k (.mk s g []):=by
 cases k with
 |zero=>omega
 |succ k=>exact⟨ap,by simp[al.l],.inl rfl,λh=>absurd h aC,λx M=>by cases M⟩
def GT.one{g s}(ap:s.length<=300)(bI:g / 2=43)(h:GT k t):GT (k+1) (.mk s g [t]):=⟨ap,by simp[al.l],.inr bI,λ_=>by simp[al.l],λx M=>by rw[al.l]at M;rw[ji.1 M];exact h⟩
end Go.Tx
namespace Go.Tx
open Go.Ev Go
structure yk(t:al):Prop where
 ay:t.ay.length<=300
 one:t.l.length<=1
 Tq:(46:UInt8)∈t.ay
structure n3(x:c3):Prop where
 ay:x.ay.length<=100
 Tq:(46:UInt8)∉x.ay
 bF:x.ay≠[65,114,114,97,121]
 len:x.ec.length<=10
 ec:∀s∈x.ec,s.length<=300
 Jm:hJ 9 x.g x.ec
variable{e:ai}
def yk.bF{t}(h:yk t):t.ay≠[65,114,114,97,121]:=λe=>by have:=h.Tq;rw[e]at this;revert this;decide
set_option maxRecDepth 100000
set_option maxHeartbeats 8000000
attribute [local irreducible] eo eA bU eE eJ eN cU eX
section
variable{C:Nat->cE}{ext:Nat->Option eS}{Q:e9}(aa:Env C ext Q)
include aa
def aiP(t:al)(au:t.b0)(aQ:∀x∈t.l,dz C 153 [.J (.agg x.cells)] λv=>v=.int 3 x.ir):dz C 153 [.J (.agg t.cells)] λv=>v=.int 3 t.ir:=by
 refine aa.z 153 (ja [(0,[4,8],[1])]) rfl rfl ?_;have ii:=au.len;have aY:=au.2;rw[al.vG]at aY;refine N ?_;refine fu al.row t.l 7 (λd=>[(3,.J (.int 3 (al.f6 d)))]) (λ_=>True) ⟨trivial,rfl,rfl⟩ (λd x r ba aw be ag a7 bt=>?_) (λba a7=>?_)
 .rw[al.dN]at ag;have M:x∈t.l:=by simp[aw]
  have D:=al.Bv M;have F:al.f6 d<=al.f6 t.l:=by rw[aw];exact al.MI _ _
  refine dk ?_;refine bn (aQ x M) ?_;exact bt _ _ trivial (by rw[al.EG];rfl) rfl
 .refine dd ?_;exact⟨rfl,by rw[al.vG,El]⟩
def agI:∀(t:al),t.b0->dz C 153 [.J (.agg t.cells)] λv=>v=.int 3 t.ir:=
 al.ind λt bQ h=>aiP aa t h λx M=>bQ x M (h.l0 M)
def aoh:∀(k)(t),GT k t->k<1000->dz C 292 [.J (.agg t.cells)] λv=>∃n,v=.int 3 n/\n<=k:=by
 intro k;induction k with
 |zero=>intro t h;exact h.elim
 |succ k bQ=>
  intro t h ar;refine aa.z 292 (gK [(0,[4,8],[],[1])]) rfl rfl ?_;have⟨_,D,_,_,F⟩:=h;have ii:(t.l.map al.row).length=t.l.length:=bW;refine N ?_;refine kA al.row t.l 7 (λd (n:Nat)=>[(3,.J (.int 3 n))]) (λd n=>[(1,.box 43 2 (.cb t.cells))]) (λd n=>n<=1+d.length*k) ⟨1,by simp,rfl⟩ (λd n x r ba aw be ag a7 bt=>?_) (λn ba a7=>?_)
  .rw[al.dN]at ag;have M:x∈t.l:=by simp[aw]
   have aY:d=[]:=by rw[aw]at D;cases d with|nil=>rfl|cons a l=>simp at D
   subst aY;simp only[md,JT]at a7;refine dk ?_;refine aW (bQ x (F x M) I) ?_;rintro v A ⟨rfl,m,rfl,hm⟩;refine N ?_;refine bt (n+m) _ _ (by simp;omega) rfl
  .refine dd ?_;refine⟨rfl,_,rfl,?_⟩;have:t.l.length*k<=1*k:=q4 k D;omega
def Rg:∀(k)(t),GT k t->k<1000->dz C 296 [.J (.agg t.cells)] λv=>∃a6,v=.agg a6.cells/\GT k a6:=by
 intro k;induction k with
 |zero=>intro t h;exact h.elim
 |succ k bQ=>
  intro t h ar;refine aa.z 296 (gK [(0,[4,8],[⟨true,3,1,900,43,2⟩],[1,2,3,900])]) rfl rfl ?_;have⟨br,D,aL,bO,F⟩:=h;have ii:(t.l.map al.row).length=t.l.length:=bW;refine N ?_;refine kA al.row t.l 7 (λd (aK:List al)=>[(3,.bN 3 0)]) (λd aK=>[(1,.box 43 2 (.cb t.cells)),(2,.box 43 2 (.bS [.J (.str []),.bx])),(3,.box 43 2 (.bS [.J (.str t.ay),.bD 900])),(900,.bF 43 2 (aK.map al.row) true)]) (λd aK=>aK.length=d.length/\∀x∈aK,GT k x) ⟨[],⟨rfl,λx M=>by cases M⟩,rfl⟩ (λd aK x r ba aw be ag a7 bt=>?_) (λaK ba a7=>?_)
  .rw[al.dN]at ag;have M:x∈t.l:=by simp[aw]
   have aY:d=[]:=by rw[aw]at D;cases d with|nil=>rfl|cons a l=>simp at D
   subst aY;have⟨dR,du⟩:=a7;have Y:(aK.map al.row).length=0:=by rw[ex];exact dR
   refine zL ?_;refine aW (bQ x (F x M) I) ?_;rintro v A ⟨rfl,a6,rfl,iL⟩;refine bw ?_;refine bt (aK++[a6]) _ _ ⟨by simp[dR],λy aE=>?_⟩ ?_
   .rcases l8.1 aE with aE|aE
    .exact du y aE
    .rw[ji.1 aE];exact iL
   .rw[jj,x5,al.dN a6];rfl
  .refine dd ?_;have⟨dR,du⟩:=a7;refine⟨rfl,.mk t.ay 87 aK,rfl,br,by rw[<-dR]at D;exact D,.inr (by show 87 / 2=43;decide),λaw=>?_,du⟩;intro aD;have aD:aK=[]:=aD;rw[aD]at dR;exact bO aw (List.eq_nil_of_length_eq_zero dR.symm)
omit aa in
def nU{α:Type}(f:α->di){l:List α}{i}(aN:i<(l.map f).length):∃x∈l,fT (l.map f) i=f x:=by have⟨x,r,D,_,F⟩:=alj aN rfl;exact⟨x,by rw[D];simp,F⟩
def al1(j k)(aQ:∀a b,GT j a->GT k b->dz C 170 [.J (.agg a.cells),.J (.agg b.cells)] λv=>∃b,v=.bool b)(aj an)(cH cq:List al)(Y:cH.length<1000)(D:∀x∈cH,GT j x)(F:∀x∈cq,GT k x):dz C 171 [.J (.aH aj (cH.map al.row)),.J (.aH an (cq.map al.row))] λv=>∃b,v=.bool b:=by
 refine aa.z 171 (gK [(0,[5,6],[],[])]) rfl rfl ?_;have er:(cH.map al.row).length=cH.length:=ex ..;have f8:(cq.map al.row).length=cq.length:=ex ..;refine N ?_;refine eQ (ch (λa0=>?_) (λa0=>?_))
 .refine N ?_;refine aao (cH.map al.row).length 3 (λi (_:Unit)=>[]) (λi _=>[]) (λi _=>True) ⟨(),trivial,rfl⟩ (λi _ ba be a7 bt=>?_) (λ_ ba a7=>?_)
  .have⟨x,M,ag⟩:=nU al.row be;have ft:=be;rw[a0]at ft;have⟨y,aE,ct⟩:=nU al.row ft;rw[al.dN]at ag ct
   (conv=>whnf)
   repeat(first|refine⟨ft,⟨_,ct,?_⟩⟩|refine .yes (dg.2 be) ?_|refine⟨be,⟨_,ag,?_⟩⟩|refine bZ ?_);(conv=>whnf)
   refine aW (aQ x y (D x M) (F y aE)) ?_;rintro v A ⟨rfl,b,rfl⟩
   (conv=>whnf)
   repeat' (first|refine bZ ?_|refine a3 ?_|refine s2 ?_ ?_<;>intros|fail)<;>(conv=>whnf)
   .exact bt () _ _ trivial rfl
   .exact⟨rfl,_,rfl⟩
  .refine dd ?_;exact⟨rfl,_,rfl⟩
 .refine N ?_;exact⟨rfl,_,rfl⟩
def arG:∀(j k)(a b),GT j a->GT k b->dz C 170 [.J (.agg a.cells),.J (.agg b.cells)] λv=>∃b,v=.bool b:=by
 intro j;induction j with
 |zero=>intro _ _ _ h;exact h.elim
 |succ j bQ=>
  intro k a b aC aB;cases k with
  |zero=>exact aB.elim
  |succ k=>
   refine aa.z 170 ff rfl rfl ?_;refine N ?_;refine cQ (λ_=>?_) (λ_=>?_)
   .refine N ?_;refine aW (al1 aa j k (bQ k) _ _ a.l b.l (by have:=aC.2.1;omega) aC.2.2.2.2 aB.2.2.2.2) ?_;rintro v A ⟨rfl,b,rfl⟩;refine N ?_;exact⟨rfl,_,rfl⟩
   .refine N ?_;exact⟨rfl,_,rfl⟩
def Wh(j k)(a b)(aC:GT j a)(aB:GT k b):dz C 267 [.J (.agg a.cells),.J (.agg b.cells)] λv=>∃b,v=.bool b:=by refine aa.z 267 ff rfl rfl ?_;refine N ?_;refine aW (arG aa j k a b aC aB) ?_;rintro v A ⟨rfl,b,rfl⟩;refine N ?_;exact⟨rfl,_,rfl⟩
def Hd(j k)(a b)(aC:GT j a)(aB:GT k b):dz C 212 [.J (.agg a.cells),.J (.agg b.cells)] λv=>∃b,v=.bool b:=by refine aa.z 212 ff rfl rfl ?_;refine N ?_;refine aW (Wh aa j k a b aC aB) ?_;rintro v A ⟨rfl,b,rfl⟩;refine N ?_;exact⟨rfl,_,rfl⟩
def V1(g)(l:List bj)(s:bj)(Y:l.length<1000000):dz C 295 [.J (.aH g (l.map b6)),.J (.str s)] λv=>(v=.int 3 18446744073709551615\/∃i,i<l.length/\v=.int 3 i):=by
 refine aa.z 295 (gK [(0,[3,4,8,9],[],[])]) rfl rfl ?_;have hm:(l.map b6).length=l.length:=bW;refine N ?_;refine kA b6 l 7 (λd (_:Unit)=>[]) (λd _=>[]) (λd _=>True) ⟨(),trivial,rfl⟩ (λd _ x r ba aw be ag a7 bt=>?_) (λ_ ba a7=>?_)
 .refine dk ?_;refine cQ (λ_=>?_) (λ_=>?_)
  .refine N ?_;exact⟨rfl,.inr ⟨_,I,rfl⟩⟩
  .refine N ?_;exact bt () _ _ trivial rfl
 .refine dd ?_;exact⟨rfl,.inl rfl⟩
def Mt(g)(l:List bj)(s:bj)(Y:l.length<1000000):dz C 265 [.J (.aH g (l.map b6)),.J (.str s)] λv=>∃b,v=.bool b:=by
 refine aa.z 265 (gK [(0,[3,7,8],[],[])]) rfl rfl ?_;have hm:(l.map b6).length=l.length:=bW;refine N ?_;refine kA b6 l 6 (λd (_:Unit)=>[]) (λd _=>[]) (λd _=>True) ⟨(),trivial,rfl⟩ (λd _ x r ba aw be ag a7 bt=>?_) (λ_ ba a7=>?_)
 .refine dk ?_;refine cQ (λ_=>?_) (λ_=>?_)
  .refine N ?_;exact⟨rfl,_,rfl⟩
  .refine N ?_;exact bt () _ _ trivial rfl
 .refine dd ?_;exact⟨rfl,_,rfl⟩
def aht(j)(bl:j<1000)(g an)(names:List bj)(fw:aO)(aD:names.length<1000)(ap:fw.length=names.length)(cA:∀n∈fw,n<=1000):∀(k)(t),GT k t->k<1000->dz C 293 [.J (.agg t.cells),.J (.aH g (names.map b6)),.J (.aH an (fw.map λn=>[.int 3 n]))] λv=>∃n,v=.int 3 n/\n<=10000:=by
 intro k;induction k with
 |zero=>intro t h;exact h.elim
 |succ k bQ=>
  intro t h ar;refine aa.z 293 (gK [(0,[7,12,13],[],[3])]) rfl rfl ?_;have⟨_,D,_,_,F⟩:=h;have ii:(t.l.map al.row).length=t.l.length:=ex ..;have zy:(fw.map λn=>[b9.int 3 n]).length=fw.length:=ex ..;refine N ?_;refine aW (V1 aa g names t.ay (by omega)) ?_;rintro v A ⟨rfl,rfl|⟨i,aN,rfl⟩⟩;case' inr=>
   have ft:i<(fw.map λn=>[b9.int 3 n]).length:=by omega
   have⟨n,rD,ag⟩:=nU (λn=>[b9.int 3 n]) ft;have ag:fT (fw.map λn=>[b9.int 3 n]) i=[b9.int 3 n]:=ag;have kr:=cA n rD;refine N ?_;refine jQ (λ_=>?_) (λh=>by omega);refine N ?_;refine ch (λa0=>?_) (λa0=>?_)
   ·(conv=>whnf)
    repeat(first|refine⟨ft,⟨_,ag,?_⟩⟩|refine bZ ?_);(conv=>whnf)
    exact⟨rfl,_,rfl,by omega⟩
   refine N ?_
  case' inl=>
   refine N ?_;refine q2.rJ ?_
   (conv=>whnf)
   repeat(first|refine .no In ?_|refine bZ ?_);(conv=>whnf)
  all_goals
   refine kA al.row t.l 11 (λd (n:Nat)=>[(6,.J (.int 3 n))]) (λd n=>[(3,.box 43 2 (.cb t.cells))]) (λd n=>n<=4096) ⟨1,by simp,rfl⟩ (λd n x r ba aw be ag a7 bt=>?_) (λn ba a7=>?_)
   .rw[al.dN]at ag;have M:x∈t.l:=by simp[aw]
    refine dk ?_;refine aW (bQ x (F x M) (by omega)) ?_;rintro v A ⟨rfl,m,rfl,hm⟩
    (conv=>whnf)
    repeat' (first|refine bZ ?_|refine a3 ?_|refine s2 ?_ ?_<;>intros|fail)<;>(conv=>whnf)
    .exact⟨rfl,_,rfl,by decide⟩
    .exact bt (n+m) _ _ (by assumption) rfl
   .refine dd ?_;exact⟨rfl,_,rfl,by omega⟩
def aos(j)(bl:j<1000)(g an)(names:List bj)(mZ:List al)(aD:names.length<1000)(ap:mZ.length=names.length)(cA:∀t∈mZ,GT j t):∀(k)(t),GT k t->k<1000->dz C 294 [.J (.agg t.cells),.J (.aH g (names.map b6)),.J (.aH an (mZ.map al.row))] λv=>∃a6,v=.agg a6.cells/\GT (k+j) a6:=by
 intro k;induction k with
 |zero=>intro t h;exact h.elim
 |succ k bQ=>
  intro t h ar;refine aa.z 294 (gK [(0,[7,12],[⟨true,8,1,900,43,2⟩],[3,6,8,900])]) rfl rfl ?_;have⟨br,D,aL,bO,F⟩:=h;have ii:(t.l.map al.row).length=t.l.length:=ex ..;have zy:(mZ.map al.row).length=mZ.length:=ex ..;refine N ?_;refine aW (V1 aa g names t.ay (by omega)) ?_;rintro v A ⟨rfl,rfl|⟨i,aN,rfl⟩⟩;case' inr=>
   have ft:i<(mZ.map al.row).length:=by omega
   have⟨n,rD,ag⟩:=nU al.row ft;rw[al.dN]at ag;have kr:=cA n rD;refine N ?_;refine jQ (λ_=>?_) (λh=>by omega);refine N ?_;refine ch (λa0=>?_) (λa0=>?_)
   ·(conv=>whnf)
    repeat(first|refine⟨ft,⟨_,ag,?_⟩⟩|refine bZ ?_);(conv=>whnf)
    refine aW (Rg aa j n kr bl) ?_;rintro v A ⟨rfl,a6,rfl,iL⟩;refine N ?_;exact⟨rfl,a6,rfl,iL.mono (by omega)⟩
   refine N ?_
  case' inl=>
   refine N ?_;refine q2.rJ ?_
   (conv=>whnf)
   repeat(first|refine .no In ?_|refine bZ ?_);(conv=>whnf)
  all_goals
   refine kA al.row t.l 11 (λd (aK:List al)=>[]) (λd aK=>[(3,.box 43 2 (.cb t.cells)),(6,.box 43 2 (.bS [.J (.str []),.bx])),(8,.box 43 2 (.bS [.J (.str t.ay),.bD 900])),(900,.bF 43 2 (aK.map al.row) true)]) (λd aK=>aK.length=d.length/\∀x∈aK,GT (k+j) x) ⟨[],⟨rfl,λx M=>by cases M⟩,rfl⟩ (λd aK x r ba aw be ag a7 bt=>?_) (λaK ba a7=>?_)
   .rw[al.dN]at ag;have M:x∈t.l:=by simp[aw]
    have aY:d=[]:=by rw[aw]at D;cases d with|nil=>rfl|cons a l=>simp at D
    subst aY;have⟨dR,du⟩:=a7;have Y:(aK.map al.row).length=0:=by rw[ex];exact dR
    refine zL ?_;refine aW (bQ x (F x M) (by omega)) ?_;rintro v A ⟨rfl,a6,rfl,iL⟩;refine bw ?_;refine bt (aK++[a6]) _ _ ⟨by simp[dR],λy aE=>?_⟩ ?_
    .rcases l8.1 aE with aE|aE
     .exact du y aE
     .rw[ji.1 aE];exact iL
    .rw[jj,x5,al.dN a6];rfl
   .refine dd ?_;have⟨dR,du⟩:=a7;rw[show k+1+j=k+j+1 by omega];refine⟨rfl,.mk t.ay 87 aK,rfl,br,by rw[<-dR]at D;exact D,.inr (by show 87 / 2=43;decide),λaw=>?_,du⟩;intro aD;have aD:aK=[]:=aD;rw[aD]at dR;exact bO aw (List.eq_nil_of_length_eq_zero dR.symm)
omit aa in
def alX{s:bj}{i}(be:i<s.length)(h:s[i].toNat=46):(46:UInt8)∈s:=by rw[show(46:UInt8)=s[i]from PI.1 h.symm];exact fQ be
def Yx(s:bj)(ap:s.length<100000):dz C 291 [.J (.str s)] λv=>∃n,v=.int 3 n/\(n=1->46∈s):=by
 refine aa.z 291 (gK [(0,[4,5],[],[])]) rfl rfl ?_;refine N ?_;refine aao s.length 3 (λi (n:Nat)=>[(2,.J (.int 3 n))]) (λi _=>[]) (λi n=>n<=i/\(0<n->46∈s)) ⟨0,⟨by omega,by omega⟩,rfl⟩ (λi n ba be a7 bt=>?_) (λn ba a7=>?_)
 .have ag:s[i]?=some s[i]:=lX be;refine dk ?_
  (conv=>whnf)
  repeat' (first|refine bZ ?_|refine a3 ?_|refine s2 ?_ ?_<;>intros|fail)<;>(conv=>whnf)
  .exact bt (n+1) _ _ ⟨by omega,λ_=>alX be (by assumption)⟩ rfl
  .exact bt n _ _ ⟨by omega,a7.2⟩ rfl
 .refine dd ?_;exact⟨rfl,_,rfl,λh=>a7.2 (by omega)⟩
def aoe(j k)(bl:j<1000)(ar:k<1000)(t)(au:GT k t)(g an)(names:List bj)(mZ:List al)(aD:names.length<1000)(aB:mZ.length<1000)(cA:∀t∈mZ,GT j t):dz C 264 [.J (.agg t.cells),.J (.aH g (names.map b6)),.J (.aH an (mZ.map al.row))] λv=>∃(a6:al)(e:Nat),v=.gy [.agg a6.cells,.int 3 e]/\GT (k+j+1) a6:=by
 refine aa.z 264 (gK [(0,[7,8,13,14],[⟨false,6,0,900,3,1⟩],[3,6,900])]) rfl rfl ?_;have er:(names.map b6).length=names.length:=bW;have f8:(mZ.map al.row).length=mZ.length:=bW;have ju:GT (k+j+1) (al.mk [] 1 []):=GT.nil af af I;refine N ?_;refine eQ (ch (λa0=>?_) (λa0=>?_))
 .refine N ?_;refine kA b6 names 12 (λd (aK:aO)=>[(6,.bD 900)]) (λd aK=>[(3,.box 43 2 (.cb t.cells)),(6,.box 43 2 (.bS [.J (.str []),.bx])),(900,.bF 3 1 (aK.map λn=>[.int 3 n]) true)]) (λd aK=>aK.length=d.length/\∀n∈aK,n<=1000) ⟨[],⟨rfl,λx M=>by cases M⟩,rfl⟩ (λd aK x r ba aw be ag a7 bt=>?_) (λaK ba a7=>?_)
  .have⟨y,aE,x2⟩:=nU b6 (l:=names) (i:=0) I;have aY:d.length<1000:=I;have Ik:((names.map b6).drop 0).take (d.length - 0)=d.map b6:=by rw[aw];simp
   have ft:d.length<(mZ.map al.row).length:=I;have⟨z,amn,ct⟩:=nU al.row ft;rw[al.dN]at ct;have⟨dR,du⟩:=a7;have Y:(aK.map λn=>[b9.int 3 n]).length=aK.length:=bW
   (conv=>whnf)
   repeat(first|refine dU.mk _ x2 ?_|refine .yes (dg.2 be) ?_|refine⟨be,⟨_,ag,?_⟩⟩|refine da ?_);(conv=>whnf)
   rcases Nat.eq_zero_or_pos d.length with br|br
   case' inl=>refine mK.zero rfl br ?_;refine N ?_;refine aW (Mt aa 0 [] x af) ?_
   case' inr=>refine mK.some br I ?_;rw[Ik];refine N ?_;refine aW (Mt aa _ d x I) ?_
   all_goals
    rintro v A ⟨rfl,b,rfl⟩
    (conv=>whnf)
    repeat' (first|refine⟨ft,⟨_,ct,?_⟩⟩|(refine aW (aoh aa j z (cA z amn) bl) ?_;rintro v A ⟨rfl,n,rfl,kr⟩)|refine da ?_|refine a3 ?_|refine s2 ?_ ?_<;>intros|fail)<;>(conv=>whnf)
    .exact⟨rfl,al.mk [] 1 [],_,rfl,ju⟩
    .refine bt (aK++[n]) _ _ ⟨by simp[dR],λy aE=>?_⟩ (by rw[jj];rfl);rcases l8.1 aE with aE|aE
     .exact du y aE
     .rw[ji.1 aE];omega
  .refine dd ?_;refine aW (aht aa j bl g _ names aK aD I a7.2 k t au ar) ?_;rintro v A ⟨rfl,n,rfl,kr⟩
   (conv=>whnf)
   repeat' (first|refine bZ ?_|refine a3 ?_|refine s2 ?_ ?_<;>intros|fail)<;>(conv=>whnf)
   .exact⟨rfl,al.mk [] 1 [],_,rfl,ju⟩
   refine aW (aos aa j bl g an names mZ aD I cA k t au ar) ?_;rintro v A ⟨rfl,a6,rfl,iL⟩;refine N ?_;exact⟨rfl,a6,_,rfl,iL.mono I⟩
 .refine N ?_;exact⟨rfl,al.mk [] 1 [],_,rfl,ju⟩
def xN(j k)(bl:j<1000)(ar:k<1000)(t)(au:GT k t)(g an)(names:List bj)(mZ:List al)(aD:names.length<1000)(aB:mZ.length<1000)(cA:∀t∈mZ,GT j t):dz C 208 [.J (.agg t.cells),.J (.aH g (names.map b6)),.J (.aH an (mZ.map al.row))] λv=>∃a6,v=.agg a6.cells/\GT (k+j+1) a6:=by refine aa.z 208 ff rfl rfl ?_;refine N ?_;refine aW (aoe aa j k bl ar t au g an names mZ aD aB cA) ?_;rintro v A ⟨rfl,a6,e,rfl,h⟩;refine N ?_;exact⟨rfl,a6,rfl,h⟩
def Le(s:bj)(ap:s.length<100000):dz C 263 [.J (.str s)] λv=>∃a b ok,v=.gy [.str a,.str b,.bool ok]:=by
 refine aa.z 263 (gK [(0,[6],[],[])]) rfl rfl ?_;refine N ?_;refine aW (Yx aa s ap) ?_;rintro v A ⟨rfl,n,rfl,aD⟩;refine N ?_;refine eQ (ch (λa0=>?_) (λa0=>?_))
 .have Ty:=aD a0;have hm:=List.idxOf_lt_length_of_mem Ty;have aI:s[s.idxOf 46]?=some 46:=by rw[lX hm,List.getElem_idxOf]
  have Y:0<s.length:=I;have x2:s[0]?=some s[0]:=lX Y;have vC:s[s.length - 1]?=some (s[s.length - 1]' I):=lX I
  (conv=>whnf)
  repeat' (first|refine⟨Y,⟨_,x2,?_⟩⟩|refine⟨(I:s.length - 1<s.length),⟨_,vC,?_⟩⟩|refine bZ ?_|refine a3 ?_|refine s2 ?_ ?_<;>intros|fail)<;>(conv=>whnf)
  .exact⟨rfl,_,_,_,rfl⟩
  .exact⟨rfl,_,_,_,rfl⟩
  refine Li (λi:Nat=>[(4,.J (.int 3 i))]) (λi=>[]) (λi=>s.length - i) (λi=>i<=s.idxOf 46) ⟨0,qG _,rfl⟩ ?_;intro i ba a7 bt;have be:i<s.length:=I;have ag:s[i]?=some s[i]:=lX be;refine dk ?_;refine eQ (ch (λa0=>?_) (λa0=>?_))
  .refine bw ?_;exact⟨rfl,_,_,_,rfl⟩
  .have ed:i≠s.idxOf 46:=λh=>a0 (by subst h;rw[ag]at aI;injection aI with aI;rw[aI];rfl);refine bw ?_;exact bt (i+1) _ _ I I rfl
 .refine N ?_;exact⟨rfl,_,_,_,rfl⟩
variable{g:Nat}(aS:jW Q)
include aS
def Yd(hQ hN)(L:List al)(G:List c3)(cB:L.length<1000)(Fq:G.length<1000)(D:∀t∈L,yk t)(F:∀x∈G,n3 x):∀(d),d<100->∀(a),a<=Q.length->bU C [] 138 [.bN 1000 0,.J (.aH hQ (L.map al.row)),.J (.aH hN (G.map c3.row)),.J (.int 3 d)] [(1000,dD g Q a)] (qb g Q λv=>∃t,v=.agg t.cells/\GT (d+2) t):=by
 intro d;have er:(L.map al.row).length=L.length:=bW;have f8:(G.map c3.row).length=G.length:=bW;have VF:∀s:bj,s.length<=300->s≠[65,114,114,97,121]->∀k,GT (k+1) (al.mk s 1 []):=λs D F k=>GT.nil D F I;induction d using Nat.strongRecOn with
 |ind d bQ=>
  intro aY a aC;refine aa.z 138 (gK [(1,[15,16],[⟨true,12,1,900,43,2⟩],[8,11,12,900,1000])]) rfl rfl ?_;refine N ?_;refine eh (λAe=>?_) (λAe=>?_);all_goals
   refine N ?_
   refine aW (dy aa aS a _ aC I I) ?_
   rintro v A ⟨⟨r,rfl,ag⟩,bk,cY,rfl⟩
   refine N ?_
   refine eh (λaq=>?_) (λaq=>?_)
   .have:r=0\/r=1\/r=2:=I;rcases this with rfl|rfl|rfl
    all_goals
     (conv=>whnf)
     repeat(first|refine bV.mk af (dU.mk _ rfl ?_)|refine bV.mk af ?_|refine dU.mk _ rfl ?_|refine hZ (ky aa _) ?_|refine bZ ?_);(conv=>whnf)
     exact⟨⟨_,rfl,VF _ af af _⟩,bk,cY,rfl⟩
   refine N ?_
   refine eh (λaL=>?_) (λaL=>?_)
   .have ft:r - 3<(G.map c3.row).length:=I;have⟨x,M,ct⟩:=nU c3.row ft;have ct:fT (G.map c3.row) (r - 3)=[.str x.ay,.aH x.g (x.ec.map b6)]:=ct
    (conv=>whnf)
    repeat(first|refine⟨ft,⟨_,ct,?_⟩⟩|refine hZ (ky aa _) ?_|refine bZ ?_);(conv=>whnf)
    exact⟨⟨_,rfl,VF _ (by have:=(F x M).ay;omega) (F x M).bF _⟩,bk,cY,rfl⟩
   refine N ?_
   refine eh (λbO=>?_) (λbO=>?_)
   .have ft:r - 3 - (G.map c3.row).length<(L.map al.row).length:=I;have⟨t,au,ct⟩:=nU al.row ft;rw[al.dN]at ct;have⟨c4,cl,dm⟩:=D t au;have fp:=(D t au).bF;have ii:(t.l.map al.row).length=t.l.length:=bW
    (conv=>whnf)
    repeat((first|refine⟨ft,⟨_,ct,?_⟩⟩|refine bZ ?_);(conv=>whnf))
    refine kA al.row t.l 14 (λ_ (_:List al×Nat)=>[]) (λ_ b=>[(8,.box 43 2 (.bS [.J (.str []),.bx])),(11,.box 43 2 (.cb t.cells)),(12,.box 43 2 (.bS [.J (.str t.ay),.bD 900])),(900,.bF 43 2 (b.1.map al.row) true),(1000,dD g Q b.2)]) (λe b=>b.1.length=e.length/\(∀x∈b.1,GT (d+1) x)/\b.2<=Q.length) ⟨([],bk),⟨rfl,(λx M=>by cases M),cY⟩,rfl⟩ (λe b x b3 ba aw be ag a7 bt=>?_) (λb ba a7=>?_)
    .have⟨aK,bu⟩:=b;have⟨dR,du,gq⟩:=a7;have Sv:e=[]:=by rw[aw]at cl;cases e with|nil=>rfl|cons a l=>simp at cl
     subst Sv;have Y:(aK.map al.row).length=0:=by rw[ex];exact dR
     (conv=>whnf)
     repeat((first|refine .yes (dg.2 be) ?_|refine⟨be,⟨_,ag,?_⟩⟩|refine da ?_);(conv=>whnf))
     refine jQ (λcr=>?_) (λcr=>?_)
     ·(conv=>whnf)
      repeat((first|(refine aW (ky aa _) ?_;rintro v A ⟨rfl,rfl⟩)|refine da ?_);(conv=>whnf))
      refine bt (aK++[al.mk [73,110,116] 1 []],bu) _ _ ⟨by simp[dR],λy aE=>?_,gq⟩ (by rw[jj,x5,al.dN];rfl);rcases l8.1 aE with aE|aE
      .exact du y aE
      .rw[ji.1 aE];exact VF _ af af _
     .have fK:0<d:=I;refine bw ?_;refine aW (bQ (d - 1) I I bu gq) ?_;rintro v A ⟨⟨a6,rfl,iL⟩,b1,dl,rfl⟩;refine bw ?_;refine bt (aK++[a6],b1) _ _ ⟨by simp[dR],λy aE=>?_,dl⟩ (by rw[jj,x5,al.dN a6];rfl);rcases l8.1 aE with aE|aE
      .exact du y aE
      .rw[ji.1 aE];exact iL.mono I
    .have⟨aK,bu⟩:=b;have⟨dR,du,gq⟩:=a7;refine dd ?_;exact⟨⟨al.mk t.ay 87 aK,rfl,c4,by rw[<-dR]at cl;exact cl,.inr (by show 87 / 2=43;decide),λaw=>absurd aw fp,du⟩,bu,gq,rfl⟩
   have fK:0<d:=I
   refine N ?_
   refine aW (bQ (d - 1) I I bk cY) ?_
   rintro v A ⟨⟨a6,rfl,iL⟩,b1,dl,rfl⟩
   refine N ?_
   refine bn (FI aa _ _ _) ?_
   refine⟨⟨al.mk [65,114,114,97,121] 86 [a6],?_,GT.one af af (iL.mono I)⟩,b1,dl,rfl⟩
   show b9.agg [.str _,.aH 86 [a6.cells]]=b9.agg [.str _,.aH 86 [a6.row]]
   rw[al.dN]
   rfl
omit aS
def ajM(j k)(eL)(V:List cG)(gm:V.length<10000)(D:∀x∈V,GT j x.bL)(t)(au:GT k t):dz C 209 [.J (.aH eL (V.map cG.row)),.J (.agg t.cells)] λv=>∃(g:Nat)(l:List bj),v=.aH g (l.map b6)/\l.length<=V.length/\∀s∈l,∃x∈V,s=x.ay:=by
 refine aa.z 209 (gK [(0,[5,9,10],[⟨false,4,0,900,9,1⟩],[3,900])]) rfl rfl ?_;have er:(V.map cG.row).length=V.length:=bW;refine N ?_;refine kA cG.row V 8 (λ_ (_:List bj)=>[(4,.bD 900)]) (λ_ l=>[(3,.box 43 2 (.cb t.cells)),(900,.bF 9 1 (l.map b6) true)]) (λd l=>l.length<=d.length/\∀s∈l,∃x∈V,s=x.ay) ⟨[],⟨by simp,λx M=>by cases M⟩,rfl⟩ (λd l x r ba aw be ag a7 bt=>?_) (λl ba a7=>?_)
 .have⟨dR,du⟩:=a7;have Y:(l.map b6).length=l.length:=bW;unfold cG.row at ag;simp only[lJ,ps]at ag;have M:x∈V:=by simp[aw]
  refine dk ?_;refine aW (Hd aa j k x.bL t (D x M) au) ?_;rintro v A ⟨rfl,b,rfl⟩;have aY:d.length<V.length:=I
  (conv=>whnf)
  repeat' (first|refine da ?_|refine a3 ?_|refine s2 ?_ ?_<;>intros|fail)<;>(conv=>whnf)
  .refine bt (l++[x.ay]) _ _ ⟨y5,λs ap=>?_⟩ (by rw[jj];rfl);rcases l8.1 ap with ap|ap
   .exact du s ap
   .rw[ji.1 ap];exact⟨x,M,rfl⟩
  .exact bt l _ _ ⟨y5,du⟩ rfl
 .refine dd ?_;exact⟨rfl,_,l,rfl,a7.1,a7.2⟩
omit aa in
def mq{α:Type}{f}{p:di->Bool}(l:List α)(h:∀x,p (f x)):(l.map f).all p:=by rw[Uu];exact ub.2 λx _=>h x
abbrev ai.nil:ai:=.mk 0 [] [] 0 1 [] 1 [] 1 [] 1 [] (.mk [] 1 []) 0
abbrev cG.new(s:bj)(t:al):cG:=⟨s,t,false,ai.nil⟩
def abx(eL)(V)(gm:V.length<10000)(s:bj)(t):dz C 145 [.J (.aH eL (V.map cG.row)),.J (.str s),.J (.agg t.cells)] λv=>∃g,v=.aH g ((V++[cG.new s t]).map cG.row):=by
 refine aa.z 145 ff rfl rfl ?_;have er:(V.map cG.row).length=V.length:=ex ..
 (conv=>whnf)
 repeat(first|refine bV.mk ⟨mq V λx=>rfl,by omega⟩ ?_|refine da ?_);(conv=>whnf)
 exact⟨rfl,_,by rw[jj];rfl⟩
abbrev NE(hQ:Nat)(jY:List bj)(x:cZ):fB:=.box 64 12 (.bS ([.bN 1001 0,.J (.aH 1 []),.J (.aH hQ (jY.map b6))]++x.cells.map .J))
end
structure Kx(a:dI):Prop where
 case:a.case.length<=100
 len:a.names.length<=10
 ay:∀s∈a.names,s.length<=100
 Jm:hJ 9 a.g a.names
structure QY(e:ai):Prop where
 ay:e.ay.length<=300
 mem:e.mem.length<=300
 kind:e.kind<100
 num:e.num<18446744073709551616
 o2:e.types.length<=5
 bL:∀t∈e.types,GT 400 t
 er:hJ 43 e.aj e.types
 xx:e.cg.length<=20
 rN:∀s∈e.cg,s.length<=300
 f8:hJ 9 e.an e.cg
 jI:e.bM.length<=20
 jO:∀a∈e.bM,Kx a
 jy:hJ 105 e.aM e.bM
 Gr:e.kids.length<=12
 lj:hJ 45 e.bs e.kids
 z:e.bL=.mk [] 1 []
 aqx:e.kind=15->0<e.kids.length
def GE:Nat->ai->Prop
 |0,_=>False|n+1,e=>QY e/\∀x∈e.kids,GE n x
def GE.mono:∀{k}{e},GE k e->∀{j},k<=j->GE j e
 |k+1,e,h,j,bl=>by
  cases j with
  |zero=>omega|succ j=>exact⟨h.1,λx M=>(h.2 x M).mono I⟩
def Kx.ok{a}(h:Kx a):a.ok:=⟨by have:=h.case;omega,by have:=h.len;omega,λs ap=>by have:=h.ay s ap;omega⟩
def QY.mj(h:QY e):e.mj:=
 ⟨by have:=h.ay;omega,by have:=h.mem;omega,by have:=h.o2;omega,λt au=>(h.bL t au).b0 I,by have:=h.xx;omega,λs ap=>by have:=h.rN s ap;omega,by have:=h.jI;omega,λa aC=>(h.jO a aC).ok,by have:=h.Gr;omega,by have:=h.kind;omega,h.num⟩
def GE.ok:∀{k}{e},GE k e->e.ok
 |k+1,e,h=>(ai.mS e).2 ⟨h.1.mj,λx M=>(h.2 x M).ok⟩
theorem WP{a9}:∀(l),(∀x∈l,x.size<=a9)->ai.fw l<=l.length*a9
 |[],_=>by simp[ai.fw]
 |a::l,h=>by have D:=h a List.mem_cons_self;have F:=WP l λx M=>h x (List.mem_cons_of_mem _ M);simp only[ai.fw,List.length_cons,Nat.succ_mul];omega
def GE.size:∀{k}{e},GE k e->e.size<=13 ^ k
 |k+1,e,h=>by have D:=WP (a9:=13 ^ k) e.kids λx M=>(h.2 x M).size;have F:e.kids.length*13 ^ k<=12*13 ^ k:=q4 _ h.1.Gr;have aq:0<13 ^ k:=Nat.pow_pos af;rw[ai.size_eq,Nat.pow_succ];omega
def GE.b0{k}(h:GE k e)(ar:k<=10):e.b0:=⟨h.ok,by have D:=h.size;have F:13 ^ k<=13 ^ 10:=Nat.pow_le_pow_right af ar;have aq:(13:Nat) ^ 10<1000000000000:=af;omega⟩
structure L3(x:eT):Prop where
 ay:x.ay.length<=100
 bL:GT 5 x.bL
structure DD(x:dX):Prop where
 since:x.since<=1000
 ay:x.ay.length<=100
 pl:x.params.length<=1
 tF:∀s∈x.params,s.length<=100/\(46:UInt8)∉s/\s≠[65,114,114,97,121]
 er:hJ 9 x.aj x.params
 hr:x.fields.length<=6
 nw:∀f∈x.fields,L3 f
 f8:hJ 124 x.an x.fields
structure OU(x:fl):Prop where
 ay:x.ay.length<=100
 pl:x.gL.length<=6
 tF:∀t∈x.gL,GT 5 t
 er:hJ 43 x.g x.gL
structure xy(x:dV):Prop where
 since:x.since<=1000
 ay:x.ay.length<=100
 pl:x.params.length<=1
 tF:∀s∈x.params,s.length<=100/\(46:UInt8)∉s/\s≠[65,114,114,97,121]
 er:hJ 9 x.aj x.params
 ou:x.cases.length<=6
 A3:∀f∈x.cases,OU f
 f8:hJ 128 x.an x.cases
structure J4(x:fS):Prop where
 ay:x.ay.length<=100
 jI:x.args.length<=5
 jO:∀t∈x.args,GT 5 t
 eW:GT 5 x.eW
 HK:x.gk.length<=100
 er:hJ 43 x.g x.args
structure KI(x:eG):Prop where
 since:x.since<=1000
 ay:x.ay.length<=100
 xx:x.eu.length<=5
 rN:∀m∈x.eu,J4 m
 er:hJ 130 x.g x.eu
structure Gp(x:em):Prop where
 ec:x.rx.length<=300
 hQ:x.dB.length<=1
 ge:∀g∈x.dB,n3 g
 er:hJ 132 x.aj x.dB
 bL:GT 5 x.bL
 Tq:x.dB≠[]->(46:UInt8)∈x.bL.ay
 eh:x.binds.length<=5
 eO:∀b∈x.binds,b.Cj.length<=100/\b.func.length<=100
 f8:hJ 147 x.an x.binds
structure rS(x:cG):Prop where
 ay:x.ay.length<=100
 bL:GT 5 x.bL
 HK:GE 10 x.gk
structure mT(x:cu):Prop where
 since:x.since<=1000
 ay:x.ay.length<=100
 hQ:x.dB.length<=1
 ge:∀g∈x.dB,n3 g
 er:hJ 132 x.aj x.dB
 jI:x.args.length<=5
 jO:∀a∈x.args,rS a
 f8:hJ 134 x.an x.args
 eW:GT 5 x.eW
 yc:GE 10 x.body
structure iN(x:cZ):Prop where
 kind:x.kind<=10
 rel:x.rel<=1000
 ay:x.ay.length<=100
 tW:x.fA=[]
 cH:x.dJ.length<=10
 cT:∀s∈x.dJ,DD s
 er:hJ 74 x.an x.dJ
 cq:x.d9.length<=10
 cN:∀s∈x.d9,xy s
 f8:hJ 78 x.aM x.d9
 c9:x.e2.length<=3
 el:∀s∈x.e2,KI s
 jy:hJ 82 x.bs x.e2
 eg:x.dn.length<=30
 e0:∀s∈x.dn,Gp s
 lj:hJ 86 x.cp x.dn
 fJ:x.funcs.length<=30
 gB:∀s∈x.funcs,mT s
 ny:hJ 49 x.dj x.funcs
def xj:bK->List (Nat×a2)->(bK->Prop)->Prop
 |E,[],k=>k E|E,(i,v)::l,k=>yN E i v λE=>xj E l k
def acW:∀(l)(E)(k),xj E l k=k (iF E l)
 |[],E,k=>rfl
 |(i,v)::l,E,k=>by simp only[xj,iF,AU,acW l]
def Gx{E}{l}{dQ}{T:bf}{k:bK->bf->Prop}(h:xj E l λE=>v5 E dQ λE=>k2 id E λE=>lA T λA=>k E A):k2 id (forget (iF E l) dQ) λE=>lA T λA=>k E A:=by rw[acW,Ec]at h;exact h
def hs{dQ a8}{acc}{a9:(bK->bf->Prop)->bK->bf->Prop}{fm:bK}{iu}{α fH:Type}(f:α->di)(l:List α)(p)(e7:List α->fH->List (Nat×a2))(T:List α->fH->bf)(fL:List α->fH->Prop)(br:∃b,fL [] b/\st acc a8 (forget fm dQ) iu=some (forget (iF fm ((p,.J (.int 3 0))::e7 [] b)) dQ,T [] b))(ap:∀d b x r (ba),l=d++x::r->d.length<(l.map f).length->fT (l.map f) d.length=f x->fL d b->(∀ep fe bE,fL (d++[x]) ep->st acc a8 (forget fe dQ) bE=some (forget (iF fm ((p,.J (.int 3 (d.length+1)))::e7 (d++[x]) ep)) dQ,T (d++[x]) ep)->ba fe bE)->xj fm ((p,.J (.int 3 d.length))::e7 d b) λE=>v5 E dQ λE=>k2 id E λE=>lA (T d b) λA=>a9 ba E A)(aw:∀b (ba),fL l b->xj fm ((p,.J (.int 3 (l.map f).length))::e7 l b) λE=>v5 E dQ λE=>k2 id E λE=>lA (T l b) λA=>a9 ba E A):sk (λba E A=>oO (some ⟨dQ,[],acc,a8⟩) E A λE A=>a9 ba E A) fm iu:=
 kA f l p e7 T fL br (λd b x r ba D F aq aL bO=>Gx (ap d b x r ba D F aq aL bO)) (λb ba h=>Gx (aw b ba h))
def Rb{dQ a8}{acc}{a9:(bK->bf->Prop)->bK->bf->Prop}{fm:bK}{iu}{α:Type}(e7:α->List (Nat×a2))(T:α->bf)(pb:α->Nat)(fL:α->Prop)(br:∃a,fL a/\st acc a8 (forget fm dQ) iu=some (forget (iF fm (e7 a)) dQ,T a))(ap:∀a (ba),fL a->(∀bz fe bE,pb bz<pb a->fL bz->st acc a8 (forget fe dQ) bE=some (forget (iF fm (e7 bz)) dQ,T bz)->ba fe bE)->xj fm (e7 a) λE=>v5 E dQ λE=>k2 id E λE=>lA (T a) λA=>a9 ba E A):sk (λba E A=>oO (some ⟨dQ,[],acc,a8⟩) E A λE A=>a9 ba E A) fm iu:=
 Li e7 T pb fL br λa ba D F=>Gx (ap a ba D F)
section
variable{C:Nat->cE}{ext:Nat->Option eS}{Q:e9}(aa:Env C ext Q)
include aa
abbrev Mx(a b:bj)(n:Nat):al:=al.mk (a++[46]++b) 86 (List.replicate n (al.mk [] 1 []))
omit aa in
def Y6(a b)(n):(Mx a b n).row=[.str (a++[46]++b),.aH 86 (List.replicate n [.str [],.aH 1 []])]:=by rw[al.dN];simp only[al.l,al.ay,al.g,List.map_replicate,al.dN,hq]
omit aa in
def aaS{l n a b}(h:∀t∈l,yk t)(aC:a.length<=100)(aB:b.length<=100)(aD:n<=1):∀t∈l++[Mx a b n],yk t:=λt au=>by
 rcases l8.1 au with au|au
 .exact h t au
 .rw[ji.1 au];exact⟨by simp only[al.ay,fP,IA];omega,by simpa[al.l]using aD,by simp[al.ay]⟩
def Zm(W:List cZ)(tk:∀x∈W,iN x)(oW:W.length<=1)(iD hQ)(MU:bj)(jY:List bj)(auN:jY.length<1000)(dr):dz C 139 [.J (.aH iD (W.map cZ.cells)),.J (.str MU),.J (.aH hQ (jY.map b6)),.J (.bool dr)] λv=>∃(g:Nat)(l:List al),v=.aH g (l.map al.row)/\l.length<1000/\∀t∈l,yk t:=by
 refine aa.z 139 (gK [(0,[6,7,8,12,13,14,15,16,17,18,19,20,21,22,23],[⟨false,5,0,900,43,2⟩],[900]),(2,[7,17,18],[⟨false,5,0,900,43,2⟩],[11,900]),(4,[8,22,23],[⟨false,5,0,900,43,2⟩],[11,900])]) rfl rfl ?_;have nQ:(W.map cZ.cells).length=W.length:=bW;refine N ?_;refine hs cZ.cells W 11 (λ_ (_:List al)=>[(5,.bD 900)]) (λ_ l=>[(900,.bF 43 2 (l.map al.row) true)]) (λd l=>l.length<=d.length*20/\∀t∈l,yk t) ⟨[],⟨by simp,λx M=>by cases M⟩,by kernel_rfl⟩ (λd l y r ba aw be ag a7 bt=>?_) (λl ba a7=>?_)
 .have aY:d.length=0:=by rw[aw]at oW;simp at oW;omega
  have aE:=tk y (by simp[aw]);have c4:(y.dJ.map dX.row).length=y.dJ.length:=bW;have cl:(y.d9.map dV.row).length=y.d9.length:=bW;have cH:=aE.cH;have cq:=aE.cq;have GN:l.length=0:=by have:=a7.1;omega
  refine dk ?_;refine eQ (cQ (λD=>?_) (λD=>?_));case' refine_1.refine_2=>refine N ?_;refine aW (J6 aa hQ jY y.ay I) ?_;rintro v A ⟨rfl,b,rfl⟩;refine N ?_;refine eQ (eO (λF=>?_) (λF=>?_))
  case' refine_1.refine_2.refine_2=>refine N ?_;exact bt l _ _ ⟨by simp[GN],a7.2⟩ (by kernel_rfl)
  all_goals
   refine N ?_
   refine hs dX.row y.dJ 16 (λ_ (_:List al)=>[(5,.bD 900)]) (λ_ l=>[(11,.box 34 9 (.cb y.cells)),(900,.bF 43 2 (l.map al.row) true)]) (λd l=>l.length<=d.length/\∀t∈l,yk t) ⟨l,⟨by simp[GN],a7.2⟩,by kernel_rfl⟩ (λd2 cq s b3 gl fb ft ct dq fj=>?_) (λcq gl dq=>?_)
   .have g1:d2.length<y.dJ.length:=I;have ap:=aE.cT s (by simp[fb]);have dm:(s.params.map b6).length=s.params.length:=bW;have fp:(cq.map al.row).length=cq.length:=bW;have be:=ft;have ag:=ct;unfold dX.row at ag;have ic:=ap.pl;have hF:=ap.ay;have oa:=aE.ay;have uR:=dq.1
    (conv=>whnf)
    repeat' (first|refine .yes (dg.2 be) ?_|refine⟨be,⟨_,ag,?_⟩⟩|refine da ?_|refine a3 ?_|refine s2 ?_ ?_<;>intros|fail)<;>(conv=>whnf)
    all_goals first|exact fj cq _ [_,_,_] ⟨by simp;omega,dq.2⟩ (by kernel_rfl)|exact fj (cq++[Mx y.ay s.ay (s.params.map b6).length]) _ _ ⟨by simp;omega,aaS dq.2 I I I⟩ (by rw[jj,x5,Y6];kernel_rfl)
   .have bC:=dq.1;have be:True:=trivial;refine dd ?_;refine hs dV.row y.d9 21 (λ_ (_:List al)=>[(5,.bD 900)]) (λ_ l=>[(11,.box 34 9 (.cb y.cells)),(900,.bF 43 2 (l.map al.row) true)]) (λd l=>l.length<=y.dJ.length+d.length/\∀t∈l,yk t) ⟨cq,⟨by simpa using bC,dq.2⟩,by kernel_rfl⟩ (λd3 c9 s iQ zK CH JQ iv ng qe=>?_) (λc9 zK ng=>?_)
    .have DU:d3.length<y.d9.length:=I;have ap:=aE.cN s (by simp[CH]);have dm:(s.params.map b6).length=s.params.length:=bW;have fp:(c9.map al.row).length=c9.length:=bW;have be:=JQ;have ag:=iv;unfold dV.row at ag;have ic:=ap.pl;have hF:=ap.ay;have oa:=aE.ay;have uR:=ng.1
     (conv=>whnf)
     repeat' (first|refine .yes (dg.2 be) ?_|refine⟨be,⟨_,ag,?_⟩⟩|refine da ?_|refine a3 ?_|refine s2 ?_ ?_<;>intros|fail)<;>(conv=>whnf)
     all_goals first|exact qe c9 _ [_,_,_] ⟨by simp;omega,ng.2⟩ (by kernel_rfl)|exact qe (c9++[Mx y.ay s.ay (s.params.map b6).length]) _ _ ⟨by simp;omega,aaS ng.2 I I I⟩ (by rw[jj,x5,Y6];kernel_rfl)
    .have aX:=ng.1;refine dd ?_;exact bt c9 _ _ ⟨by simp;omega,ng.2⟩ (by kernel_rfl)
 .refine dd ?_;exact⟨rfl,_,l,rfl,by have:=a7.1;have F:W.length*20<=1*20:=q4 _ oW;omega,a7.2⟩
end
end Go.Tx
