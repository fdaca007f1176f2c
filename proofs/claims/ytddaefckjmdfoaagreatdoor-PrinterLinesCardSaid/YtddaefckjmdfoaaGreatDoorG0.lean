/- Part of the proof of PrinterLines. -/
import Derived.Test.YtddaefckjmdfoaaGreatDoorX3
set_option linter.all false
namespace Go.Tx
open Go Go.Ev
variable{k:Nat}{t:ai}
def PK{U Z A}:∀{l}{r},fl U Z A (l.map .J) r↔cJ U l r
 |[],r=>by simp only[je,fl,cJ]
 |t::l,r=>by
  simp only[fA,fl,cJ];constructor
  .rintro⟨v,aM,rfl,B,F⟩;exact⟨v,aM,rfl,B,PK.1 F⟩
  .rintro⟨v,aM,rfl,B,F⟩;exact⟨v,aM,rfl,B,PK.2 F⟩
def bj.bE{C}{X}{f s el z}{args}{l:di}{bZ}(h:bj C X f args [(s,.box el z (.bE (l.map .J)))] bZ):bj C X f args [(s,.box el z (.cc l))] bZ:=by
 intro U Z H eE aW aD;have e8:∀t D,look [(s,eS.box el z (.bE (l.map .J)))] t=some D->t=s/\D=.box el z (.bE (l.map .J)):=λt D h=>by
  simp only[look] at h;cases q:Nat.beq s t with
  |true=>rw[q] at h;cases h;exact⟨(cF.1 q).symm,rfl⟩
  |false=>rw[q] at h;cases h
 have aQ:look [(s,eS.box el z (.cc l))] s=some (.box el z (.cc l)):=by simp only[look,fY rfl]
 have ara:∀t eC cI aF,look [(s,eS.box el z (.cc l))] t=some (.box eC cI aF)->look [(s,eS.box el z (.bE (l.map .J)))] t=some (.box eC cI (.bE (l.map .J))):=λt eC cI aF h=>by
  simp only[look] at h ⊢;cases q:Nat.beq s t with
  |true=>rw[q] at h;cases h;rfl
  |false=>rw[q] at h;cases h
 have ahr:∀t eC cI aF,look [(s,eS.box el z (.bE (l.map .J)))] t=some (.box eC cI aF)->∃fB,look [(s,eS.box el z (.cc l))] t=some (.box eC cI fB):=λt eC cI aF h=>by
  simp only[look] at h ⊢;cases q:Nat.beq s t with
  |true=>rw[q] at h;cases h;exact⟨_,rfl⟩
  |false=>rw[q] at h;cases h
 have TF:Shape [(s,eS.box el z (.cc l))] [(s,eS.box el z (.bE (l.map .J)))]:=⟨ahr,λt eC cI ab u h=>by have:=(e8 t _ h).2;cases this⟩;have⟨am,cQ,eL,jU,nR,qR⟩:=aW.obj s _ aQ;have nz:bL U Z [(s,.box el z (.bE (l.map .J)))] H:=⟨aW.gf,λt D h ad=>by
  obtain⟨rfl,rfl⟩:=e8 t D h;exact aW.lt _ _ aQ rfl,λt a6 D bs h b5 _ _ _=>(e8 t D h).1.trans (e8 a6 bs b5).1.symm,λt D h=>by
  obtain⟨rfl,rfl⟩:=e8 t D h;exact⟨am,cQ,eL,jU,by rw[dt];exact nR,PK.2 qR⟩⟩
 have⟨r,bw,v,aq,bh,bV,q,run,Nt,aU,dZ,aH⟩:=h U Z H eE nz (TF.o8 aD);refine⟨r,bw,v,aq,bh,bV,q,run,Nt,⟨aU.le,aU.next,λa aD B F=>aU.same a aD (λt D K ad aI=>?_) F,λa D ay=>?_,λt D K ad=>?_⟩,dZ,λt D K=>?_⟩
 .obtain⟨rfl,rfl⟩:=e8 t D K;exact B _ _ aQ rfl aI
 .rcases aU.new a D ay with h|h|⟨t,bs,K,ad,ar⟩|h
  .exact .inl h
  .exact .inr (.inl h)
  .obtain⟨rfl,rfl⟩:=e8 t bs K;exact .inr (.inr (.inl ⟨_,_,aQ,rfl,ar⟩))
  .exact .inr (.inr (.inr h))
 .rcases aU.eO t D K ad with h|⟨Bb,bs,hJ,fN,ar,aI⟩
  .exact .inl h
  .obtain⟨rfl,rfl⟩:=e8 Bb bs hJ;exact .inr ⟨_,_,aQ,rfl,ar,aI⟩
 .refine aH t (.box el z (.bE (l.map .J))) ?_;simp only[look] at K ⊢;cases q:Nat.beq s t with
  |true=>rfl
  |false=>rw[q] at K;cases K
def an1{n}(h:n<256):uz [[.int 4 n]]=some [UInt8.ofNat n]:=by
 have av:Nat.blt n 256=true:=by simpa [Bh] using h
 unfold uz;simp only[av];rfl
def afq(a b):kS 18446744073709551616 a b<18446744073709551616:=nb _ ag
structure l6(rows:fD):Prop where
 len:rows.length<=700
def Ge(g:Nat)(ab:fD)(V:b2->Prop)(v:b2)(A:be):Prop:=V v/\∃a,a<=ab.length/\A=[(1000,dH g ab a)]
set_option maxRecDepth 100000
set_option maxHeartbeats 8000000
attribute [local irreducible] jJ mb bj lQ kS nj ie fe
section
variable{C:Nat->cG}{ext:Nat->Option e0}{ab:fD}(Q:Env C ext ab)
include Q
variable{g:Nat}(bi:l6 ab)
include bi
def aaf(a)(aD:a<=ab.length):bj C [] 19 [.bH 1000 0] [(1000,dH g ab a)] λv A=>A=[(1000,dH g ab a)]/\v=.bool (Nat.blt a ab.length):=Q.left bi.len g a aD
def fR(a n)(aD:a<=ab.length)(aB:0<n)(kY:n<9223372036854775808):bj C [] 8 [.bH 1000 0,.J (.int 3 n)] [(1000,dH g ab a)] (Ge g ab λv=>∃r,v=.int 3 r/\r<n):=Q.next bi.len g a n aD aB kY
def wv(a n)(aD:a<=ab.length)(aB:0<n)(kY:n<1000):bj C [] 13 [.bH 1000 0,.J (.int 3 n)] [(1000,dH g ab a)] (Ge g ab λv=>∃b,v=.bool b):=by refine Q.z 13 cY rfl rfl ?_;refine aG ?_;refine aK (fR Q bi a n aD aB Y) ?_;rintro v A ⟨⟨r,rfl,ad⟩,bF,p3,rfl⟩;refine aG ?_;exact⟨⟨_,rfl⟩,bF,p3,rfl⟩
def agG(a)(aD:a<=ab.length):bj C [] 229 [.bH 1000 0] [(1000,dH g ab a)] (Ge g ab λv=>∃b,v=.bool b):=by
 refine Q.z 229 cY rfl rfl ?_
 (conv=>whnf)
 repeat' (first|refine cT (aaf Q bi a aD) ?_|(refine aK (fR Q bi a 3 aD ag ag) ?_;rintro v A ⟨⟨r,rfl,ad⟩,bF,p3,rfl⟩)|refine bn ?_|refine aN ?_|refine s2 ?_ ?_<;>intros|fail)<;>(conv=>whnf)
 all_goals first|exact⟨⟨_,rfl⟩,bF,p3,rfl⟩|exact⟨⟨_,rfl⟩,a,aD,rfl⟩
def N2(a)(aD:a<=ab.length):bj C [] 119 [.bH 1000 0] [(1000,dH g ab a)] (Ge g ab λv=>∃x,v=.int 3 x/\x<18446744073709551616):=by
 refine Q.z 119 cY rfl rfl ?_;refine aG ?_;refine aK (fR Q bi a 8 aD ag ag) ?_;rintro v A ⟨⟨r,rfl,ad⟩,bN,gk,rfl⟩
 (conv=>whnf)
 repeat' (first|(refine aK (fR Q bi _ _ (by assumption) ag ag) ?_;rintro v A ⟨⟨cl,rfl,eM⟩,a2,fU,rfl⟩)|refine bn ?_|refine aN ?_|refine s2 ?_ ?_<;>intros|fail)<;>(conv=>whnf)
 .have:cl=0\/cl=1\/cl=2\/cl=3\/cl=4\/cl=5:=Y;rcases this with rfl|rfl|rfl|rfl|rfl|rfl
  all_goals
   (conv=>whnf)
   repeat(first|refine gz.mk ag (jM.mk _ rfl ?_)|refine gz.mk ag ?_|refine jM.mk _ rfl ?_|refine bn ?_);(conv=>whnf)
   exact⟨⟨_,rfl,ag⟩,a2,fU,rfl⟩
 all_goals
  refine qk.mW ?_
  refine aG ?_
  exact⟨⟨_,rfl,afq _ _⟩,a2,fU,rfl⟩
omit bi
def yJ(s:bM)(i)(ak:s.length<100000)(aH:i<1000000):iS C 39 [.J (.str s),.J (.int 3 i)] λv=>∃b:UInt8,v=.str (s++[b])/\97<=b.toNat/\b.toNat<=122:=by
 refine Q.z 39 cY rfl rfl ?_;refine b8 ?_;have F:97+i % 26<256:=Y;rw[show uz [[b2.int 4 (97+i % 26)]]=some [UInt8.ofNat (97+i % 26)] from an1 F];have av:(UInt8.ofNat (97+i % 26)).toNat=97+i % 26:=by simp [UInt8.toNat_ofNat];omega
 revert av;generalize UInt8.ofNat (97+i % 26)=b;intro av;refine b8 ?_;exact⟨rfl,b,rfl,Y,Y⟩
def ou(s:bM):iS C 42 [.J (.str s)] λv=>v=.agg (ai.mk s 1 []).cells:=by refine Q.z 42 cY rfl rfl ?_;refine aG ?_;exact⟨rfl,rfl⟩
def R5(s:bM)(g)(ab:gF):iS C 124 [.J (.str s),.J (.aQ g ab)] λv=>v=.agg [.str s,.aQ g ab]:=by refine Q.z 124 cY rfl rfl ?_;refine aG ?_;exact⟨rfl,rfl⟩
def GD(g)(l:List bM)(s:bM)(K:l.length<1000000):iS C 46 [.J (.aQ g (l.map cu)),.J (.str s)] λv=>∃b,v=.bool b:=by
 refine Q.z 46 (ia [(0,[3,7,8],[],[])]) rfl rfl ?_;have hm:(l.map cu).length=l.length:=bW;refine aG ?_;refine ko cu l 6 (λd (_:Unit)=>[]) (λd _=>[]) (λd _=>True) ⟨(),trivial,rfl⟩ (λd _ x r ba ar aV ad bo bC=>?_) (λ_ ba bo=>?_)
 .refine dx ?_;refine cC (λ_=>?_) (λ_=>?_)
  .refine aG ?_;exact⟨rfl,_,rfl⟩
  .refine aG ?_;exact bC () _ _ trivial rfl
 .refine de ?_;exact⟨rfl,_,rfl⟩
def Lb(n):iS C 216 [.J (.int 3 n)] λv=>v=.agg (aj.mk 1 [] [] n 1 [] 1 [] 1 [] 1 [] (.mk [] 1 []) 0).cells:=by refine Q.z 216 cY rfl rfl ?_;refine aG ?_;exact⟨rfl,rfl⟩
def Yg(t)(n):iS C 118 [.J (.agg t.cells),.J (.int 3 n)] λv=>v=.agg (aj.mk 7 [] [] 0 108 [t] 1 [] 1 [] 122 [aj.mk 1 [] [] n 1 [] 1 [] 1 [] 1 [] (.mk [] 1 []) 0] (.mk [] 1 []) 0).cells:=by refine Q.z 118 cY rfl rfl ?_;refine aG ?_;refine cj (Lb Q n) ?_;refine⟨rfl,?_⟩;show b2.agg [.int 3 7,.str [],.str [],.int 3 0,.aQ 108 [t.cells],.aQ 1 [],.aQ 1 [],.aQ 122 [aj.cells _],.str [],.aQ 1 [],.int 3 0]=b2.agg [.int 3 7,.str [],.str [],.int 3 0,.aQ 108 [t.row],.aQ 1 [],.aQ 1 [],.aQ 122 [aj.row _],.str [],.aQ 1 [],.int 3 0];rw[ai.dF,aj.dF]
end
def gV{α:Type}(el g:Nat)(l:List α):Prop:=l=[]\/g / 2=el
def GT:Nat->ai->Prop
 |0,_=>False
 |k+1,t=>t.aR.length<=300/\t.l.length<=1/\gV 54 t.g t.l/\(t.aR=[65,114,114,97,121]->t.l≠[])/\∀x∈t.l,GT k x
def GT.mono:∀{k}{t},GT k t->∀{M},k<=M->GT M t
 |k+1,t,h,M,bb=>by
  cases M with
  |zero=>omega
  |succ M=>exact⟨h.1,h.2.1,h.2.2.1,h.2.2.2.1,λx I=>(h.2.2.2.2 x I).mono Y⟩
def GT.ok:∀{k}{t},GT k t->t.ok
 |k+1,t,h=>(ai.u2 t).2 ⟨by have:=h.1;omega,by have:=h.2.1;omega,λx I=>(h.2.2.2.2 x I).ok⟩
def GT.gi:∀{k}{t},GT k t->t.gi<=k
 |k+1,t,h=>by
  rw[ai.o1];have:∀l:List ai,(∀x∈l,x.gi<=k)->ai.e6 l<=k:=by
   intro l;induction l with
   |nil=>intro _;simp [ai.e6]
   |cons a l bB=>intro h;have:=h a qg;have:=bB λx I=>h x (tX _ I);simp [ai.e6];omega
  have:=this t.l λx I=>(h.2.2.2.2 x I).gi;omega
def GT.bL(h:GT k t)(az:k<1000):t.bL:=⟨h.ok,by have:=h.gi;omega⟩
def GT.nil{k}{s:bM}{g}(ak:s.length<=300)(aD:s≠[65,114,114,97,121])(az:0<k):GT k (.mk s g []):=by
 cases k with
 |zero=>omega
 |succ k=>exact⟨ak,by simp [ai.l],.inl rfl,λh=>absurd h aD,λx I=>by cases I⟩
def GT.one{g s}(ak:s.length<=300)(br:g / 2=54)(h:GT k t):GT (k+1) (.mk s g [t]):=⟨ak,by simp [ai.l],.inr br,λ_=>by simp [ai.l],λx I=>by rw[ai.l] at I;rw[iF.1 I];exact h⟩
end Go.Tx
namespace Go.Tx
open Go.Ev Go
structure yn(t:ai):Prop where
 aR:t.aR.length<=300
 one:t.l.length<=1
 RB:(46:UInt8)∈t.aR
structure mY(x:cX):Prop where
 aR:x.aR.length<=100
 RB:(46:UInt8)∉x.aR
 arr:x.aR≠[65,114,114,97,121]
 len:x.dZ.length<=10
 dZ:∀s∈x.dZ,s.length<=300
 Ue:gV 9 x.g x.dZ
variable{e:aj}
def yn.arr{t}(h:yn t):t.aR≠[65,114,114,97,121]:=λe=>by have:=h.RB;rw[e] at this;revert this;decide
set_option maxRecDepth 100000
set_option maxHeartbeats 8000000
attribute [local irreducible] jJ mb bj lQ kS nj ie fe
section
variable{C:Nat->cG}{ext:Nat->Option e0}{ab:fD}(Q:Env C ext ab)
include Q
def ajo(t:ai)(al:t.bL)(aw:∀x∈t.l,iS C 125 [.J (.agg x.cells)] λv=>v=.int 3 x.gi):iS C 125 [.J (.agg t.cells)] λv=>v=.int 3 t.gi:=by
 refine Q.z 125 (h9 [(0,[4,8],[1])]) rfl rfl ?_;have fy:=al.len;have aJ:=al.2;rw[ai.o1] at aJ;refine aG ?_;refine gE ai.row t.l 7 (λd=>[(3,.J (.int 3 (ai.e6 d)))]) (λ_=>True) ⟨trivial,rfl,rfl⟩ (λd x r ba ar aV ad bo bC=>?_) (λba bo=>?_)
 .rw[ai.dF] at ad;have I:x∈t.l:=by simp [ar]
  have B:=ai.ue I;have F:ai.e6 d<=ai.e6 t.l:=by rw[ar];exact ai.Fo _ _
  refine dx ?_;refine cj (aw x I) ?_;exact bC _ _ trivial (by rw[ai.zp];rfl) rfl
 .refine de ?_;exact⟨rfl,by rw[ai.o1,t8]⟩
def akj:∀(t:ai),t.bL->iS C 125 [.J (.agg t.cells)] λv=>v=.int 3 t.gi:=
 ai.ind λt bB h=>ajo Q t h λx I=>bB x I (h.p6 I)
def ajv:∀(k)(t),GT k t->k<1000->iS C 315 [.J (.agg t.cells)] λv=>∃n,v=.int 3 n/\n<=k:=by
 intro k;induction k with
 |zero=>intro t h;exact h.elim
 |succ k bB=>
  intro t h az;refine Q.z 315 (ia [(0,[4,8],[],[1])]) rfl rfl ?_;have⟨_,B,_,_,F⟩:=h;have fy:(t.l.map ai.row).length=t.l.length:=bW;refine aG ?_;refine ko ai.row t.l 7 (λd (n:Nat)=>[(3,.J (.int 3 n))]) (λd n=>[(1,.box 54 2 (.cc t.cells))]) (λd n=>n<=1+d.length*k) ⟨1,by simp,rfl⟩ (λd n x r ba ar aV ad bo bC=>?_) (λn ba bo=>?_)
  .rw[ai.dF] at ad;have I:x∈t.l:=by simp [ar]
   have aJ:d=[]:=by rw[ar] at B;cases d with|nil=>rfl|cons a l=>simp at B
   subst aJ;simp only[r8,Aw] at bo;refine dx ?_;refine aK (bB x (F x I) Y) ?_;rintro v A ⟨rfl,m,rfl,hm⟩;refine aG ?_;refine bC (n+m) _ _ (by simp;omega) rfl
  .refine de ?_;refine⟨rfl,_,rfl,?_⟩;have:t.l.length*k<=1*k:=p0 k B;omega
def Q3:∀(k)(t),GT k t->k<1000->iS C 319 [.J (.agg t.cells)] λv=>∃a6,v=.agg a6.cells/\GT k a6:=by
 intro k;induction k with
 |zero=>intro t h;exact h.elim
 |succ k bB=>
  intro t h az;refine Q.z 319 (ia [(0,[4,8],[⟨true,3,1,900,54,2⟩],[1,2,3,900])]) rfl rfl ?_;have⟨cb,B,aE,bt,F⟩:=h;have fy:(t.l.map ai.row).length=t.l.length:=bW;refine aG ?_;refine ko ai.row t.l 7 (λd (aM:List ai)=>[(3,.bH 3 0)]) (λd aM=>[(1,.box 54 2 (.cc t.cells)),(2,.box 54 2 (.bE [.J (.str []),.bT])),(3,.box 54 2 (.bE [.J (.str t.aR),.bQ 900])),(900,.arr 54 2 (aM.map ai.row) true)]) (λd aM=>aM.length=d.length/\∀x∈aM,GT k x) ⟨[],⟨rfl,λx I=>by cases I⟩,rfl⟩ (λd aM x r ba ar aV ad bo bC=>?_) (λaM ba bo=>?_)
  .rw[ai.dF] at ad;have I:x∈t.l:=by simp [ar]
   have aJ:d=[]:=by rw[ar] at B;cases d with|nil=>rfl|cons a l=>simp at B
   subst aJ;have⟨dD,dQ⟩:=bo;have K:(aM.map ai.row).length=0:=by rw[dt];exact dD
   refine tl ?_;refine aK (bB x (F x I) Y) ?_;rintro v A ⟨rfl,a6,rfl,hS⟩;refine b8 ?_;refine bC (aM++[a6]) _ _ ⟨by simp [dD],λy ap=>?_⟩ ?_
   .rcases jD.1 ap with ap|ap
    .exact dQ y ap
    .rw[iF.1 ap];exact hS
   .rw[qn,y6,ai.dF a6];rfl
  .refine de ?_;have⟨dD,dQ⟩:=bo;refine⟨rfl,.mk t.aR 109 aM,rfl,cb,by rw[<-dD] at B;exact B,.inr (by show 109 / 2=54;decide),λar=>?_,dQ⟩;intro aB;have aB:aM=[]:=aB;rw[aB] at dD;exact bt ar (List.eq_nil_of_length_eq_zero dD.symm)
end
section
variable{C:Nat->cG}{ext:Nat->Option e0}{ab:fD}(Q:Env C ext ab)
include Q
omit Q in
def nW{α:Type}(f:α->di){l:List α}{i}(aH:i<(l.map f).length):∃x∈l,ib (l.map f) i=f x:=by have⟨x,r,B,_,F⟩:=afh aH rfl;exact⟨x,by rw[B];simp,F⟩
def afM(M k)(aw:∀a b,GT M a->GT k b->iS C 320 [.J (.agg a.cells),.J (.agg b.cells)] λv=>∃b,v=.bool b)(g1 g2)(df cH:List ai)(K:df.length<1000)(B:∀x∈df,GT M x)(F:∀x∈cH,GT k x):iS C 331 [.J (.aQ g1 (df.map ai.row)),.J (.aQ g2 (cH.map ai.row))] λv=>∃b,v=.bool b:=by
 refine Q.z 331 (ia [(0,[5,6],[],[])]) rfl rfl ?_;have m1:(df.map ai.row).length=df.length:=dt ..;have m2:(cH.map ai.row).length=cH.length:=dt ..;refine aG ?_;refine f4 (fK (λax=>?_) (λax=>?_))
 .refine aG ?_;refine Qz (df.map ai.row).length 3 (λi (_:Unit)=>[]) (λi _=>[]) (λi _=>True) ⟨(),trivial,rfl⟩ (λi _ ba aV bo bC=>?_) (λ_ ba bo=>?_)
  .have⟨x,I,ad⟩:=nW ai.row aV;have fv:=aV;rw[ax] at fv;have⟨y,ap,eM⟩:=nW ai.row fv;rw[ai.dF] at ad eM
   (conv=>whnf)
   repeat(first|refine⟨fv,⟨_,eM,?_⟩⟩|refine .yes (cZ.2 aV) ?_|refine⟨aV,⟨_,ad,?_⟩⟩|refine bn ?_);(conv=>whnf)
   refine aK (aw x y (B x I) (F y ap)) ?_;rintro v A ⟨rfl,b,rfl⟩
   (conv=>whnf)
   repeat' (first|refine bn ?_|refine aN ?_|refine s2 ?_ ?_<;>intros|fail)<;>(conv=>whnf)
   .exact bC () _ _ trivial rfl
   .exact⟨rfl,_,rfl⟩
  .refine de ?_;exact⟨rfl,_,rfl⟩
 .refine aG ?_;exact⟨rfl,_,rfl⟩
def alP:∀(M k)(a b),GT M a->GT k b->iS C 320 [.J (.agg a.cells),.J (.agg b.cells)] λv=>∃b,v=.bool b:=by
 intro M;induction M with
 |zero=>intro _ _ _ h;exact h.elim
 |succ M bB=>
  intro k a b aD av;cases k with
  |zero=>exact av.elim
  |succ k=>
   refine Q.z 320 cY rfl rfl ?_;refine aG ?_;refine cC (λ_=>?_) (λ_=>?_)
   .refine aG ?_;refine aK (afM Q M k (bB k) _ _ a.l b.l (by have:=aD.2.1;omega) aD.2.2.2.2 av.2.2.2.2) ?_;rintro v A ⟨rfl,b,rfl⟩;refine aG ?_;exact⟨rfl,_,rfl⟩
   .refine aG ?_;exact⟨rfl,_,rfl⟩
def adW(M k)(a b)(aD:GT M a)(av:GT k b):iS C 286 [.J (.agg a.cells),.J (.agg b.cells)] λv=>∃b,v=.bool b:=by refine Q.z 286 cY rfl rfl ?_;refine aG ?_;refine aK (alP Q M k a b aD av) ?_;rintro v A ⟨rfl,b,rfl⟩;refine aG ?_;exact⟨rfl,_,rfl⟩
def JM(M k)(a b)(aD:GT M a)(av:GT k b):iS C 224 [.J (.agg a.cells),.J (.agg b.cells)] λv=>∃b,v=.bool b:=by refine Q.z 224 cY rfl rfl ?_;refine aG ?_;refine aK (adW Q M k a b aD av) ?_;rintro v A ⟨rfl,b,rfl⟩;refine aG ?_;exact⟨rfl,_,rfl⟩
def UI(g)(l:List bM)(s:bM)(K:l.length<1000000):iS C 318 [.J (.aQ g (l.map cu)),.J (.str s)] λv=>(v=.int 3 18446744073709551615\/∃i,i<l.length/\v=.int 3 i):=by
 refine Q.z 318 (ia [(0,[3,4,8,9],[],[])]) rfl rfl ?_;have hm:(l.map cu).length=l.length:=bW;refine aG ?_;refine ko cu l 7 (λd (_:Unit)=>[]) (λd _=>[]) (λd _=>True) ⟨(),trivial,rfl⟩ (λd _ x r ba ar aV ad bo bC=>?_) (λ_ ba bo=>?_)
 .refine dx ?_;refine cC (λ_=>?_) (λ_=>?_)
  .refine aG ?_;exact⟨rfl,.inr ⟨_,Y,rfl⟩⟩
  .refine aG ?_;exact bC () _ _ trivial rfl
 .refine de ?_;exact⟨rfl,.inl rfl⟩
def LH(g)(l:List bM)(s:bM)(K:l.length<1000000):iS C 284 [.J (.aQ g (l.map cu)),.J (.str s)] λv=>∃b,v=.bool b:=by
 refine Q.z 284 (ia [(0,[3,7,8],[],[])]) rfl rfl ?_;have hm:(l.map cu).length=l.length:=bW;refine aG ?_;refine ko cu l 6 (λd (_:Unit)=>[]) (λd _=>[]) (λd _=>True) ⟨(),trivial,rfl⟩ (λd _ x r ba ar aV ad bo bC=>?_) (λ_ ba bo=>?_)
 .refine dx ?_;refine cC (λ_=>?_) (λ_=>?_)
  .refine aG ?_;exact⟨rfl,_,rfl⟩
  .refine aG ?_;exact bC () _ _ trivial rfl
 .refine de ?_;exact⟨rfl,_,rfl⟩
def ahP(M)(bb:M<1000)(g g2)(names:List bM)(e1:aO)(aB:names.length<1000)(ak:e1.length=names.length)(bO:∀n∈e1,n<=1000):∀(k)(t),GT k t->k<1000->iS C 316 [.J (.agg t.cells),.J (.aQ g (names.map cu)),.J (.aQ g2 (e1.map λn=>[.int 3 n]))] λv=>∃n,v=.int 3 n/\n<=10000:=by
 intro k;induction k with
 |zero=>intro t h;exact h.elim
 |succ k bB=>
  intro t h az;refine Q.z 316 (ia [(0,[7,12,13],[],[3])]) rfl rfl ?_;have⟨_,B,_,_,F⟩:=h;have fy:(t.l.map ai.row).length=t.l.length:=dt ..;have wC:(e1.map λn=>[b2.int 3 n]).length=e1.length:=dt ..;refine aG ?_;refine aK (UI Q g names t.aR (by omega)) ?_;rintro v A ⟨rfl,rfl|⟨i,aH,rfl⟩⟩;case' inr=>
   have fv:i<(e1.map λn=>[b2.int 3 n]).length:=by omega
   have⟨n,qt,ad⟩:=nW (λn=>[b2.int 3 n]) fv;have ad:ib (e1.map λn=>[b2.int 3 n]) i=[b2.int 3 n]:=ad;have kY:=bO n qt;refine aG ?_;refine iN (λ_=>?_) (λh=>by omega);refine aG ?_;refine fK (λax=>?_) (λax=>?_)
   ·(conv=>whnf)
    repeat(first|refine⟨fv,⟨_,ad,?_⟩⟩|refine bn ?_);(conv=>whnf)
    exact⟨rfl,_,rfl,by omega⟩
   refine aG ?_
  case' inl=>
   refine aG ?_;refine l8.mW ?_
   (conv=>whnf)
   repeat(first|refine .no qj ?_|refine bn ?_);(conv=>whnf)
  all_goals
   refine ko ai.row t.l 11 (λd (n:Nat)=>[(6,.J (.int 3 n))]) (λd n=>[(3,.box 54 2 (.cc t.cells))]) (λd n=>n<=4096) ⟨1,by simp,rfl⟩ (λd n x r ba ar aV ad bo bC=>?_) (λn ba bo=>?_)
   .rw[ai.dF] at ad;have I:x∈t.l:=by simp [ar]
    refine dx ?_;refine aK (bB x (F x I) (by omega)) ?_;rintro v A ⟨rfl,m,rfl,hm⟩
    (conv=>whnf)
    repeat' (first|refine bn ?_|refine aN ?_|refine s2 ?_ ?_<;>intros|fail)<;>(conv=>whnf)
    .exact⟨rfl,_,rfl,by decide⟩
    .exact bC (n+m) _ _ (by assumption) rfl
   .refine de ?_;exact⟨rfl,_,rfl,by omega⟩
def aqr(M)(bb:M<1000)(g g2)(names:List bM)(mL:List ai)(aB:names.length<1000)(ak:mL.length=names.length)(bO:∀t∈mL,GT M t):∀(k)(t),GT k t->k<1000->iS C 317 [.J (.agg t.cells),.J (.aQ g (names.map cu)),.J (.aQ g2 (mL.map ai.row))] λv=>∃a6,v=.agg a6.cells/\GT (k+M) a6:=by
 intro k;induction k with
 |zero=>intro t h;exact h.elim
 |succ k bB=>
  intro t h az;refine Q.z 317 (ia [(0,[7,12],[⟨true,8,1,900,54,2⟩],[3,6,8,900])]) rfl rfl ?_;have⟨cb,B,aE,bt,F⟩:=h;have fy:(t.l.map ai.row).length=t.l.length:=dt ..;have wC:(mL.map ai.row).length=mL.length:=dt ..;refine aG ?_;refine aK (UI Q g names t.aR (by omega)) ?_;rintro v A ⟨rfl,rfl|⟨i,aH,rfl⟩⟩;case' inr=>
   have fv:i<(mL.map ai.row).length:=by omega
   have⟨n,qt,ad⟩:=nW ai.row fv;rw[ai.dF] at ad;have kY:=bO n qt;refine aG ?_;refine iN (λ_=>?_) (λh=>by omega);refine aG ?_;refine fK (λax=>?_) (λax=>?_)
   ·(conv=>whnf)
    repeat(first|refine⟨fv,⟨_,ad,?_⟩⟩|refine bn ?_);(conv=>whnf)
    refine aK (Q3 Q M n kY bb) ?_;rintro v A ⟨rfl,a6,rfl,hS⟩;refine aG ?_;exact⟨rfl,a6,rfl,hS.mono (by omega)⟩
   refine aG ?_
  case' inl=>
   refine aG ?_;refine l8.mW ?_
   (conv=>whnf)
   repeat(first|refine .no qj ?_|refine bn ?_);(conv=>whnf)
  all_goals
   refine ko ai.row t.l 11 (λd (aM:List ai)=>[]) (λd aM=>[(3,.box 54 2 (.cc t.cells)),(6,.box 54 2 (.bE [.J (.str []),.bT])),(8,.box 54 2 (.bE [.J (.str t.aR),.bQ 900])),(900,.arr 54 2 (aM.map ai.row) true)]) (λd aM=>aM.length=d.length/\∀x∈aM,GT (k+M) x) ⟨[],⟨rfl,λx I=>by cases I⟩,rfl⟩ (λd aM x r ba ar aV ad bo bC=>?_) (λaM ba bo=>?_)
   .rw[ai.dF] at ad;have I:x∈t.l:=by simp [ar]
    have aJ:d=[]:=by rw[ar] at B;cases d with|nil=>rfl|cons a l=>simp at B
    subst aJ;have⟨dD,dQ⟩:=bo;have K:(aM.map ai.row).length=0:=by rw[dt];exact dD
    refine tl ?_;refine aK (bB x (F x I) (by omega)) ?_;rintro v A ⟨rfl,a6,rfl,hS⟩;refine b8 ?_;refine bC (aM++[a6]) _ _ ⟨by simp [dD],λy ap=>?_⟩ ?_
    .rcases jD.1 ap with ap|ap
     .exact dQ y ap
     .rw[iF.1 ap];exact hS
    .rw[qn,y6,ai.dF a6];rfl
   .refine de ?_;have⟨dD,dQ⟩:=bo;rw[show k+1+M=k+M+1 by omega];refine⟨rfl,.mk t.aR 109 aM,rfl,cb,by rw[<-dD] at B;exact B,.inr (by show 109 / 2=54;decide),λar=>?_,dQ⟩;intro aB;have aB:aM=[]:=aB;rw[aB] at dD;exact bt ar (List.eq_nil_of_length_eq_zero dD.symm)
end
section
variable{C:Nat->cG}{ext:Nat->Option e0}{ab:fD}(Q:Env C ext ab)
include Q
omit Q in
def afb{s:bM}{i}(aV:i<s.length)(h:s[i].toNat=46):(46:UInt8)∈s:=by rw[show(46:UInt8)=s[i] from HN.1 h.symm];exact Jn aV
def Yd(s:bM)(ak:s.length<100000):iS C 314 [.J (.str s)] λv=>∃n,v=.int 3 n/\(n=1->46∈s):=by
 refine Q.z 314 (ia [(0,[4,5],[],[])]) rfl rfl ?_;refine aG ?_;refine Qz s.length 3 (λi (n:Nat)=>[(2,.J (.int 3 n))]) (λi _=>[]) (λi n=>n<=i/\(0<n->46∈s)) ⟨0,⟨by omega,by omega⟩,rfl⟩ (λi n ba aV bo bC=>?_) (λn ba bo=>?_)
 .have ad:s[i]?=some s[i]:=na aV;refine dx ?_
  (conv=>whnf)
  repeat' (first|refine bn ?_|refine aN ?_|refine s2 ?_ ?_<;>intros|fail)<;>(conv=>whnf)
  .exact bC (n+1) _ _ ⟨by omega,λ_=>afb aV (by assumption)⟩ rfl
  .exact bC n _ _ ⟨by omega,bo.2⟩ rfl
 .refine de ?_;exact⟨rfl,_,rfl,λh=>bo.2 (by omega)⟩
def ai5(M k)(bb:M<1000)(az:k<1000)(t)(al:GT k t)(g g2)(names:List bM)(mL:List ai)(aB:names.length<1000)(av:mL.length<1000)(bO:∀t∈mL,GT M t):iS C 283 [.J (.agg t.cells),.J (.aQ g (names.map cu)),.J (.aQ g2 (mL.map ai.row))] λv=>∃(a6:ai)(e:Nat),v=.eJ [.agg a6.cells,.int 3 e]/\GT (k+M+1) a6:=by
 refine Q.z 283 (ia [(0,[7,8,13,14],[⟨false,6,0,900,3,1⟩],[3,6,900])]) rfl rfl ?_;have m1:(names.map cu).length=names.length:=bW;have m2:(mL.map ai.row).length=mL.length:=bW;have iI:GT (k+M+1) (ai.mk [] 1 []):=GT.nil ag ag Y;refine aG ?_;refine f4 (fK (λax=>?_) (λax=>?_))
 .refine aG ?_;refine ko cu names 12 (λd (aM:aO)=>[(6,.bQ 900)]) (λd aM=>[(3,.box 54 2 (.cc t.cells)),(6,.box 54 2 (.bE [.J (.str []),.bT])),(900,.arr 3 1 (aM.map λn=>[.int 3 n]) true)]) (λd aM=>aM.length=d.length/\∀n∈aM,n<=1000) ⟨[],⟨rfl,λx I=>by cases I⟩,rfl⟩ (λd aM x r ba ar aV ad bo bC=>?_) (λaM ba bo=>?_)
  .have⟨y,ap,yg⟩:=nW cu (l:=names) (i:=0) Y;have aJ:d.length<1000:=Y;have ks:((names.map cu).drop 0).take (d.length - 0)=d.map cu:=by rw[ar];simp
   have fv:d.length<(mL.map ai.row).length:=Y;have⟨z,afi,eM⟩:=nW ai.row fv;rw[ai.dF] at eM;have⟨dD,dQ⟩:=bo;have K:(aM.map λn=>[b2.int 3 n]).length=aM.length:=bW
   (conv=>whnf)
   repeat(first|refine jM.mk _ yg ?_|refine .yes (cZ.2 aV) ?_|refine⟨aV,⟨_,ad,?_⟩⟩|refine b9 ?_);(conv=>whnf)
   rcases Nat.eq_zero_or_pos d.length with cb|cb
   case' inl=>refine u0.zero rfl cb ?_;refine aG ?_;refine aK (LH Q 0 [] x ag) ?_
   case' inr=>refine u0.some cb Y ?_;rw[ks];refine aG ?_;refine aK (LH Q _ d x Y) ?_
   all_goals
    rintro v A ⟨rfl,b,rfl⟩
    (conv=>whnf)
    repeat' (first|refine⟨fv,⟨_,eM,?_⟩⟩|(refine aK (ajv Q M z (bO z afi) bb) ?_;rintro v A ⟨rfl,n,rfl,kY⟩)|refine b9 ?_|refine aN ?_|refine s2 ?_ ?_<;>intros|fail)<;>(conv=>whnf)
    .exact⟨rfl,ai.mk [] 1 [],_,rfl,iI⟩
    .refine bC (aM++[n]) _ _ ⟨by simp [dD],λy ap=>?_⟩ (by rw[qn];rfl);rcases jD.1 ap with ap|ap
     .exact dQ y ap
     .rw[iF.1 ap];omega
  .refine de ?_;refine aK (ahP Q M bb g _ names aM aB Y bo.2 k t al az) ?_;rintro v A ⟨rfl,n,rfl,kY⟩
   (conv=>whnf)
   repeat' (first|refine bn ?_|refine aN ?_|refine s2 ?_ ?_<;>intros|fail)<;>(conv=>whnf)
   .exact⟨rfl,ai.mk [] 1 [],_,rfl,iI⟩
   refine aK (aqr Q M bb g g2 names mL aB Y bO k t al az) ?_;rintro v A ⟨rfl,a6,rfl,hS⟩;refine aG ?_;exact⟨rfl,a6,_,rfl,hS.mono Y⟩
 .refine aG ?_;exact⟨rfl,ai.mk [] 1 [],_,rfl,iI⟩
def wS(M k)(bb:M<1000)(az:k<1000)(t)(al:GT k t)(g g2)(names:List bM)(mL:List ai)(aB:names.length<1000)(av:mL.length<1000)(bO:∀t∈mL,GT M t):iS C 220 [.J (.agg t.cells),.J (.aQ g (names.map cu)),.J (.aQ g2 (mL.map ai.row))] λv=>∃a6,v=.agg a6.cells/\GT (k+M+1) a6:=by refine Q.z 220 cY rfl rfl ?_;refine aG ?_;refine aK (ai5 Q M k bb az t al g g2 names mL aB av bO) ?_;rintro v A ⟨rfl,a6,e,rfl,h⟩;refine aG ?_;exact⟨rfl,a6,rfl,h⟩
def Md(s:bM)(ak:s.length<100000):iS C 282 [.J (.str s)] λv=>∃a b ok,v=.eJ [.str a,.str b,.bool ok]:=by
 refine Q.z 282 (ia [(0,[6],[],[])]) rfl rfl ?_;refine aG ?_;refine aK (Yd Q s ak) ?_;rintro v A ⟨rfl,n,rfl,aB⟩;refine aG ?_;refine f4 (fK (λax=>?_) (λax=>?_))
 .have LX:=aB ax;have hm:=List.idxOf_lt_length_of_mem LX;have au:s[s.idxOf 46]?=some 46:=by rw[na hm,List.getElem_idxOf]
  have K:0<s.length:=Y;have yg:s[0]?=some s[0]:=na K;have w5:s[s.length - 1]?=some (s[s.length - 1]' Y):=na Y
  (conv=>whnf)
  repeat' (first|refine⟨K,⟨_,yg,?_⟩⟩|refine⟨(Y:s.length - 1<s.length),⟨_,w5,?_⟩⟩|refine bn ?_|refine aN ?_|refine s2 ?_ ?_<;>intros|fail)<;>(conv=>whnf)
  .exact⟨rfl,_,_,_,rfl⟩
  .exact⟨rfl,_,_,_,rfl⟩
  refine FK (λi:Nat=>[(4,.J (.int 3 i))]) (λi=>[]) (λi=>s.length - i) (λi=>i<=s.idxOf 46) ⟨0,mz _,rfl⟩ ?_;intro i ba bo bC;have aV:i<s.length:=Y;have ad:s[i]?=some s[i]:=na aV;refine dx ?_;refine f4 (fK (λax=>?_) (λax=>?_))
  .refine b8 ?_;exact⟨rfl,_,_,_,rfl⟩
  .have dB:i≠s.idxOf 46:=λh=>ax (by subst h;rw[ad] at au;injection au with au;rw[au];rfl);refine b8 ?_;exact bC (i+1) _ _ Y Y rfl
 .refine aG ?_;exact⟨rfl,_,_,_,rfl⟩
end
section
variable{C:Nat->cG}{ext:Nat->Option e0}{ab:fD}(Q:Env C ext ab)
include Q
variable{g:Nat}(bi:l6 ab)
include bi
def acR(gl gZ)(L:List ai)(G:List cX)(cn:L.length<1000)(EX:G.length<1000)(B:∀t∈L,yn t)(F:∀x∈G,mY x):∀(d),d<100->∀(a),a<=ab.length->bj C [] 110 [.bH 1000 0,.J (.aQ gl (L.map ai.row)),.J (.aQ gZ (G.map cX.row)),.J (.int 3 d)] [(1000,dH g ab a)] (Ge g ab λv=>∃t,v=.agg t.cells/\GT (d+2) t):=by
 intro d;have m1:(L.map ai.row).length=L.length:=bW;have m2:(G.map cX.row).length=G.length:=bW;have Uj:∀s:bM,s.length<=300->s≠[65,114,114,97,121]->∀k,GT (k+1) (ai.mk s 1 []):=λs B F k=>GT.nil B F Y;induction d using Nat.strongRecOn with
 |ind d bB=>
  intro aJ a aD;refine Q.z 110 (ia [(1,[15,16],[⟨true,12,1,900,54,2⟩],[8,11,12,900,1000])]) rfl rfl ?_;refine aG ?_;refine eT (λzt=>?_) (λzt=>?_);all_goals
   refine aG ?_
   refine aK (fR Q bi a _ aD Y Y) ?_
   rintro v A ⟨⟨r,rfl,ad⟩,bN,gk,rfl⟩
   refine aG ?_
   refine eT (λah=>?_) (λah=>?_)
   .have:r=0\/r=1\/r=2:=Y;rcases this with rfl|rfl|rfl
    all_goals
     (conv=>whnf)
     repeat(first|refine gz.mk ag (jM.mk _ rfl ?_)|refine gz.mk ag ?_|refine jM.mk _ rfl ?_|refine cT (ou Q _) ?_|refine bn ?_);(conv=>whnf)
     exact⟨⟨_,rfl,Uj _ ag ag _⟩,bN,gk,rfl⟩
   refine aG ?_
   refine eT (λaE=>?_) (λaE=>?_)
   .have fv:r - 3<(G.map cX.row).length:=Y;have⟨x,I,eM⟩:=nW cX.row fv;have eM:ib (G.map cX.row) (r - 3)=[.str x.aR,.aQ x.g (x.dZ.map cu)]:=eM
    (conv=>whnf)
    repeat(first|refine⟨fv,⟨_,eM,?_⟩⟩|refine cT (ou Q _) ?_|refine bn ?_);(conv=>whnf)
    exact⟨⟨_,rfl,Uj _ (by have:=(F x I).aR;omega) (F x I).arr _⟩,bN,gk,rfl⟩
   refine aG ?_
   refine eT (λbt=>?_) (λbt=>?_)
   .have fv:r - 3 - (G.map cX.row).length<(L.map ai.row).length:=Y;have⟨t,al,eM⟩:=nW ai.row fv;rw[ai.dF] at eM;have⟨dl,cB,dV⟩:=B t al;have gO:=(B t al).arr;have fy:(t.l.map ai.row).length=t.l.length:=bW
    (conv=>whnf)
    repeat((first|refine⟨fv,⟨_,eM,?_⟩⟩|refine bn ?_);(conv=>whnf))
    refine ko ai.row t.l 14 (λ_ (_:List ai×Nat)=>[]) (λ_ b=>[(8,.box 54 2 (.bE [.J (.str []),.bT])),(11,.box 54 2 (.cc t.cells)),(12,.box 54 2 (.bE [.J (.str t.aR),.bQ 900])),(900,.arr 54 2 (b.1.map ai.row) true),(1000,dH g ab b.2)]) (λe b=>b.1.length=e.length/\(∀x∈b.1,GT (d+1) x)/\b.2<=ab.length) ⟨([],bN),⟨rfl,(λx I=>by cases I),gk⟩,rfl⟩ (λe b x cl ba ar aV ad bo bC=>?_) (λb ba bo=>?_)
    .have⟨aM,a2⟩:=b;have⟨dD,dQ,fi⟩:=bo;have Tc:e=[]:=by rw[ar] at cB;cases e with|nil=>rfl|cons a l=>simp at cB
     subst Tc;have K:(aM.map ai.row).length=0:=by rw[dt];exact dD
     (conv=>whnf)
     repeat((first|refine .yes (cZ.2 aV) ?_|refine⟨aV,⟨_,ad,?_⟩⟩|refine b9 ?_);(conv=>whnf))
     refine iN (λb1=>?_) (λb1=>?_)
     ·(conv=>whnf)
      repeat((first|(refine aK (ou Q _) ?_;rintro v A ⟨rfl,rfl⟩)|refine b9 ?_);(conv=>whnf))
      refine bC (aM++[ai.mk [73,110,116] 1 []],a2) _ _ ⟨by simp [dD],λy ap=>?_,fi⟩ (by rw[qn,y6,ai.dF];rfl);rcases jD.1 ap with ap|ap
      .exact dQ y ap
      .rw[iF.1 ap];exact Uj _ ag ag _
     .have ep:0<d:=Y;refine b8 ?_;refine aK (bB (d - 1) Y Y a2 fi) ?_;rintro v A ⟨⟨a6,rfl,hS⟩,a3,eA,rfl⟩;refine b8 ?_;refine bC (aM++[a6],a3) _ _ ⟨by simp [dD],λy ap=>?_,eA⟩ (by rw[qn,y6,ai.dF a6];rfl);rcases jD.1 ap with ap|ap
      .exact dQ y ap
      .rw[iF.1 ap];exact hS.mono Y
    .have⟨aM,a2⟩:=b;have⟨dD,dQ,fi⟩:=bo;refine de ?_;exact⟨⟨ai.mk t.aR 109 aM,rfl,dl,by rw[<-dD] at cB;exact cB,.inr (by show 109 / 2=54;decide),λar=>absurd ar gO,dQ⟩,a2,fi,rfl⟩
   have ep:0<d:=Y
   refine aG ?_
   refine aK (bB (d - 1) Y Y bN gk) ?_
   rintro v A ⟨⟨a6,rfl,hS⟩,a3,eA,rfl⟩
   refine aG ?_
   refine cj (R5 Q _ _ _) ?_
   refine⟨⟨ai.mk [65,114,114,97,121] 108 [a6],?_,GT.one ag ag (hS.mono Y)⟩,a3,eA,rfl⟩
   show b2.agg [.str _,.aQ 108 [a6.cells]]=b2.agg [.str _,.aQ 108 [a6.row]]
   rw[ai.dF]
   rfl
omit bi
def alM(M k)(ef)(V:List cD)(eZ:V.length<10000)(B:∀x∈V,GT M x.bK)(t)(al:GT k t):iS C 221 [.J (.aQ ef (V.map cD.row)),.J (.agg t.cells)] λv=>∃(g:Nat)(l:List bM),v=.aQ g (l.map cu)/\l.length<=V.length/\∀s∈l,∃x∈V,s=x.aR:=by
 refine Q.z 221 (ia [(0,[5,9,10],[⟨false,4,0,900,9,1⟩],[3,900])]) rfl rfl ?_;have m1:(V.map cD.row).length=V.length:=bW;refine aG ?_;refine ko cD.row V 8 (λ_ (_:List bM)=>[(4,.bQ 900)]) (λ_ l=>[(3,.box 54 2 (.cc t.cells)),(900,.arr 9 1 (l.map cu) true)]) (λd l=>l.length<=d.length/\∀s∈l,∃x∈V,s=x.aR) ⟨[],⟨by simp,λx I=>by cases I⟩,rfl⟩ (λd l x r ba ar aV ad bo bC=>?_) (λl ba bo=>?_)
 .have⟨dD,dQ⟩:=bo;have K:(l.map cu).length=l.length:=bW;unfold cD.row at ad;simp only[jF,kv] at ad;have I:x∈V:=by simp [ar]
  refine dx ?_;refine aK (JM Q M k x.bK t (B x I) al) ?_;rintro v A ⟨rfl,b,rfl⟩;have aJ:d.length<V.length:=Y
  (conv=>whnf)
  repeat' (first|refine b9 ?_|refine aN ?_|refine s2 ?_ ?_<;>intros|fail)<;>(conv=>whnf)
  .refine bC (l++[x.aR]) _ _ ⟨pu,λs ak=>?_⟩ (by rw[qn];rfl);rcases jD.1 ak with ak|ak
   .exact dQ s ak
   .rw[iF.1 ak];exact⟨x,I,rfl⟩
  .exact bC l _ _ ⟨pu,dQ⟩ rfl
 .refine de ?_;exact⟨rfl,_,l,rfl,bo.1,bo.2⟩
omit Q in
def al1{α:Type}{f}{N:di->Bool}(l:List α)(h:∀x,N (f x)):(l.map f).all N:=by rw[HF];exact f0.2 λx _=>h x
abbrev aj.nil:aj:=.mk 0 [] [] 0 1 [] 1 [] 1 [] 1 [] (.mk [] 1 []) 0
abbrev cD.new(s:bM)(t:ai):cD:=⟨s,t,false,aj.nil⟩
def WQ(ef)(V)(eZ:V.length<10000)(s:bM)(t):iS C 117 [.J (.aQ ef (V.map cD.row)),.J (.str s),.J (.agg t.cells)] λv=>∃g,v=.aQ g ((V++[cD.new s t]).map cD.row):=by
 refine Q.z 117 cY rfl rfl ?_;have m1:(V.map cD.row).length=V.length:=dt ..
 (conv=>whnf)
 repeat(first|refine gz.mk ⟨al1 V λx=>rfl,by omega⟩ ?_|refine b9 ?_);(conv=>whnf)
 exact⟨rfl,_,by rw[qn];rfl⟩
abbrev OW(gl:Nat)(jn:List bM)(x:cV):eS:=.box 70 12 (.bE ([.bH 1001 0,.J (.aQ 1 []),.J (.aQ gl (jn.map cu))]++x.cells.map .J))
end
structure Hj(a:fC):Prop where
 case:a.case.length<=100
 len:a.names.length<=10
 aR:∀s∈a.names,s.length<=100
 Ue:gV 9 a.g a.names
structure R9(e:aj):Prop where
 aR:e.aR.length<=300
 mem:e.mem.length<=300
 kind:e.kind<100
 num:e.num<18446744073709551616
 oa:e.types.length<=5
 bK:∀t∈e.types,GT 400 t
 m1:gV 54 e.g1 e.types
 zw:e.fM.length<=20
 ua:∀s∈e.fM,s.length<=300
 m2:gV 9 e.g2 e.fM
 iE:e.fV.length<=20
 lb:∀a∈e.fV,Hj a
 m3:gV 231 e.g3 e.fV
 Xz:e.kids.length<=12
 m4:gV 61 e.g4 e.kids
 z:e.bK=.mk [] 1 []
def GE:Nat->aj->Prop
 |0,_=>False
 |n+1,e=>R9 e/\∀x∈e.kids,GE n x
def GE.mono:∀{k}{e},GE k e->∀{M},k<=M->GE M e
 |k+1,e,h,M,bb=>by
  cases M with
  |zero=>omega
  |succ M=>exact⟨h.1,λx I=>(h.2 x I).mono Y⟩
def Hj.ok{a}(h:Hj a):a.ok:=⟨by have:=h.case;omega,by have:=h.len;omega,λs ak=>by have:=h.aR s ak;omega⟩
def R9.nM(h:R9 e):e.nM:=
 ⟨by have:=h.aR;omega,by have:=h.mem;omega,by have:=h.oa;omega,λt al=>(h.bK t al).bL Y,by have:=h.zw;omega,λs ak=>by have:=h.ua s ak;omega,by have:=h.iE;omega,λa aD=>(h.lb a aD).ok,by have:=h.Xz;omega,by have:=h.kind;omega,h.num⟩
def GE.ok:∀{k}{e},GE k e->e.ok
 |k+1,e,h=>(aj.u2 e).2 ⟨h.1.nM,λx I=>(h.2 x I).ok⟩
theorem Yu{bc}:∀(l),(∀x∈l,x.size<=bc)->aj.e1 l<=l.length*bc
 |[],_=>by simp [aj.e1]
 |a::l,h=>by have B:=h a List.mem_cons_self;have F:=Yu l λx I=>h x (List.mem_cons_of_mem _ I);simp only[aj.e1,List.length_cons,Nat.succ_mul];omega
def GE.size:∀{k}{e},GE k e->e.size<=13 ^ k
 |k+1,e,h=>by have B:=Yu (bc:=13 ^ k) e.kids λx I=>(h.2 x I).size;have F:e.kids.length*13 ^ k<=12*13 ^ k:=p0 _ h.1.Xz;have ah:0<13 ^ k:=Nat.pow_pos ag;rw[aj.size_eq,Nat.pow_succ];omega
def GE.bL{k}(h:GE k e)(az:k<=10):e.bL:=⟨h.ok,by have B:=h.size;have F:13 ^ k<=13 ^ 10:=Nat.pow_le_pow_right ag az;have ah:(13:Nat) ^ 10<1000000000000:=ag;omega⟩
structure OF(x:eF):Prop where
 aR:x.aR.length<=100
 bK:GT 5 x.bK
structure FJ(x:ec):Prop where
 since:x.since<=1000
 aR:x.aR.length<=100
 pl:x.params.length<=1
 n7:∀s∈x.params,s.length<=100/\(46:UInt8)∉s/\s≠[65,114,114,97,121]
 m1:gV 9 x.g1 x.params
 f6:x.fields.length<=6
 kq:∀f∈x.fields,OF f
 m2:gV 84 x.g2 x.fields
structure KO(x:eP):Prop where
 aR:x.aR.length<=100
 pl:x.f8.length<=6
 n7:∀t∈x.f8,GT 5 t
 m1:gV 54 x.g x.f8
structure yB(x:eg):Prop where
 since:x.since<=1000
 aR:x.aR.length<=100
 pl:x.params.length<=1
 n7:∀s∈x.params,s.length<=100/\(46:UInt8)∉s/\s≠[65,114,114,97,121]
 m1:gV 9 x.g1 x.params
 lp:x.cases.length<=6
 ub:∀f∈x.cases,KO f
 m2:gV 87 x.g2 x.cases
structure G7(x:fW):Prop where
 aR:x.aR.length<=100
 iE:x.args.length<=5
 lb:∀t∈x.args,GT 5 t
 fk:GT 5 x.fk
 vg:x.gM.length<=100
 m1:gV 54 x.g x.args
structure N9(x:eX):Prop where
 since:x.since<=1000
 aR:x.aR.length<=100
 zw:x.fT.length<=5
 ua:∀m∈x.fT,G7 m
 m1:gV 102 x.g x.fT
structure J1(x:fc):Prop where
 dZ:x.zO.length<=300
 gl:x.fg.length<=1
 ge:∀g∈x.fg,mY g
 m1:gV 104 x.g1 x.fg
 bK:GT 5 x.bK
 RB:x.fg≠[]->(46:UInt8)∈x.bK.aR
 eT:x.binds.length<=5
 eD:∀b∈x.binds,b.yR.length<=100/\b.func.length<=100
 m2:gV 143 x.g2 x.binds
structure rl(x:cD):Prop where
 aR:x.aR.length<=100
 bK:GT 5 x.bK
 vg:GE 10 x.gM
structure mV(x:dI):Prop where
 since:x.since<=1000
 aR:x.aR.length<=100
 gl:x.fg.length<=1
 ge:∀g∈x.fg,mY g
 m1:gV 104 x.g1 x.fg
 iE:x.args.length<=5
 lb:∀a∈x.args,rl a
 m2:gV 106 x.g2 x.args
 fk:GT 5 x.fk
 t0:GE 10 x.body
structure iC(x:cV):Prop where
 kind:x.kind<=10
 rel:x.rel<=1000
 aR:x.aR.length<=100
 qp:x.lf=[]
 df:x.ea.length<=10
 dr:∀s∈x.ea,FJ s
 m1:gV 44 x.g2 x.ea
 cH:x.dW.length<=10
 c3:∀s∈x.dW,yB s
 m2:gV 47 x.g3 x.dW
 dh:x.e7.length<=3
 dY:∀s∈x.e7,N9 s
 m3:gV 50 x.g4 x.e7
 fj:x.ed.length<=30
 e9:∀s∈x.ed,J1 s
 m4:gV 57 x.g5 x.ed
 fP:x.funcs.length<=30
 f9:∀s∈x.funcs,mV s
 m5:gV 109 x.g6 x.funcs
def tN:bG->List (Nat×a1)->(bG->Prop)->Prop
 |E,[],k=>k E
 |E,(i,v)::l,k=>yf E i v λE=>tN E l k
def VA:∀(l)(E)(k),tN E l k=k (gU E l)
 |[],E,k=>rfl
 |(i,v)::l,E,k=>by simp only[tN,gU,Aj,VA l]
def AJ{E}{l}{c4}{T:be}{k:bG->be->Prop}(h:tN E l λE=>tD E c4 λE=>jK id E λE=>ky T λA=>k E A):jK id (forget (gU E l) c4) λE=>ky T λA=>k E A:=by rw[VA,DU] at h;exact h
def gG{c4 aU}{acc}{bc:(bG->be->Prop)->bG->be->Prop}{eb:bG}{gI}{α gd:Type}(f:α->di)(l:List α)(N)(dU:List α->gd->List (Nat×a1))(T:List α->gd->be)(eo:List α->gd->Prop)(cb:∃b,eo [] b/\qN acc aU (forget eb c4) gI=some (forget (gU eb ((N,.J (.int 3 0))::dU [] b)) c4,T [] b))(ak:∀d b x r (ba),l=d++x::r->d.length<(l.map f).length->ib (l.map f) d.length=f x->eo d b->(∀dA d9 bw,eo (d++[x]) dA->qN acc aU (forget d9 c4) bw=some (forget (gU eb ((N,.J (.int 3 (d.length+1)))::dU (d++[x]) dA)) c4,T (d++[x]) dA)->ba d9 bw)->tN eb ((N,.J (.int 3 d.length))::dU d b) λE=>tD E c4 λE=>jK id E λE=>ky (T d b) λA=>bc ba E A)(ar:∀b (ba),eo l b->tN eb ((N,.J (.int 3 (l.map f).length))::dU l b) λE=>tD E c4 λE=>jK id E λE=>ky (T l b) λA=>bc ba E A):qK (λba E A=>np (some ⟨c4,[],acc,aU⟩) E A λE A=>bc ba E A) eb gI:=
 ko f l N dU T eo cb (λd b x r ba B F ah aE bt=>AJ (ak d b x r ba B F ah aE bt)) (λb ba h=>AJ (ar b ba h))
def ahl{c4 aU}{acc}{bc:(bG->be->Prop)->bG->be->Prop}{eb:bG}{gI}{gd:Type}(n N)(dU:Nat->gd->List (Nat×a1))(T:Nat->gd->be)(eo:Nat->gd->Prop)(cb:∃b,eo 0 b/\qN acc aU (forget eb c4) gI=some (forget (gU eb ((N,.J (.int 3 0))::dU 0 b)) c4,T 0 b))(ak:∀i b (ba),i<n->eo i b->(∀dA d9 bw,eo (i+1) dA->qN acc aU (forget d9 c4) bw=some (forget (gU eb ((N,.J (.int 3 (i+1)))::dU (i+1) dA)) c4,T (i+1) dA)->ba d9 bw)->tN eb ((N,.J (.int 3 i))::dU i b) λE=>tD E c4 λE=>jK id E λE=>ky (T i b) λA=>bc ba E A)(ar:∀b (ba),eo n b->tN eb ((N,.J (.int 3 n))::dU n b) λE=>tD E c4 λE=>jK id E λE=>ky (T n b) λA=>bc ba E A):qK (λba E A=>np (some ⟨c4,[],acc,aU⟩) E A λE A=>bc ba E A) eb gI:=
 Qz n N dU T eo cb (λi b ba aE F bt=>AJ (ak i b ba aE F bt)) (λb ba h=>AJ (ar b ba h))
def Ta{c4 aU}{acc}{bc:(bG->be->Prop)->bG->be->Prop}{eb:bG}{gI}{α:Type}(dU:α->List (Nat×a1))(T:α->be)(pk:α->Nat)(eo:α->Prop)(cb:∃a,eo a/\qN acc aU (forget eb c4) gI=some (forget (gU eb (dU a)) c4,T a))(ak:∀a (ba),eo a->(∀bF d9 bw,pk bF<pk a->eo bF->qN acc aU (forget d9 c4) bw=some (forget (gU eb (dU bF)) c4,T bF)->ba d9 bw)->tN eb (dU a) λE=>tD E c4 λE=>jK id E λE=>ky (T a) λA=>bc ba E A):qK (λba E A=>np (some ⟨c4,[],acc,aU⟩) E A λE A=>bc ba E A) eb gI:=
 FK dU T pk eo cb λa ba B F=>AJ (ak a ba B F)
end Go.Tx
