/- A part. -/
import Derived.Test.YtkjmpcfikenlbaaGreatDoorA1
import Derived.Test.YtkjmpcfikenlbaaGreatDoorG4
set_option linter.all false
namespace Go.Tx
open Go Go.Ev
set_option maxRecDepth 100000
set_option maxHeartbeats 8000000
attribute [local irreducible] eo eA bU eE eJ eN cU eX
section
variable{C:Nat->cE}{ext:Nat->Option eS}{Q:e9}(aa:Env C ext Q)
include aa
def qu{α:Type}(p:α->α->Bool):List α->List α->Bool
 |[],[]=>true|x::a,y::b=>p x y&&qu p a b|_,_=>false
omit aa in
def S2{α:Type}(p:α->α->Bool)(a b:List α):∀d cC:List α,d.length=cC.length->qu p (d++a) (cC++b)=(qu p d cC&&qu p a b)
 |[],[],_=>by simp[qu]
 |x::d,y::cC,h=>by simp only[lJ,qu,S2 p a b d cC (by simpa using h),Bool.and_assoc]
 |[],_::_,h=>by simp at h
 |_::_,[],h=>by simp at h
omit aa in
def ZY{α:Type}(p:α->α->Bool):∀a b:List α,a.length≠b.length->qu p a b=false
 |[],[],h=>absurd rfl h
 |x::d,y::cC,h=>by rw[qu,ZY p d cC (by simpa using h),abq]
 |[],_::_,h=>rfl|_::_,[],h=>rfl
def rY(C:Nat->cE)(n:Nat){α:Type}(mf:α->di):Prop:=∀aJ,aJ=mf->∀aj an q (a b:List α) p,a.length<10000000->b.length<10000000->(∀x∈a,∀y∈b,dz C q [.J (.agg (aJ x)),.J (.agg (aJ y))] λv=>v=.bool (p x y))->dz C n [.J (.aH aj (a.map aJ)),.J (.aH an (b.map aJ)),.J (.fn q [] [])] λv=>v=.bool (qu p a b)
def qk:rY C 47 al.row/\rY C 50 ai.row/\rY C 35 dX.row/\rY C 37 dV.row/\rY C 39 eG.row/\rY C 41 em.row/\rY C 43 cu.row/\rY C 49 dI.row/\rY C 89 eT.row/\rY C 91 fl.row/\rY C 93 fS.row/\rY C 94 c3.row/\rY C 98 cG.row:=by
 refine⟨?_,?_,?_,?_,?_,?_,?_,?_,?_,?_,?_,?_,?_⟩<;>intro w cw aj an q a b p aC aB aQ
 all_goals
  refine aa.z _ (gK [(0,[4,5,6,11,12],[],[])]) rfl rfl ?_
  have hm:(a.map w).length=a.length:=bW
  have aD:(b.map w).length=b.length:=bW
  refine N ?_
  refine eQ ?_
  refine ch (λh=>?_) (λh=>?_)
  rotate_left
  .refine N ?_;exact⟨rfl,by rw[ZY p a b I]⟩
  .refine N ?_;refine kA w a 10 (λd (_:Unit)=>[]) (λd _=>[]) (λd _=>∃cC t,b=cC++t/\cC.length=d.length/\qu p d cC=true) ⟨(),⟨[],b,rfl,rfl,rfl⟩,rfl⟩ (λd _ x r ba aw be ag a7 bt=>?_) (λ_ ba a7=>?_)
   .have⟨cC,t,au,Y,bl⟩:=a7;have vt:a.length=b.length:=I;rcases t with _|⟨y,b3⟩
    .rw[kE]at au;subst au;rw[aw]at vt;simp[Y]at vt
    .have ct:fT (b.map w) d.length=w y:=by rw[au,<-Y];exact fu.k6 w cC y b3
     have gG:=aQ x (by simp[aw]) y (by simp[au]);subst cw;simp only[al.dN,ai.dN,hM.row,dX.row,eT.row,dV.row,fl.row,eG.row,fS.row,em.row,c3.row,ko.row,cu.row,cG.row,dI.row,lJ,ps,gg,hq]at ag ct gG;refine dk ?_;refine bV.mk I (dU.mk _ ct ?_);refine N ?_;refine bn gG ?_;refine eQ ?_;refine eO (λh=>?_) (λh=>?_);rotate_left
     .refine N ?_;exact⟨rfl,by rw[aw,au,S2 p _ _ d cC Y.symm,qu,h];simp⟩
     .refine N ?_;exact bt () _ _ ⟨cC++[y],b3,by simp[au],by simp[Y],by rw[S2 p _ _ d cC Y.symm,bl];simp[qu,h]⟩ rfl
   .refine dd ?_;have⟨cC,t,au,Y,bl⟩:=a7;have e:t=[]:=by
     have:b.length=cC.length+t.length:=by rw[au];simp
     exact List.eq_nil_of_length_eq_zero I
    rw[e,kE]at au;exact⟨rfl,by rw[au,bl]⟩
def HU(aj an:Nat)(a b:List bj)(aC:a.length<1000000)(aB:b.length<1000000):dz C 46 [.J (.aH aj (a.map b6)),.J (.aH an (b.map b6))] λv=>v=.bool (decide (a=b)):=by
 refine aa.z 46 (gK [(0,[3,7,8],[],[])]) rfl rfl ?_;have hm:(a.map b6).length=a.length:=bW;have aD:(b.map b6).length=b.length:=bW;refine N ?_;refine eQ ?_;refine ch (λh=>?_) (λh=>?_);rotate_left
 .refine N ?_;exact⟨rfl,by rw[pU];intro e;subst e;exact h rfl⟩
 .refine N ?_;refine kA b6 a 6 (λd (_:Unit)=>[]) (λd _=>[]) (λd _=>d<+:b) ⟨(),List.nil_prefix,rfl⟩ (λd _ x r ba aw be ag a7 bt=>?_) (λ_ ba a7=>?_)
  .have⟨t,au⟩:=a7;have Y:a.length=b.length:=I;rcases t with _|⟨y,b3⟩
   .rw[kE]at au;subst au;rw[aw]at Y;simp at Y
   .have ct:fT (b.map b6) d.length=b6 y:=by rw[<-au];exact fu.k6 b6 d y b3
    refine dk ?_;refine bV.mk I (dU.mk _ ct ?_);refine N ?_;refine eQ ?_;refine cQ (λh=>?_) (λh=>?_);rotate_left
    .refine N ?_;exact⟨rfl,by rw[pU];intro e;rw[aw,<-au]at e;simp at e;exact h e.1⟩
    .refine N ?_;subst h;exact bt () _ _ ⟨b3,by rw[<-au];simp⟩ rfl
  .refine dd ?_;exact⟨rfl,by rw[r7];exact a7.eq_of_length I⟩
end
mutual
def al.aA:al->al
 |.mk n _ l=>.mk n 0 (al.lC l)
def al.lC:List al->List al
 |[]=>[]|a::l=>a.aA::al.lC l
end
def al.KE:∀l,al.lC l=l.map al.aA
 |[]=>rfl
 |a::l=>by rw[al.lC,al.KE l];rfl
def al.jD(t:al):t.aA=.mk t.ay 0 (t.l.map al.aA):=by cases t;rw[al.aA,al.KE];rfl
open Classical in
def FF{α fH:Type}(e:α->fH):∀a b:List α,qu (λx y=>decide (e x=e y)) a b=decide (a.map e=b.map e)
 |[],[]=>by simp[qu]
 |x::a,y::b=>by rw[qu,FF e a b];simp
 |[],_::_=>by simp[qu]
 |_::_,[]=>by simp[qu]
section
variable{C:Nat->cE}{ext:Nat->Option eS}{Q:e9}(aa:Env C ext Q)
include aa
open Classical in
def z2:∀t:al,t.b0->∀u:al,u.b0->dz C 48 [.J (.agg t.cells),.J (.agg u.cells)] λv=>v=.bool (decide (t.aA=u.aA)):=
 al.ind λt bQ au u hu=>by
  have Y:=au.len;have ar:=hu.len;rw[ex]at Y ar;have dv:dz C 47 [.J (.aH t.g (t.l.map al.row)),.J (.aH u.g (u.l.map al.row)),.J (.fn 48 [] [])] λv=>v=.bool (decide (t.l.map al.aA=u.l.map al.aA)):=by have:=(qk aa).1 al.row rfl t.g u.g 48 t.l u.l (λx y=>decide (x.aA=y.aA)) I I (λx M y aE=>by rw[al.dN,al.dN];exact bQ x M (au.l0 M) y (hu.l0 aE));rw[FF]at this;exact this
  have e:(decide (t.aA=u.aA))=(iA t.ay u.ay&&decide (t.l.map al.aA=u.l.map al.aA)):=by
   rw[al.jD,al.jD];by_cases h:t.ay=u.ay
   .rw[show iA t.ay u.ay=true by unfold iA;simp[h]];simp[h]
   .rw[show iA t.ay u.ay=false by unfold iA;simpa using h];simp[h]
  rw[e];refine aa.z 48 ff rfl rfl ?_;refine N ?_;refine cQ (λh=>?_) (λh=>?_)
  .refine N ?_;refine bn dv ?_;rw[show iA t.ay u.ay=true by unfold iA;simp[h]];exact⟨rfl,by simp⟩
  .refine N ?_;rw[show iA t.ay u.ay=false by unfold iA;simpa using h];exact⟨rfl,by simp⟩
end
def dI.aA(a:dI):dI:=⟨a.ma,a.case,0,a.names⟩
mutual
def ai.aA:ai->ai
 |.mk k n m u _ bX _ fo _ ax _ l _ _=>.mk k n m u 0 (bX.map al.aA) 0 fo 0 (ax.map dI.aA) 0 (ai.lC l) (.mk [] 0 []) 0
def ai.lC:List ai->List ai
 |[]=>[]|a::l=>a.aA::ai.lC l
end
def ai.KE:∀l,ai.lC l=l.map ai.aA
 |[]=>rfl
 |a::l=>by rw[ai.lC,ai.KE l];rfl
def ai.jD(e:ai):e.aA=.mk e.kind e.ay e.mem e.num 0 (e.types.map al.aA) 0 e.cg 0 (e.bM.map dI.aA) 0 (e.kids.map ai.aA) (.mk [] 0 []) 0:=by cases e;rw[ai.aA,ai.KE];rfl
def lN{p:Prop}[Decidable p](h:¬p):(b9.bool false)=.bool (decide p):=by simp[h]
def sf{p q:Prop}[Decidable p][Decidable q](h:q↔p):(b9.bool (decide p))=.bool (decide q):=by simp[h]
section
variable{C:Nat->cE}{ext:Nat->Option eS}{Q:e9}(aa:Env C ext Q)
include aa
open Classical in
def afL(a b:dI)(aC:a.ok)(aB:b.ok):dz C 45 [.J (.agg a.row),.J (.agg b.row)] λv=>v=.bool (decide (a.aA=b.aA)):=by
 have dv:=HU aa a.g b.g a.names b.names (by have:=aC.2.1;omega) (by have:=aB.2.1;omega);have e:a.aA=b.aA↔a.ma=b.ma/\a.case=b.case/\a.names=b.names:=by simp[dI.aA]
 unfold dI.row;refine aa.z 45 ff rfl rfl ?_;refine N ?_;refine eO (λh=>?_) (λh=>?_);rotate_left
 .refine N ?_;exact⟨rfl,lN λx=>by rw[e]at x;simp[x.1]at h⟩
 refine N ?_;refine cQ (λD=>?_) (λD=>?_);rotate_left
 .refine N ?_;exact⟨rfl,lN λx=>by rw[e]at x;exact D x.2.1⟩
 refine N ?_;refine bn dv ?_;refine⟨rfl,sf ?_⟩;rw[e];simp at h;simp[h,D]
open Classical in
def SV:∀t:ai,t.b0->∀u:ai,u.b0->dz C 12 [.J (.agg t.cells),.J (.agg u.cells)] λv=>v=.bool (decide (t.aA=u.aA)):=
 ai.ind λt bQ au u hu=>by
  have⟨_,_,rW,uQ,KX,_,DP,DQ,K3,_⟩:=au.one;have⟨_,_,wN,Pv,aiO,_,al3,Wd,apg,_⟩:=hu.one;have cT:dz C 47 [.J (.aH t.aj (t.types.map al.row)),.J (.aH u.aj (u.types.map al.row)),.J (.fn 48 [] [])] λv=>v=.bool (decide (t.types.map al.aA=u.types.map al.aA)):=by have:=(qk aa).1 al.row rfl t.aj u.aj 48 t.types u.types (λx y=>decide (x.aA=y.aA)) I I (λx M y aE=>by rw[al.dN,al.dN];exact z2 aa x (uQ x M) y (Pv y aE));rw[FF]at this;exact this
  have cN:=HU aa t.an u.an t.cg u.cg I I;have el:dz C 49 [.J (.aH t.aM (t.bM.map dI.row)),.J (.aH u.aM (u.bM.map dI.row)),.J (.fn 45 [] [])] λv=>v=.bool (decide (t.bM.map dI.aA=u.bM.map dI.aA)):=by have:=(qk aa).2.2.2.2.2.2.2.1 dI.row rfl t.aM u.aM 45 t.bM u.bM (λx y=>decide (x.aA=y.aA)) I I (λx M y aE=>afL aa x y (DQ x M) (Wd y aE));rw[FF]at this;exact this
  have e0:dz C 50 [.J (.aH t.bs (t.kids.map ai.row)),.J (.aH u.bs (u.kids.map ai.row)),.J (.fn 12 [] [])] λv=>v=.bool (decide (t.kids.map ai.aA=u.kids.map ai.aA)):=by have:=(qk aa).2.1 ai.row rfl t.bs u.bs 12 t.kids u.kids (λx y=>decide (x.aA=y.aA)) I I (λx M y aE=>by rw[ai.dN,ai.dN];exact bQ x M (au.l0 M) y (hu.l0 aE));rw[FF]at this;exact this
  have e:t.aA=u.aA↔t.kind=u.kind/\t.ay=u.ay/\t.mem=u.mem/\t.num=u.num/\t.types.map al.aA=u.types.map al.aA/\t.cg=u.cg/\t.bM.map dI.aA=u.bM.map dI.aA/\t.kids.map ai.aA=u.kids.map ai.aA:=by rw[ai.jD,ai.jD];simp
  refine aa.z 12 ff rfl rfl ?_;refine N ?_;refine ch (λh=>?_) (λh=>?_);rotate_left
  .refine N ?_;exact⟨rfl,lN λx=>by rw[e]at x;exact h x.1⟩
  refine N ?_;refine cQ (λD=>?_) (λD=>?_);rotate_left
  .refine N ?_;exact⟨rfl,lN λx=>by rw[e]at x;exact D x.2.1⟩
  refine N ?_;refine cQ (λF=>?_) (λF=>?_);rotate_left
  .refine N ?_;exact⟨rfl,lN λx=>by rw[e]at x;exact F x.2.2.1⟩
  refine N ?_;refine ch (λaq=>?_) (λaq=>?_);rotate_left
  .refine N ?_;exact⟨rfl,lN λx=>by rw[e]at x;exact aq x.2.2.2.1⟩
  refine N ?_;refine bn cT ?_;refine eO (λaL=>?_) (λaL=>?_);rotate_left
  .refine N ?_;exact⟨rfl,lN λx=>by rw[e]at x;simp[x]at aL⟩
  refine N ?_;refine bn cN ?_;refine eO (λbO=>?_) (λbO=>?_);rotate_left
  .refine N ?_;exact⟨rfl,lN λx=>by rw[e]at x;simp[x]at bO⟩
  refine N ?_;refine bn el ?_;refine eO (λcr=>?_) (λcr=>?_);rotate_left
  .refine N ?_;exact⟨rfl,lN λx=>by rw[e]at x;simp[x]at cr⟩
  refine N ?_;refine bn e0 ?_;refine⟨rfl,sf ?_⟩;rw[e];simp at aL bO cr;simp[h,D,F,aq,aL,bO,cr]
end
theorem dY{p q : Prop}(h : q)(w : te q → p := by
  intro x
  (conv => whnf)
  repeat ((first | refine .nice (by omega) ?_ | refine .plain ?_ | refine .yes (by decide) ?_ | refine .no (by decide) ?_ | refine qi (by kernel_rfl) ?_); (conv => whnf))
  try refine eQ ?_
  first
  | (refine ch x.B λh => ?_; refine N ?_; exact ⟨rfl, lN λz => by (first | rw [e]at z | replace z := e z); simp_all⟩)
  | (refine cQ x.B λh => ?_; refine N ?_; exact ⟨rfl, lN λz => by (first | rw [e]at z | replace z := e z); simp_all⟩)
  | (refine eO (λh => ?_) x.B; refine N ?_; exact ⟨rfl, lN λz => by (first | rw [e]at z | replace z := e z); simp_all⟩)
  | (refine eO x.B λh => ?_; refine N ?_; exact ⟨rfl, lN λz => by (first | rw [e]at z | replace z := e z); simp_all⟩)) : p := w ⟨h⟩
def eT.aA(f:eT):eT:=⟨f.dr,f.ay,f.bL.aA⟩
def dX.aA(s:dX):dX:=⟨s.since,s.dr,s.e6,s.ay,0,s.params,0,s.fields.map eT.aA⟩
def fl.aA(c:fl):fl:=⟨c.ind,c.ay,0,c.gL.map al.aA⟩
def dV.aA(s:dV):dV:=⟨s.since,s.dr,s.e6,s.ay,0,s.params,0,s.cases.map fl.aA⟩
def fS.aA(m:fS):fS:=⟨m.ay,0,m.args.map al.aA,m.eW.aA,m.gk⟩
def eG.aA(s:eG):eG:=⟨s.since,s.dr,s.pV,s.ay,0,s.eu.map fS.aA⟩
def c3.aA(g:c3):c3:=⟨g.ay,0,g.ec⟩
def cG.aA(a:cG):cG:=⟨a.ay,a.bL.aA,a.has,a.gk.aA⟩
def cu.aA(s:cu):cu:=⟨s.since,s.dr,s.inl,s.ay,0,s.dB.map c3.aA,0,s.args.map cG.aA,s.eW.aA,s.has,s.body.aA⟩
section
variable{C:Nat->cE}{ext:Nat->Option eS}{Q:e9}(aa:Env C ext Q)
include aa
open Classical in
theorem th(n q:Nat){α:Type}(aJ:α->di)(e:α->α)(h:rY C n aJ)(aj an)(a b:List α)(aC:a.length<10000000)(aB:b.length<10000000)(aQ:∀x∈a,∀y∈b,dz C q [.J (.agg (aJ x)),.J (.agg (aJ y))] λv=>v=.bool (decide (e x=e y))):dz C n [.J (.aH aj (a.map aJ)),.J (.aH an (b.map aJ)),.J (.fn q [] [])] λv=>v=.bool (decide (a.map e=b.map e)):=by have:=h aJ rfl aj an q a b (λx y=>decide (e x=e y)) aC aB aQ;rw[FF]at this;exact this
open Classical in
def ajD(a b:eT)(aC:a.ok)(aB:b.ok):dz C 88 [.J (.agg a.row),.J (.agg b.row)] λv=>v=.bool (decide (a.aA=b.aA)):=by
 unfold eT.ok at aC aB;have cN:=z2 aa a.bL (by simp_all) b.bL (by simp_all);have e:a.aA=b.aA↔a.dr=b.dr/\a.ay=b.ay/\a.bL.aA=b.bL.aA:=by cases a;cases b;simp[eT.aA]
 clear aC aB;unfold eT.row;refine aa.z 88 ff rfl rfl ?_;refine dY λbr=>?_;refine dY λD=>?_;refine N ?_;refine bn cN ?_;refine⟨rfl,sf ?_⟩;rw[e];try simp only[p7,mz]at br D
 simp[br,D]
open Classical in
def arH(a b:dX)(aC:a.ok)(aB:b.ok):dz C 36 [.J (.agg a.row),.J (.agg b.row)] λv=>v=.bool (decide (a.aA=b.aA)):=by
 unfold dX.ok at aC aB;have e0:=HU aa a.aj b.aj a.params b.params I I;have gB:=th aa 89 88 eT.row eT.aA ((qk aa).2.2.2.2.2.2.2.2.1) a.an b.an a.fields b.fields I I (λx M y aE=>ajD aa x y (by simp_all) (by simp_all));have e:a.aA=b.aA↔a.since=b.since/\a.dr=b.dr/\a.e6=b.e6/\a.ay=b.ay/\a.params=b.params/\a.fields.map eT.aA=b.fields.map eT.aA:=by cases a;cases b;simp[dX.aA]
 clear aC aB;unfold dX.row;refine aa.z 36 ff rfl rfl ?_;refine dY λbr=>?_;refine dY λD=>?_;refine dY λF=>?_;refine dY λaq=>?_;refine N ?_;refine bn e0 ?_;refine dY λaL=>?_;refine N ?_;refine bn gB ?_;refine⟨rfl,sf ?_⟩;rw[e];try simp only[p7,mz]at br D F aq aL
 simp[br,D,F,aq,aL]
open Classical in
def amJ(a b:fl)(aC:a.ok)(aB:b.ok):dz C 90 [.J (.agg a.row),.J (.agg b.row)] λv=>v=.bool (decide (a.aA=b.aA)):=by
 unfold fl.ok at aC aB;have cN:=th aa 47 48 al.row al.aA ((qk aa).1) a.g b.g a.gL b.gL I I (λx M y aE=>by rw[al.dN,al.dN];exact z2 aa x (by simp_all) y (by simp_all));have e:a.aA=b.aA↔a.ind=b.ind/\a.ay=b.ay/\a.gL.map al.aA=b.gL.map al.aA:=by cases a;cases b;simp[fl.aA]
 clear aC aB;unfold fl.row;refine aa.z 90 ff rfl rfl ?_;refine dY λbr=>?_;refine dY λD=>?_;refine N ?_;refine bn cN ?_;refine⟨rfl,sf ?_⟩;rw[e];try simp only[p7,mz]at br D
 simp[br,D]
open Classical in
def afN(a b:dV)(aC:a.ok)(aB:b.ok):dz C 38 [.J (.agg a.row),.J (.agg b.row)] λv=>v=.bool (decide (a.aA=b.aA)):=by
 unfold dV.ok at aC aB;have e0:=HU aa a.aj b.aj a.params b.params I I;have gB:=th aa 91 90 fl.row fl.aA ((qk aa).2.2.2.2.2.2.2.2.2.1) a.an b.an a.cases b.cases I I (λx M y aE=>amJ aa x y (by simp_all) (by simp_all));have e:a.aA=b.aA↔a.since=b.since/\a.dr=b.dr/\a.e6=b.e6/\a.ay=b.ay/\a.params=b.params/\a.cases.map fl.aA=b.cases.map fl.aA:=by cases a;cases b;simp[dV.aA]
 clear aC aB;unfold dV.row;refine aa.z 38 ff rfl rfl ?_;refine dY λbr=>?_;refine dY λD=>?_;refine dY λF=>?_;refine dY λaq=>?_;refine N ?_;refine bn e0 ?_;refine dY λaL=>?_;refine N ?_;refine bn gB ?_;refine⟨rfl,sf ?_⟩;rw[e];try simp only[p7,mz]at br D F aq aL
 simp[br,D,F,aq,aL]
open Classical in
def alY(a b:fS)(aC:a.ok)(aB:b.ok):dz C 92 [.J (.agg a.row),.J (.agg b.row)] λv=>v=.bool (decide (a.aA=b.aA)):=by
 unfold fS.ok at aC aB;have cN:=z2 aa a.eW (by simp_all) b.eW (by simp_all);have el:=th aa 47 48 al.row al.aA ((qk aa).1) a.g b.g a.args b.args I I (λx M y aE=>by rw[al.dN,al.dN];exact z2 aa x (by simp_all) y (by simp_all));have e:a.aA=b.aA↔a.ay=b.ay/\a.gk=b.gk/\a.eW.aA=b.eW.aA/\a.args.map al.aA=b.args.map al.aA:=by cases a;cases b;simp only[fS.aA,fS.mk.injEq,true_and];constructor<;>(intro h;simp_all)
 clear aC aB;unfold fS.row;refine aa.z 92 ff rfl rfl ?_;refine dY λbr=>?_;refine dY λD=>?_;refine N ?_;refine bn cN ?_;refine dY λF=>?_;refine N ?_;refine bn el ?_;refine⟨rfl,sf ?_⟩;rw[e];try simp only[p7,mz]at br D F
 simp[br,D,F]
open Classical in
def afq(a b:eG)(aC:a.ok)(aB:b.ok):dz C 40 [.J (.agg a.row),.J (.agg b.row)] λv=>v=.bool (decide (a.aA=b.aA)):=by
 unfold eG.ok at aC aB;have e0:=th aa 93 92 fS.row fS.aA ((qk aa).2.2.2.2.2.2.2.2.2.2.1) a.g b.g a.eu b.eu I I (λx M y aE=>alY aa x y (by simp_all) (by simp_all));have e:a.aA=b.aA↔a.since=b.since/\a.dr=b.dr/\a.pV=b.pV/\a.ay=b.ay/\a.eu.map fS.aA=b.eu.map fS.aA:=by cases a;cases b;simp[eG.aA]
 clear aC aB;unfold eG.row;refine aa.z 40 ff rfl rfl ?_;refine dY λbr=>?_;refine dY λD=>?_;refine dY λF=>?_;refine dY λaq=>?_;refine N ?_;refine bn e0 ?_;refine⟨rfl,sf ?_⟩;rw[e];try simp only[p7,mz]at br D F aq
 simp[br,D,F,aq]
open Classical in
def Yk(a b:c3)(aC:a.ok)(aB:b.ok):dz C 95 [.J (.agg a.row),.J (.agg b.row)] λv=>v=.bool (decide (a.aA=b.aA)):=by
 unfold c3.ok at aC aB;have cT:=HU aa a.g b.g a.ec b.ec I I;have e:a.aA=b.aA↔a.ay=b.ay/\a.ec=b.ec:=by cases a;cases b;simp[c3.aA]
 clear aC aB;unfold c3.row;refine aa.z 95 ff rfl rfl ?_;refine dY λbr=>?_;refine N ?_;refine bn cT ?_;refine⟨rfl,sf ?_⟩;rw[e];try simp only[p7,mz]at br
 simp[br]
open Classical in
def akk(a b:cG)(aC:a.ok)(aB:b.ok):dz C 97 [.J (.agg a.row),.J (.agg b.row)] λv=>v=.bool (decide (a.aA=b.aA)):=by
 unfold cG.ok at aC aB;have cN:=z2 aa a.bL (by simp_all) b.bL (by simp_all);have el:=SV aa a.gk (by simp_all) b.gk (by simp_all);have e:a.aA=b.aA↔a.ay=b.ay/\a.has=b.has/\a.bL.aA=b.bL.aA/\a.gk.aA=b.gk.aA:=by cases a;cases b;simp only[cG.aA,cG.mk.injEq,true_and];constructor<;>(intro h;simp_all)
 clear aC aB;unfold cG.row;refine aa.z 97 ff rfl rfl ?_;refine dY λbr=>?_;refine dY λD=>?_;refine N ?_;refine bn cN ?_;refine dY λF=>?_;refine N ?_;refine bn el ?_;refine⟨rfl,sf ?_⟩;rw[e];try simp only[p7,mz]at br D F
 simp[br,D,F]
open Classical in
def aig(a b:cu)(aC:a.ok)(aB:b.ok):dz C 44 [.J (.agg a.row),.J (.agg b.row)] λv=>v=.bool (decide (a.aA=b.aA)):=by
 unfold cu.ok at aC aB;have gB:=th aa 94 95 c3.row c3.aA ((qk aa).2.2.2.2.2.2.2.2.2.2.2.1) a.aj b.aj a.dB b.dB I I (λx M y aE=>Yk aa x y (by simp_all) (by simp_all));have Bl:=th aa 98 97 cG.row cG.aA ((qk aa).2.2.2.2.2.2.2.2.2.2.2.2) a.an b.an a.args b.args I I (λx M y aE=>akk aa x y (by simp_all) (by simp_all));have aqQ:=z2 aa a.eW (by simp_all) b.eW (by simp_all);have P1:=SV aa a.body (by simp_all) b.body (by simp_all);have e:a.aA=b.aA↔a.since=b.since/\a.dr=b.dr/\a.inl=b.inl/\a.ay=b.ay/\a.has=b.has/\a.dB.map c3.aA=b.dB.map c3.aA/\a.args.map cG.aA=b.args.map cG.aA/\a.eW.aA=b.eW.aA/\a.body.aA=b.body.aA:=by cases a;cases b;simp only[cu.aA,cu.mk.injEq,true_and];constructor<;>(intro h;simp_all)
 clear aC aB;unfold cu.row;refine aa.z 44 ff rfl rfl ?_;refine dY λbr=>?_;refine dY λD=>?_;refine dY λF=>?_;refine dY λaq=>?_;refine dY λaL=>?_;refine N ?_;refine bn gB ?_;refine dY λbO=>?_;refine N ?_;refine bn Bl ?_;refine dY λcr=>?_;refine N ?_;refine bn aqQ ?_;refine dY λfK=>?_;refine N ?_;refine bn P1 ?_;refine⟨rfl,sf ?_⟩;rw[e];try simp only[p7,mz]at br D F aq aL bO cr fK
 simp[br,D,F,aq,aL,bO,cr,fK]
end
def ahF:aO:=[9,24,25,26,27,28,29,30,66,67,68]
def ar9:List (Nat×Nat):=[(27,95),(28,70),(28,76),(29,74),(67,78),(67,25),(66,77)]
def QD:List (Nat×aO):=(66,[1045])::(67,[1045])::(24,[1045])::(30,[1067,1049,1086])::(9,[1045,1067,1049,1086])::(3,[74,78,82,86,130,134,49,1045,1067,1049,1086])::KB
def afP(f:Nat):kH:=⟨λg i=>Nat.beq i 0&&(cn g afa||cn g ahF)||Nat.beq g 266&&(Nat.beq i 3||Nat.beq i 4),λg=>cn g [63,64],λd=>(Xi++ar9).any (λp=>Nat.beq p.1 f&&Nat.beq p.2 d),wY QD,wY QD f,λd=>Nat.beq f 3&&Nat.beq d 18||Nat.beq f 30&&Nat.beq d 3,wY [(21,[2,5])] f⟩
def Env.y{C}{ext}{Q}(aa:Env C ext Q)(f){X:aO}{args:bK}{A}{b8}(jc)(M:cn f Pm=false)(cR:wY QD f=X)(h:Hb C afP jc wC je f args A b8):bU C X f args A b8:=by subst cR;exact abZ (aa.g f (aa.e f M)) (aa.e f M) (ad8 h)
def oF{α:Type}(f:α->di){l:List α}{i:Nat}(h:i<l.length):fT (l.map f) i=f l[i]:=by have:=k6 f (l.take i) l[i] (l.drop (i+1));rw[<-Be h,Bj,rR,DE I]at this;exact this
def sE{α:Type}(f:α->di){l:List α}{i:Nat}(h:i<l.length):(l.map f)[i]?=some (f l[i]):=by rw[yR,lX h];rfl
def si{l:List bj}{n:Nat}(h:n<l.length):∃s∈l,(l.map b6)[n]?=some [.str s]:=⟨l[n],fQ h,sE b6 h⟩
def CZ{l:List bj}{n:Nat}(h:n<l.length):∃s∈l,fT (l.map b6) n=[.str s]:=⟨l[n],fQ h,oF b6 h⟩
def ob(s:bj):al:=.mk s 1 []
def qg:List al:=[ob [73,110,116],ob [66,111,111,108],ob [66,121,116,101],.mk [65,114,114,97,121] (2*43) [ob [73,110,116]],ob [84],ob [83,97],ob [103,101,111,46,83,97],.mk [98,97,115,101,46,85,97] (2*43) [ob [73,110,116]],ob [83,101,108,102],ob [65,114,114,97,121],.mk [73,110,116] (2*43) [ob [73,110,116]]]
section
variable{C:Nat->cE}{ext:Nat->Option eS}{Q:e9}(aa:Env C ext Q)(aS:jW Q)
include aa aS
def vH{g}(a:Nat)(aC:a<=Q.length):bU C [] 68 [.bN 1000 0] [(1000,dD g Q a)] (qb g Q λv=>∃t,v=.agg t.cells/\t∈qg):=by refine aa.y 68 ff rfl rfl ?_;refine N ?_;refine bn (ky aa _) ?_;refine bn (ky aa _) ?_;refine bn (ky aa _) ?_;refine bn (ky aa _) ?_;refine bn (FI aa _ _ _) ?_;refine bn (ky aa _) ?_;refine bn (ky aa _) ?_;refine bn (ky aa _) ?_;refine bn (ky aa _) ?_;refine bn (FI aa _ _ _) ?_;refine bn (ky aa _) ?_;refine bn (ky aa _) ?_;refine bn (ky aa _) ?_;refine bn (FI aa _ _ _) ?_;refine aW (dy aa aS a 11 aC af af) ?_;rintro v A ⟨⟨r,rfl,ag⟩,bz,ki,rfl⟩;have f7:r<(qg.map al.row).length:=ag;have⟨t,au,jR⟩:=nU al.row f7;rw[al.dN]at jR;refine N ?_;refine bV.mk f7 (dU.mk _ jR ?_);refine N ?_;exact⟨⟨t,rfl,au⟩,bz,ki,rfl⟩
end
def LC:ai:=.mk 0 [] [] 0 1 [] 1 [] 1 [] 1 [] (.mk [] 1 []) 0
def qP(n:Nat):ai:=.mk 1 [] [] n 1 [] 1 [] 1 [] 1 [] (.mk [] 1 []) 0
def Qo{l:List di}{i:Nat}{r:di}(h:i<l.length):fT (l.set i r) i=r:=by have D:=EX (l.set i r) i (by rw[kg];exact h);rw[List.getElem?_set_self h]at D;exact(E2 D).symm
inductive tv (f:cu):cu->Prop
 |id:tv f {f with aj:=265,an:=269}
 |dr:tv f {f with aj:=265,an:=269,dr:= !f.dr}
 |inl:tv f {f with aj:=265,an:=269,inl:= !f.inl}
 |since (n):n<7->tv f {f with aj:=265,an:=269,since:=n}
 |eW (t):t∈qg->tv f {f with aj:=265,an:=269,eW:=t}
 |P8 (i) (h:i<f.args.length) (t):t∈qg->tv f {f with aj:=265,an:=269,args:=f.args.set i {f.args[i]with bL:=t}}
 |Qb (t):t∈qg->tv f {f with aj:=265,an:=269,args:=f.args++[⟨[120,97],t,false,LC⟩]}
 |sg (s):s∈[[84],[85],[83,97]]->tv f {f with aj:=265,an:=269,dB:=f.dB++[⟨s,1,[]⟩]}
 |Ta (i) (h:i<f.args.length):tv f {f with aj:=265,an:=269,args:=f.args.set i {f.args[i]with has:=true,gk:=qP 1}}
section
variable{C:Nat->cE}{ext:Nat->Option eS}{Q:e9}(aa:Env C ext Q)(aS:jW Q)
include aa aS
def apO{g}(a:Nat)(aC:a<=Q.length)(f:cu)(a1:f.ok):bU C [] 25 [.bN 1000 0,.J (.agg f.row)] [(1000,dD g Q a)] (qb g Q λv=>∃mh:cu,v=.agg mh.row/\tv f mh):=by
 refine aa.y 25 ff rfl rfl ?_;have er:(f.dB.map c3.row).length=f.dB.length:=bW;have f8:(f.args.map cG.row).length=f.args.length:=bW;have⟨f1,f2,f3,f4,f5,rf,K1,K5⟩:=a1
 (conv=>whnf)
 repeat(first|refine bV.mk ⟨mq f.args λx=>rfl,I⟩ ?_|refine bV.mk ⟨mq f.dB λx=>rfl,I⟩ ?_|refine da ?_);(conv=>whnf)
 refine aW (dy aa aS a 8 aC af af) ?_;rintro v A ⟨⟨r,rfl,ag⟩,bz,ki,rfl⟩;refine N ?_;refine ch (λh=>?_) (λh=>?_)
 .refine N ?_;exact⟨⟨{f with aj:=265,an:=269,dr:= !f.dr},rfl,.dr⟩,bz,ki,rfl⟩
 refine N ?_;refine ch (λh=>?_) (λh=>?_)
 .refine N ?_;exact⟨⟨{f with aj:=265,an:=269,inl:= !f.inl},rfl,.inl⟩,bz,ki,rfl⟩
 refine N ?_;refine ch (λh=>?_) (λh=>?_)
 .refine N ?_;refine aW (dy aa aS bz 7 ki af af) ?_;rintro v A ⟨⟨n,rfl,aD⟩,bu,cy,rfl⟩;refine N ?_;exact⟨⟨{f with aj:=265,an:=269,since:=n},rfl,.since n aD⟩,bu,cy,rfl⟩
 refine N ?_;refine ch (λh=>?_) (λh=>?_)
 .refine N ?_;refine aW (vH aa aS bz ki) ?_;rintro v A ⟨⟨t,rfl,au⟩,bu,cy,rfl⟩;refine N ?_;exact⟨⟨{f with aj:=265,an:=269,eW:=t},rfl,.eW t au⟩,bu,cy,rfl⟩
 refine N ?_;refine ch (λh=>?_) (λh=>?_)
 .refine N ?_;refine eh (λbr=>?_) (λbr=>?_)
  .refine N ?_;refine aW (dy aa aS bz _ ki br I) ?_;rintro v A ⟨⟨i,rfl,aN⟩,bu,cy,rfl⟩;refine N ?_;refine aW (vH aa aS bu cy) ?_;rintro v A ⟨⟨t,rfl,au⟩,b1,dl,rfl⟩;have jd:i<f.args.length:=I;have ag:=oF cG.row jd;unfold cG.row at ag;simp only[lJ,ps]at ag;refine N ?_;refine bV.mk aN ?_;refine N ?_;refine bV.mk aN (dU.mk _ ag ?_);refine N ?_;exact⟨⟨{f with aj:=265,an:=269,args:=f.args.set i {f.args[i]with bL:=t}},by unfold cu.row;rw[List.map_set];rfl,.P8 i jd t au⟩,b1,dl,rfl⟩
  .refine N ?_;exact⟨⟨{f with aj:=265,an:=269},rfl,.id⟩,bz,ki,rfl⟩
 refine N ?_;refine ch (λh=>?_) (λh=>?_)
 .refine N ?_;refine aW (vH aa aS bz ki) ?_;rintro v A ⟨⟨t,rfl,au⟩,bu,cy,rfl⟩;refine bw ?_;exact⟨⟨{f with aj:=265,an:=269,args:=f.args++[⟨[120,97],t,false,LC⟩]},by unfold cu.row;rw[jj];rfl,.Qb t au⟩,bu,cy,rfl⟩
 refine N ?_;refine ch (λh=>?_) (λh=>?_)
 .refine N ?_;refine aW (dy aa aS bz 3 ki af af) ?_;rintro v A ⟨⟨n,rfl,aD⟩,bu,cy,rfl⟩;refine N ?_;have⟨s,ap,ag⟩:=si (l:=[[84],[85],[83,97]]) (n:=n) aD;refine bV.mk aD ?_;refine N ?_;refine kK.mk _ ag ?_;refine bw ?_;exact⟨⟨{f with aj:=265,an:=269,dB:=f.dB++[⟨s,1,[]⟩]},by unfold cu.row;rw[jj];rfl,.sg s ap⟩,bu,cy,rfl⟩
 refine N ?_;refine ch (λh=>?_) (λh=>?_)
 .refine N ?_;refine eh (λbr=>?_) (λbr=>?_)
  .refine N ?_;refine aW (dy aa aS bz _ ki br I) ?_;rintro v A ⟨⟨i,rfl,aN⟩,bu,cy,rfl⟩;refine N ?_;refine bn (AG aa 1) ?_;have jd:i<f.args.length:=I;have ag:=oF cG.row jd;unfold cG.row at ag;simp only[lJ,ps]at ag;refine bV.mk aN ?_;refine N ?_;refine bV.mk aN (dU.mk _ ag ?_);refine N ?_;refine bV.mk (by rw[kg];exact aN) ?_;refine N ?_;refine bV.mk (by rw[kg];exact aN) (dU.mk _ (Qo aN) ?_);refine N ?_;exact⟨⟨{f with aj:=265,an:=269,args:=f.args.set i {f.args[i]with has:=true,gk:=qP 1}},by rw[List.set_set];unfold cu.row;rw[List.map_set];rfl,.Ta i jd⟩,bu,cy,rfl⟩
  .refine N ?_;exact⟨⟨{f with aj:=265,an:=269},rfl,.id⟩,bz,ki,rfl⟩
 refine N ?_;exact⟨⟨{f with aj:=265,an:=269},rfl,.id⟩,bz,ki,rfl⟩
end
inductive va (x:dX):dX->Prop
 |dr:va x {x with an:=249,dr:= !x.dr}
 |e6:va x {x with an:=249,e6:= !x.e6}
 |PD:va x {x with aj:=19,an:=249,params:=x.params++[[84]]}
 |since (n):n<7->va x {x with an:=249,since:=n}
 |CJ (k) (h:k<x.fields.length):va x {x with an:=249,fields:=x.fields.set k {x.fields[k]with dr:= !x.fields[k].dr}}
 |Cn (k) (h:k<x.fields.length) (t):t∈qg->va x {x with an:=249,fields:=x.fields.set k {x.fields[k]with bL:=t}}
 |Dn (k) (h:k<x.fields.length) (s):s∈[[97],[98],[122]]->va x {x with an:=249,fields:=x.fields.set k {x.fields[k]with ay:=s}}
section
variable{C:Nat->cE}{ext:Nat->Option eS}{Q:e9}(aa:Env C ext Q)(aS:jW Q)
include aa aS
def agJ{g}(a:Nat)(aC:a<=Q.length)(x:dX)(M:x.ok):bU C [] 26 [.bN 1000 0,.J (.agg x.row)] [(1000,dD g Q a)] (qb g Q λv=>∃y:dX,v=.agg y.row/\va x y):=by
 refine aa.y 26 ff rfl rfl ?_;have er:(x.params.map b6).length=x.params.length:=bW;have f8:(x.fields.map eT.row).length=x.fields.length:=bW;have⟨f1,f2,f3,f4,f5,rf⟩:=M
 (conv=>whnf)
 repeat(first|refine bV.mk ⟨mq x.fields λx=>rfl,I⟩ ?_|refine da ?_);(conv=>whnf)
 refine aW (dy aa aS a _ aC (wm _) I) ?_;rintro v A ⟨⟨k,rfl,ar⟩,bk,cY,rfl⟩;refine N ?_;refine ch (λh=>?_) (λh=>?_)
 .refine N ?_;refine aW (dy aa aS bk 4 cY af af) ?_;rintro v A ⟨⟨r,rfl,ag⟩,bu,cy,rfl⟩;refine N ?_;refine ch (λD=>?_) (λD=>?_)
  .refine N ?_;exact⟨⟨{x with an:=249,dr:= !x.dr},rfl,.dr⟩,bu,cy,rfl⟩
  refine N ?_;refine ch (λD=>?_) (λD=>?_)
  .refine N ?_;exact⟨⟨{x with an:=249,e6:= !x.e6},rfl,.e6⟩,bu,cy,rfl⟩
  refine N ?_;refine ch (λD=>?_) (λD=>?_)
  ·(conv=>whnf)
   repeat(first|refine bV.mk ⟨mq x.params λx=>rfl,I⟩ ?_|refine da ?_);(conv=>whnf)
   exact⟨⟨{x with aj:=19,an:=249,params:=x.params++[[84]]},by unfold dX.row;rw[jj];rfl,.PD⟩,bu,cy,rfl⟩
  refine N ?_;refine ch (λD=>?_) (λD=>?_)
  .refine N ?_;refine aW (dy aa aS bu 7 cy af af) ?_;rintro v A ⟨⟨n,rfl,aD⟩,b1,dl,rfl⟩;refine N ?_;exact⟨⟨{x with an:=249,since:=n},rfl,.since n aD⟩,b1,dl,rfl⟩
  .omega
 have kb:k<x.fields.length:=I;have k3:k<(x.fields.map eT.row).length:=I;have ag:=oF eT.row kb;have ap:=sE eT.row kb;unfold eT.row at ag ap;refine N ?_;refine aW (dy aa aS bk 3 cY af af) ?_;rintro v A ⟨⟨r,rfl,vC⟩,bu,cy,rfl⟩;refine N ?_;refine ch (λD=>?_) (λD=>?_)
 .refine N ?_;refine bV.mk k3 ?_;refine N ?_;refine kK.mk _ ap ?_;refine N ?_;refine bV.mk k3 ?_;refine N ?_;refine bV.mk k3 (dU.mk _ ag ?_);refine N ?_;exact⟨⟨{x with an:=249,fields:=x.fields.set k {x.fields[k]with dr:= !x.fields[k].dr}},by unfold dX.row;rw[List.map_set];rfl,.CJ k kb⟩,bu,cy,rfl⟩
 refine N ?_;refine aW (dy aa aS bu 2 cy af af) ?_;rintro v A ⟨⟨b3,rfl,ct⟩,b1,dl,rfl⟩;refine N ?_;refine ch (λF=>?_) (λF=>?_)
 .refine N ?_;refine aW (vH aa aS b1 dl) ?_;rintro v A ⟨⟨t,rfl,au⟩,cP,gz,rfl⟩;refine N ?_;refine bV.mk k3 ?_;refine N ?_;refine bV.mk k3 (dU.mk _ ag ?_);refine N ?_;exact⟨⟨{x with an:=249,fields:=x.fields.set k {x.fields[k]with bL:=t}},by unfold dX.row;rw[List.map_set];rfl,.Cn k kb t au⟩,cP,gz,rfl⟩
 .refine N ?_;refine aW (dy aa aS b1 3 dl af af) ?_;rintro v A ⟨⟨n,rfl,aD⟩,cP,gz,rfl⟩;have⟨s,ib,iv⟩:=si (l:=[[97],[98],[122]]) (n:=n) aD;refine N ?_;refine bV.mk aD ?_;refine N ?_;refine kK.mk _ iv ?_;refine N ?_;refine bV.mk k3 ?_;refine N ?_;refine bV.mk k3 (dU.mk _ ag ?_);refine N ?_;exact⟨⟨{x with an:=249,fields:=x.fields.set k {x.fields[k]with ay:=s}},by unfold dX.row;rw[List.map_set];rfl,.Dn k kb s ib⟩,cP,gz,rfl⟩
end
inductive u2 (x:dV):dV->Prop
 |dr:u2 x {x with an:=257,dr:= !x.dr}
 |e6:u2 x {x with an:=257,e6:= !x.e6}
 |Vp (t):t∈qg->u2 x {x with an:=257,cases:=x.cases++[⟨false,[99,122],86,[t]⟩]}
 |since (n):n<7->u2 x {x with an:=257,since:=n}
 |CJ (k) (h:k<x.cases.length):u2 x {x with an:=257,cases:=x.cases.set k {x.cases[k]with ind:= !x.cases[k].ind}}
 |Cn (k) (h:k<x.cases.length) (t):t∈qg->u2 x {x with an:=257,cases:=x.cases.set k {x.cases[k]with g:=87,gL:=x.cases[k].gL++[t]}}
 |Dn (k) (h:k<x.cases.length) (s):s∈[[99,97],[99,98],[99,122]]->u2 x {x with an:=257,cases:=x.cases.set k {x.cases[k]with ay:=s}}
section
variable{C:Nat->cE}{ext:Nat->Option eS}{Q:e9}(aa:Env C ext Q)(aS:jW Q)
include aa aS
def aqt{g}(a:Nat)(aC:a<=Q.length)(x:dV)(M:x.ok):bU C [] 27 [.bN 1000 0,.J (.agg x.row)] [(1000,dD g Q a)] (qb g Q λv=>∃y:dV,v=.agg y.row/\u2 x y):=by
 refine aa.y 27 ff rfl rfl ?_;have er:(x.params.map b6).length=x.params.length:=bW;have f8:(x.cases.map fl.row).length=x.cases.length:=bW;have⟨f1,f2,f3,f4,f5,rf⟩:=M
 (conv=>whnf)
 repeat(first|refine bV.mk ⟨mq x.cases λx=>rfl,I⟩ ?_|refine da ?_);(conv=>whnf)
 refine aW (dy aa aS a _ aC (wm _) I) ?_;rintro v A ⟨⟨k,rfl,ar⟩,bk,cY,rfl⟩;refine N ?_;refine ch (λh=>?_) (λh=>?_)
 .refine N ?_;refine aW (dy aa aS bk 4 cY af af) ?_;rintro v A ⟨⟨r,rfl,ag⟩,bu,cy,rfl⟩;refine N ?_;refine ch (λD=>?_) (λD=>?_)
  .refine N ?_;exact⟨⟨{x with an:=257,dr:= !x.dr},rfl,.dr⟩,bu,cy,rfl⟩
  refine N ?_;refine ch (λD=>?_) (λD=>?_)
  .refine N ?_;exact⟨⟨{x with an:=257,e6:= !x.e6},rfl,.e6⟩,bu,cy,rfl⟩
  refine N ?_;refine ch (λD=>?_) (λD=>?_)
  .refine N ?_;refine aW (vH aa aS bu cy) ?_;rintro v A ⟨⟨t,rfl,au⟩,b1,dl,rfl⟩;refine bw ?_;exact⟨⟨{x with an:=257,cases:=x.cases++[⟨false,[99,122],86,[t]⟩]},by unfold dV.row;rw[jj];simp only[fl.row,gg,hq,al.dN];rfl,.Vp t au⟩,b1,dl,rfl⟩
  refine N ?_;refine ch (λD=>?_) (λD=>?_)
  .refine N ?_;refine aW (dy aa aS bu 7 cy af af) ?_;rintro v A ⟨⟨n,rfl,aD⟩,b1,dl,rfl⟩;refine N ?_;exact⟨⟨{x with an:=257,since:=n},rfl,.since n aD⟩,b1,dl,rfl⟩
  .omega
 have kb:k<x.cases.length:=I;have k3:k<(x.cases.map fl.row).length:=I;have ag:=oF fl.row kb;have ap:=sE fl.row kb;unfold fl.row at ag ap;refine N ?_;refine aW (dy aa aS bk 3 cY af af) ?_;rintro v A ⟨⟨r,rfl,vC⟩,bu,cy,rfl⟩;refine N ?_;refine ch (λD=>?_) (λD=>?_)
 .refine N ?_;refine bV.mk k3 ?_;refine N ?_;refine kK.mk _ ap ?_;refine N ?_;refine bV.mk k3 ?_;refine N ?_;refine bV.mk k3 (dU.mk _ ag ?_);refine N ?_;exact⟨⟨{x with an:=257,cases:=x.cases.set k {x.cases[k]with ind:= !x.cases[k].ind}},by unfold dV.row;rw[List.map_set];rfl,.CJ k kb⟩,bu,cy,rfl⟩
 refine N ?_;refine aW (dy aa aS bu 2 cy af af) ?_;rintro v A ⟨⟨b3,rfl,ct⟩,b1,dl,rfl⟩;refine N ?_;refine ch (λF=>?_) (λF=>?_)
 .refine N ?_;refine bV.mk k3 ?_;refine N ?_;refine kK.mk _ ap ?_;refine N ?_;have bq:(x.cases[k].gL.map al.row).length<100:=by rw[ex];exact(rf _ (fQ kb)).2.1
  refine bV.mk ⟨mq _ λy=>by rw[al.dN];rfl,I⟩ ?_;refine bV.mk (by show _*40<=_;omega) ?_;refine N ?_;refine aW (vH aa aS b1 dl) ?_;rintro v A ⟨⟨t,rfl,au⟩,cP,gz,rfl⟩;refine N ?_;refine bV.mk (by show 1<=_;omega) ?_;refine bV.mk (by show(_+1)*40<=_;omega) ?_;refine N ?_;refine bV.mk k3 ?_;refine N ?_;refine bV.mk k3 (dU.mk _ ag ?_);refine N ?_;exact⟨⟨{x with an:=257,cases:=x.cases.set k {x.cases[k]with g:=87,gL:=x.cases[k].gL++[t]}},by unfold dV.row;rw[List.map_set];simp only[fl.row,jj,gg,hq,al.dN];rfl,.Cn k kb t au⟩,cP,gz,rfl⟩
 .refine N ?_;refine aW (dy aa aS b1 3 dl af af) ?_;rintro v A ⟨⟨n,rfl,aD⟩,cP,gz,rfl⟩;have⟨s,ib,iv⟩:=si (l:=[[99,97],[99,98],[99,122]]) (n:=n) aD;refine N ?_;refine bV.mk aD ?_;refine N ?_;refine kK.mk _ iv ?_;refine N ?_;refine bV.mk k3 ?_;refine N ?_;refine bV.mk k3 (dU.mk _ ag ?_);refine N ?_;exact⟨⟨{x with an:=257,cases:=x.cases.set k {x.cases[k]with ay:=s}},by unfold dV.row;rw[List.map_set];rfl,.Dn k kb s ib⟩,cP,gz,rfl⟩
end
inductive vq (x:em):em->Prop
 |bL (t):t∈qg->vq x {x with aj:=265,an:=295,bL:=t}
 |T6:vq x {x with aj:=265,an:=1,binds:=[]}
 |bind (m f):m∈[[115,104,111,119],[109,97,114,107],[110,111,110,101]]->f∈[[115,104,111,119,73,110,116],[102,97],[109,97,114,107,79,102]]->vq x {x with aj:=265,an:=295,binds:=x.binds++[⟨m,f⟩]}
 |sg (s):s∈[[84],[85]]->vq x {x with aj:=265,an:=295,dB:=x.dB++[⟨s,1,[]⟩]}
 |gtr (h:0<x.dB.length) (s):s∈[[98,97,115,101,46,83,104,111,119],[103,101,111,46,83,104,111,119],[83,104,111,119]]->vq x {x with aj:=265,an:=295,dB:=x.dB.set 0 {x.dB[0]with g:=19,ec:=x.dB[0].ec++[s]}}
 |Sy:x.dB=[]->vq x {x with aj:=265,an:=295}
 |Qq (s):s∈[[98,97,115,101,46,83,104,111,119],[103,101,111,46,83,104,111,119],[83,104,111,119],[110,111,110,101,46,83,104,111,119]]->vq x {x with aj:=265,an:=295,rx:=s}
section
variable{C:Nat->cE}{ext:Nat->Option eS}{Q:e9}(aa:Env C ext Q)(aS:jW Q)
include aa aS
def amH{g}(a:Nat)(aC:a<=Q.length)(x:em)(M:x.ok):bU C [] 29 [.bN 1000 0,.J (.agg x.row)] [(1000,dD g Q a)] (qb g Q λv=>∃y:em,v=.agg y.row/\vq x y):=by
 refine aa.y 29 ff rfl rfl ?_;have er:(x.binds.map ko.row).length=x.binds.length:=bW;have f8:(x.dB.map c3.row).length=x.dB.length:=bW;have⟨f1,f2,f3,f4,f5,rf⟩:=M
 (conv=>whnf)
 repeat(first|refine bV.mk ⟨mq x.binds λx=>rfl,I⟩ ?_|refine bV.mk ⟨mq x.dB λx=>rfl,I⟩ ?_|refine da ?_);(conv=>whnf)
 refine aW (dy aa aS a 6 aC af af) ?_;rintro v A ⟨⟨r,rfl,vC⟩,bk,cY,rfl⟩;refine N ?_;refine ch (λD=>?_) (λD=>?_)
 .refine N ?_;refine aW (vH aa aS bk cY) ?_;rintro v A ⟨⟨t,rfl,au⟩,cP,gz,rfl⟩;refine N ?_;exact⟨⟨{x with aj:=265,an:=295,bL:=t},rfl,.bL t au⟩,cP,gz,rfl⟩
 refine N ?_;refine ch (λD=>?_) (λD=>?_)
 .refine N ?_;exact⟨⟨{x with aj:=265,an:=1,binds:=[]},rfl,.T6⟩,bk,cY,rfl⟩
 refine N ?_;refine ch (λD=>?_) (λD=>?_)
 .refine N ?_;refine aW (dy aa aS bk 3 cY af af) ?_;rintro v A ⟨⟨n,rfl,aD⟩,bu,cy,rfl⟩;have⟨s,ib,iv⟩:=si (l:=[[115,104,111,119],[109,97,114,107],[110,111,110,101]]) (n:=n) aD;refine N ?_;refine bV.mk aD ?_;refine N ?_;refine kK.mk _ iv ?_;refine N ?_;refine aW (dy aa aS bu 3 cy af af) ?_;rintro v A ⟨⟨cl,rfl,kr⟩,b1,dl,rfl⟩;have⟨d,qd,qx⟩:=si (l:=[[115,104,111,119,73,110,116],[102,97],[109,97,114,107,79,102]]) (n:=cl) kr;refine N ?_;refine bV.mk kr ?_;refine N ?_;refine kK.mk _ qx ?_;refine bw ?_;exact⟨⟨{x with aj:=265,an:=295,binds:=x.binds++[⟨s,d⟩]},by unfold em.row;rw[jj];rfl,.bind s d ib qd⟩,b1,dl,rfl⟩
 refine N ?_;refine ch (λD=>?_) (λD=>?_)
 .refine N ?_;refine aW (dy aa aS bk 2 cY af af) ?_;rintro v A ⟨⟨n,rfl,aD⟩,bu,cy,rfl⟩;have⟨s,ib,iv⟩:=si (l:=[[84],[85]]) (n:=n) aD;refine N ?_;refine bV.mk aD ?_;refine N ?_;refine kK.mk _ iv ?_;refine bw ?_;exact⟨⟨{x with aj:=265,an:=295,dB:=x.dB++[⟨s,1,[]⟩]},by unfold em.row;rw[jj];rfl,.sg s ib⟩,bu,cy,rfl⟩
 refine N ?_;refine ch (λD=>?_) (λD=>?_)
 .refine N ?_;refine eh (λbr=>?_) (λbr=>?_)
  .have kb:0<x.dB.length:=I;have k3:0<(x.dB.map c3.row).length:=I;have ag:=oF c3.row kb;have ap:=sE c3.row kb;unfold c3.row at ag ap;have bq:(x.dB[0].ec.map b6).length<100:=by rw[ex];exact(f3 _ (fQ kb)).2.1
   refine N ?_;refine bV.mk k3 ?_;refine N ?_;refine kK.mk _ ap ?_;refine N ?_;refine bV.mk ⟨mq _ λy=>rfl,I⟩ ?_
   (conv=>whnf)
   refine bV.mk (by show _*16<=_;omega) ?_;refine N ?_;refine aW (dy aa aS bk 3 cY af af) ?_;rintro v A ⟨⟨n,rfl,aD⟩,bu,cy,rfl⟩;have⟨s,ib,iv⟩:=si (l:=[[98,97,115,101,46,83,104,111,119],[103,101,111,46,83,104,111,119],[83,104,111,119]]) (n:=n) aD;refine N ?_;refine bV.mk aD ?_;refine N ?_;refine kK.mk _ iv ?_;refine N ?_;refine bV.mk (by show 1<=_;omega) ?_;refine bV.mk (by show(_+1)*16<=_;omega) ?_;refine N ?_;refine bV.mk k3 ?_;refine N ?_;refine bV.mk k3 (dU.mk _ ag ?_);refine N ?_;exact⟨⟨{x with aj:=265,an:=295,dB:=x.dB.set 0 {x.dB[0]with g:=19,ec:=x.dB[0].ec++[s]}},by unfold em.row;rw[List.map_set];simp only[c3.row,jj];rfl,.gtr kb s ib⟩,bu,cy,rfl⟩
  .refine N ?_;exact⟨⟨{x with aj:=265,an:=295},rfl,.Sy (List.eq_nil_of_length_eq_zero I)⟩,bk,cY,rfl⟩
 refine N ?_;refine ch (λD=>?_) (λD=>?_)
 .refine N ?_;refine aW (dy aa aS bk 4 cY af af) ?_;rintro v A ⟨⟨n,rfl,aD⟩,bu,cy,rfl⟩;have⟨s,ib,iv⟩:=CZ (l:=[[98,97,115,101,46,83,104,111,119],[103,101,111,46,83,104,111,119],[83,104,111,119],[110,111,110,101,46,83,104,111,119]]) (n:=n) aD;refine N ?_;refine bV.mk aD (dU.mk _ iv ?_);refine N ?_;exact⟨⟨{x with aj:=265,an:=295,rx:=s},rfl,.Qq s ib⟩,bu,cy,rfl⟩
 .omega
end
end Go.Tx
