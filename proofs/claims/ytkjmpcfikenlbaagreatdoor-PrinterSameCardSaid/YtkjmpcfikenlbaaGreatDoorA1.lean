/- A part. -/
import Derived.Test.YtkjmpcfikenlbaaGreatDoorA0
set_option linter.all false
namespace Go.Tx
open Go Go.Ev
set_option maxRecDepth 100000
set_option maxHeartbeats 8000000
attribute [local irreducible] eo eA bU eE eJ eN cU eX
section
variable{C:Nat->cE}{ext:Nat->Option eS}{Q:e9}(aa:Env C ext Q)
include aa
def ai.zero(e:ai):Bool:=decide (e.kind=0/\e.ay=[]/\e.mem=[]/\e.num=0/\e.types=[]/\e.cg=[]/\e.bM=[]/\e.kids=[])
theorem QU(t:ai):bU C [] 163 [.J (.agg t.cells)] [] λv A=>A=[]/\v=.bool t.zero:=by
 refine aa.z 163 ff rfl rfl ?_
 (conv=>whnf)
 repeat' (first|refine bZ ?_|refine a3 ?_|refine s2 ?_ ?_<;>intros|fail)<;>(conv=>whnf)
 all_goals(refine⟨rfl,?_⟩;simp_all[ai.zero,ajr])
def DM:List bj:=[[61,61],[60],[43],[45],[42],[47],[37]]
theorem afY(s:bj):bU C [] 274 [.J (.str s)] [] λv A=>A=[]/\v=.bool (decide (s∈DM)):=by
 refine aa.z 274 ff rfl rfl ?_
 (conv=>whnf)
 repeat' (first|refine bZ ?_|refine a3 ?_|refine s2 ?_ ?_<;>intros|fail)<;>(conv=>whnf)
 all_goals(refine⟨rfl,?_⟩;simp_all[DM,S6])
def Mw(a b:Nat)(c d e f g:Bool):List b9:=[.int 3 a,.int 3 b,.bool c,.bool d,.bool e,.bool f,.bool g]
def sK:Nat:=18446744073709551615
def Bf(k:Nat):Option (Nat×Nat×Bool×Bool×Bool×Bool×Bool):=
 if k=1\/k=2 then some (0,0,false,false,true,false,false)
 else if k=3 then some (0,0,true,false,false,false,false)
 else if k=4 then some (2,0,true,false,false,false,false)
 else if k=5 then some (3,0,false,false,false,false,false)
 else if k=6\/k=18\/k=19 then some (2,0,false,false,false,false,false)
 else if k=7 then some (1,1,false,false,false,false,false)
 else if k=8 then some (2,0,true,false,false,false,false)
 else if k=9 then some (sK,sK,true,false,false,false,false)
 else if k=10 then some (sK,1,true,true,false,false,false)
 else if k=11 then some (sK,sK,true,false,false,true,false)
 else if k=12 then some (1,0,false,true,false,false,false)
 else if k=13 then some (sK,0,false,false,false,true,false)
 else if k=14 then some (sK,1,false,true,false,false,false)
 else if k=15 then some (sK,0,false,false,false,false,true)
 else if k=16 then some (sK,1,false,false,false,false,false)
 else if k=17\/k=23\/k=24 then some (1,0,false,false,false,false,false)
 else if k=20 then some (0,0,true,false,true,false,false)
 else none
def Nl(k:Nat):Option (List b9):=(Bf k).map λp=>Mw p.1 p.2.1 p.2.2.1 p.2.2.2.1 p.2.2.2.2.1 p.2.2.2.2.2.1 p.2.2.2.2.2.2
theorem aax(n:Nat):bU C [] 273 [.J (.int 3 n)] [] λv A=>A=[]/\v=(match Nl n with|some l=>.gy [.agg l,.bool true]|none=>.gy [.agg (Mw 0 0 false false false false false),.bool false]):=by
 refine aa.z 273 ff rfl rfl ?_
 (conv=>whnf)
 repeat' (first|refine bZ ?_|refine a3 ?_|refine s2 ?_ ?_<;>intros|fail)<;>(conv=>whnf)
 all_goals(refine⟨rfl,?_⟩;simp_all[Nl,Bf,Mw,sK])
def adM(l:List dI):Prop:=∀i a,l[i]?=some a->(a.ma=true->i+1=l.length/\a.case=[]/\a.names=[])/\(a.ma=false->hD a.case=true/\a.names.all hD=true)
theorem alH(g)(l)(h:l.length<100)(Y:∀a∈l,a.ok):bU C [] 275 [.J (.aH g (l.map dI.row))] [] λv A=>A=[]/\∃b,v=.bool b/\(b->adM l):=by
 refine aa.z 275 (ja [(0,[2,3,7,8,9],[])]) rfl rfl ?_
 have ii:(l.map dI.row).length<100:=by rw[List.length_map];exact h
 refine N ?_
 refine fu dI.row l 6 (λd=>[]) (λd=>∀i a,i<d.length->l[i]?=some a->(a.ma=true->i+1=l.length/\a.case=[]/\a.names=[])/\(a.ma=false->hD a.case=true/\a.names.all hD=true)) ⟨by simp,rfl,rfl⟩ (λd x r ba aw be ag a7 bt=>?_) (λba a7=>?_)
 .have M:=Y x (by simp[aw])
  have Gb:(x.names.map b6).length<100:=by rw[List.length_map];exact M.2.1
  unfold dI.row at ag
  have step:((x.ma=true->d.length+1=l.length/\x.case=[]/\x.names=[])/\(x.ma=false->hD x.case=true/\x.names.all hD=true))->∀i a,i<(d++[x]).length->l[i]?=some a->(a.ma=true->i+1=l.length/\a.case=[]/\a.names=[])/\(a.ma=false->hD a.case=true/\a.names.all hD=true):=by
   intro M i a aN aC
   rw[List.length_append]at aN
   rcases Nat.lt_or_ge i d.length with h|h
   .exact a7 i a h aC
   .have:i=d.length:=by simp at aN;omega
    subst this
    rw[aw,List.getElem?_append_right (Nat.le_refl _),Nat.sub_self]at aC
    cases aC
    exact M
  have vt:(l.map dI.row).length=l.length:=bW
  have BW:(x.names.map b6).length=x.names.length:=bW
  have vu:l.length=d.length+(r.length+1):=by rw[aw];simp
  refine dk ?_
  refine j0 (λD=>?_) (λD=>?_)
  .refine N ?_
   refine rH (λF=>?_) (λF=>?_)
   .exact i9
   refine N ?_
   refine lT (NN (λaq=>?_) (λaq=>?_))
   rotate_left
   .exact i9
   refine N ?_
   refine rH (λaL=>?_) (λaL=>?_)
   .exact i9
   (conv=>whnf)
   repeat' (first|refine .yes D ?_|refine bZ ?_|refine a3 ?_|refine s2 ?_ ?_<;>intros|fail)<;>(conv=>whnf)
   all_goals exact bt _ _ (step ⟨λ_=>⟨I,aq,List.length_eq_zero_iff.1 I⟩,λh=>(by rw[D]at h;cases h)⟩) rfl rfl
  ·(conv=>whnf)
   repeat' (first|refine .no D ?_|refine hZ (ph aa x.case M.1) ?_|refine hZ (Nx aa x.g x.names I M.2.2) ?_|refine bZ ?_|refine a3 ?_|refine s2 ?_ ?_<;>intros|fail)<;>(conv=>whnf)
   all_goals try exact⟨rfl,_,rfl,kn⟩
   all_goals exact bt _ _ (step ⟨λh=>(by rw[D]at h;cases h),λ_=>⟨by assumption,by assumption⟩⟩) rfl rfl
 .refine dd ?_
  refine⟨rfl,_,rfl,λ_ i a aN=>a7 i a ?_ aN⟩
  rcases Nat.lt_or_ge i l.length with h|h
  .exact h
  .rw[List.getElem?_eq_none h]at aN;cases aN
def oe(e:ai):Prop:=∃p,Bf e.kind=some p/\(p.1=sK\/e.kids.length=p.1)/\(p.2.1=sK\/e.types.length=p.2.1)/\e.types.all al.kC=true/\(p.2.2.1=false->e.ay=[])/\(p.2.2.2.1=false->e.mem=[])/\(p.2.2.2.2.1=false->e.num=0)/\
 (p.2.2.2.2.2.1=false->e.cg.length=0)/\(p.2.2.2.2.2.2=false->e.bM.length=0)/\(p.2.2.2.1=true->hD e.mem=true)/\e.cg.all hD=true/\
 (e.kind=2->e.num=0\/e.num=1)/\(e.kind=3\/e.kind=4->hD e.ay=true)/\(e.kind=8->e.ay∈DM)/\(e.kind=9\/e.kind=10\/e.kind=11->qp e.ay=true)/\(e.kind=11->e.cg.length=e.kids.length)/\
 (e.kind=13->0<e.cg.length/\e.cg.length+1=e.kids.length)/\(e.kind=15->e.bM.length+1=e.kids.length/\adM e.bM)/\(e.kind=20->hD e.ay=true/\1<=e.num/\e.num<=1000)
omit aa in
theorem kinds(k):Bf k=none\/k=1\/k=2\/k=3\/k=4\/k=5\/k=6\/k=7\/k=8\/k=9\/k=10\/k=11\/k=12\/k=13\/k=14\/k=15\/k=16\/k=17\/k=18\/k=19\/k=20\/k=23\/k=24:=by
 rcases Nat.lt_or_ge k 25 with h|h
 .have:k=0\/k=1\/k=2\/k=3\/k=4\/k=5\/k=6\/k=7\/k=8\/k=9\/k=10\/k=11\/k=12\/k=13\/k=14\/k=15\/k=16\/k=17\/k=18\/k=19\/k=20\/k=21\/k=22\/k=23\/k=24:=I
  rcases this with rfl|rfl|rfl|rfl|rfl|rfl|rfl|rfl|rfl|rfl|rfl|rfl|rfl|rfl|rfl|rfl|rfl|rfl|rfl|rfl|rfl|rfl|rfl|rfl|rfl<;>simp[Bf]
 .left;unfold Bf
  repeat rw[if_neg I]
theorem arD(t)(au:t.b0):bU C [] 226 [.J (.agg t.cells)] [] λv A=>A=[]/\∃b,v=.bool b/\(b->oe t):=by
 refine aa.z 226 ff rfl rfl ?_
 obtain⟨D,F,aq,aL,bO,cr,fK,hI,lK,s4⟩:=au.one
 clear au
 obtain⟨kind,ay,mem,num,aj,types,an,cg,aM,bM,bs,kids,bL,pos⟩:=t
 simp only[ai.ay,ai.mem,ai.types,ai.cg,ai.bM,ai.kids,ai.num]at D F aq aL bO cr fK hI lK s4
 have cH:(types.map al.row).length=types.length:=bW
 have cq:(cg.map b6).length=cg.length:=bW
 have c9:(bM.map dI.row).length=bM.length:=bW
 have eg:(kids.map ai.row).length=kids.length:=bW
 rcases kinds kind with ar|ar
 .refine N ?_
  refine aW (aax aa kind) ?_
  rintro v A ⟨rfl,aI⟩
  rw[Nl,ar]at aI
  subst aI
  (conv=>whnf)
  repeat' (first|refine bZ ?_|refine a3 ?_|refine s2 ?_ ?_<;>intros|fail)<;>(conv=>whnf)
  all_goals exact⟨rfl,_,rfl,kn⟩
 rcases ar with rfl|rfl|rfl|rfl|rfl|rfl|rfl|rfl|rfl|rfl|rfl|rfl|rfl|rfl|rfl|rfl|rfl|rfl|rfl|rfl|rfl|rfl
 all_goals
  simp only[ai.cells,ai.kind,ai.ay,ai.mem,ai.num,ai.aj,ai.types,ai.an,ai.cg,ai.aM,ai.bM,ai.bs,ai.kids,ai.bL,ai.pos]
  refine N ?_
  refine aW (aax aa _) ?_
  rintro v A ⟨rfl,aI⟩
  simp[Nl,Bf,Mw,sK]at aI
  subst aI
  (conv=>whnf)
  repeat' (first|refine .no In ?_|refine .yes af ?_|refine .no af ?_|refine q2.nice I ?_|refine q2.rJ ?_|refine hZ (TM aa aj types aq λx M=>(aL x M).1) ?_|refine hZ (ph aa mem F) ?_|refine hZ (Nx aa an cg I cr) ?_|refine hZ (ph aa ay D) ?_|refine hZ (GL aa ay D) ?_|refine hZ (afY aa ay) ?_|(refine aW (alH aa aM bM fK hI) ?_;rintro v A ⟨rfl,b,rfl,aB⟩)|refine bZ ?_|refine a3 ?_|refine s2 ?_ ?_<;>intros|fail)<;>(conv=>whnf)
  all_goals try exact⟨rfl,_,rfl,kn⟩
  all_goals(refine⟨rfl,_,rfl,λaB=>?_⟩;refine⟨_,rfl,?_,?_,?_,?_,?_,?_,?_,?_,?_,?_,?_,?_,?_,?_,?_,?_,?_,?_⟩)
  all_goals simp only[ai.kind,ai.ay,ai.mem,ai.num,ai.types,ai.cg,ai.bM,ai.kids]
  all_goals first|assumption|omega|(intro _;left;assumption)|(intro _;right;exact dA.1 aB)|(intro _;exact of_decide_eq_true aB)|(intro _;have:=dA.1 aB;omega)|(intro _;refine⟨I,?_⟩;solve_by_elim)|(intro _;exact ag7 (by assumption) s4.2 (by assumption) aB)|(intro a0;first|assumption|omega|cases a0)|(intro a0;rcases a0 with a0|a0<;>cases a0)|(intro a0;rcases a0 with a0|a0|a0<;>cases a0)|(intros;simp_all;done)
mutual
def ai.oC:ai->Prop
 |.mk bk bu b1 cP dO eb eY mN gZ pM oE l ti wD=>oe (.mk bk bu b1 cP dO eb eY mN gZ pM oE l ti wD)/\ai.Jb l
def ai.Jb:List ai->Prop
 |[]=>True|a::l=>a.oC/\ai.Jb l
end
omit aa in
theorem ai.adY:∀{l},ai.Jb l↔∀x∈l,x.oC
 |[]=>by simp[ai.Jb]
 |a::l=>by simp[ai.Jb,ai.adY]
omit aa in
theorem ai.xh(t):t.oC↔oe t/\∀x∈t.kids,x.oC:=by
 cases t;rw[ai.oC,ai.adY];rfl
def abg(x:dX):Prop:=x.params.length<=4/\x.fields.length<=12/\∀f∈x.fields,f.bL.jK=true
def ad6(x:fl):Prop:=x.gL.length<=12/\x.gL.all al.jK=true
def XW(x:dV):Prop:=x.params.length<=4/\x.cases.length<=12/\∀c∈x.cases,ad6 c
def aaN(m:fS):Prop:=m.args.length<=6/\m.args.all al.jK=true/\m.eW.jK=true
def aaC(x:eG):Prop:=x.eu.length<=12/\∀m∈x.eu,aaN m
def Zn(x:em):Prop:=B6 x.dB=true/\x.bL.jK=true/\x.binds.length<=12
def XY(a:cG):Prop:=a.bL.jK=true/\JE a.gk
def VO(x:cu):Prop:=B6 x.dB=true/\x.args.length<=6/\x.eW.jK=true/\JE x.body/\∀a∈x.args,XY a
def Zk(x:cZ):Prop:=x.fA.length<=8/\x.dJ.length<=60/\x.d9.length<=60/\x.e2.length<=60/\x.dn.length<=60/\x.funcs.length<=60
def Rx(x:cZ):Prop:=Zk x/\(∀s∈x.dJ,abg s)/\(∀s∈x.d9,XW s)/\(∀s∈x.e2,aaC s)/\(∀s∈x.dn,Zn s)/\∀s∈x.funcs,VO s
def aj2(x)(M:x.ok):bU C [] 159 [.J (.agg x.cells)] [] λv A=>A=[]/\∃b,v=.bool b/\(b->Rx x):=by
 refine aa.z 159 (ja [(0,[3,4,16,17,18,19,20,21,22],[1]),(2,[4,21,22],[1]),(4,[5,6,26,27,28,29,30,31,32],[1]),(6,[6,31,32],[1]),(8,[7,8,36,37,38,39,40,41,42],[1]),(10,[8,41,42],[1]),(12,[9,46,47],[1]),(14,[10,11,51,52,53,54,55,56,57],[1]),(16,[11,56,57],[1])]) rfl rfl ?_;obtain⟨_,_,_,g3,_,cH,cT,cq,cN,c9,el,eg,e0,fJ,gB⟩:=M;have tm:(x.fA.map hM.row).length=x.fA.length:=bW;have er:(x.dJ.map dX.row).length=x.dJ.length:=bW;have f8:(x.d9.map dV.row).length=x.d9.length:=bW;have jy:(x.e2.map eG.row).length=x.e2.length:=bW;have lj:(x.dn.map em.row).length=x.dn.length:=bW;have ny:(x.funcs.map cu.row).length=x.funcs.length:=bW
 (conv=>whnf)
 repeat' (first|refine bZ ?_|refine a3 ?_|refine s2 ?_ ?_<;>intros|fail)<;>(conv=>whnf)
 all_goals try exact⟨rfl,_,rfl,kn⟩
 have amD:Zk x:=⟨I,I,I,I,I,I⟩;refine fu dX.row x.dJ 15 (λd=>[]) (λd=>∀s∈d,abg s) ⟨by simp,rfl,rfl⟩ (λd y r ba aw be ag a7 bt=>?_) (λba a7=>?_)
 .obtain⟨D,F,aq,aL,bO,cr⟩:=cT y (by simp[aw]);have c4:(y.params.map b6).length=y.params.length:=bW;have cl:(y.fields.map eT.row).length=y.fields.length:=bW;unfold dX.row at ag;refine dk ?_
  (conv=>whnf)
  repeat' (first|refine bZ ?_|refine a3 ?_|refine s2 ?_ ?_<;>intros|fail)<;>(conv=>whnf)
  all_goals try exact⟨rfl,_,rfl,kn⟩
  refine fu eT.row y.fields 20 (λd=>[]) (λd=>∀f∈d,f.bL.jK=true) ⟨by simp,rfl,rfl⟩ (λd2 z b3 gl fb be ag dq fj=>?_) (λgl dq=>?_)
  .have g:=(cr z (by simp[fb])).2;unfold eT.row at ag;refine dk ?_;refine bn (Fi aa z.bL g.1) ?_;refine lT (j0 (λgx=>?_) (λ_=>?_));rotate_left
   .exact i9
   refine N ?_;exact fj _ _ (k1 dq gx) rfl rfl
  .refine dd ?_;exact bt _ _ (k1 a7 ⟨I,I,dq⟩) rfl rfl
 refine dd ?_;refine fu dV.row x.d9 25 (λd=>[]) (λd=>∀s∈d,XW s) ⟨by simp,rfl,rfl⟩ (λd y r ba aw be ag gP bt=>?_) (λba gP=>?_)
 .obtain⟨D,F,aq,aL,bO,cr⟩:=cN y (by simp[aw]);have c4:(y.params.map b6).length=y.params.length:=bW;have cl:(y.cases.map fl.row).length=y.cases.length:=bW;unfold dV.row at ag;refine dk ?_
  (conv=>whnf)
  repeat' (first|refine bZ ?_|refine a3 ?_|refine s2 ?_ ?_<;>intros|fail)<;>(conv=>whnf)
  all_goals try exact⟨rfl,_,rfl,kn⟩
  refine fu fl.row y.cases 30 (λd=>[]) (λd=>∀c∈d,ad6 c) ⟨by simp,rfl,rfl⟩ (λd2 z b3 gl fb be ag dq fj=>?_) (λgl dq=>?_)
  .obtain⟨_,aj,an⟩:=cr z (by simp[fb]);have dm:(z.gL.map al.row).length=z.gL.length:=bW;unfold fl.row at ag;refine dk ?_
   (conv=>whnf)
   repeat' (first|refine hZ (QE aa z.g z.gL aj λt au=>(an t au).1) ?_|refine bZ ?_|refine a3 ?_|refine s2 ?_ ?_<;>intros|fail)<;>(conv=>whnf)
   all_goals try exact⟨rfl,_,rfl,kn⟩
   exact fj _ _ (k1 dq ⟨I,by assumption⟩) rfl rfl
  .refine dd ?_;exact bt _ _ (k1 gP ⟨I,I,dq⟩) rfl rfl
 refine dd ?_;refine fu eG.row x.e2 35 (λd=>[]) (λd=>∀s∈d,aaC s) ⟨by simp,rfl,rfl⟩ (λd y r ba aw be ag cB bt=>?_) (λba cB=>?_)
 .obtain⟨D,F,bO,cr⟩:=el y (by simp[aw]);have cl:(y.eu.map fS.row).length=y.eu.length:=bW;unfold eG.row at ag;refine dk ?_
  (conv=>whnf)
  repeat' (first|refine bZ ?_|refine a3 ?_|refine s2 ?_ ?_<;>intros|fail)<;>(conv=>whnf)
  all_goals try exact⟨rfl,_,rfl,kn⟩
  refine fu fS.row y.eu 40 (λd=>[]) (λd=>∀m∈d,aaN m) ⟨by simp,rfl,rfl⟩ (λd2 z b3 gl fb be ag dq fj=>?_) (λgl dq=>?_)
  .obtain⟨_,aj,an,aM,_⟩:=cr z (by simp[fb]);have dm:(z.args.map al.row).length=z.args.length:=bW;unfold fS.row at ag;refine dk ?_
   (conv=>whnf)
   repeat' (first|refine hZ (QE aa z.g z.args aj λt au=>(an t au).1) ?_|refine hZ (Fi aa z.eW aM.1) ?_|refine bZ ?_|refine a3 ?_|refine s2 ?_ ?_<;>intros|fail)<;>(conv=>whnf)
   all_goals try exact⟨rfl,_,rfl,kn⟩
   exact fj _ _ (k1 dq ⟨I,by assumption,by assumption⟩) rfl rfl
  .refine dd ?_;exact bt _ _ (k1 cB ⟨I,dq⟩) rfl rfl
 refine dd ?_;refine fu em.row x.dn 45 (λd=>[]) (λd=>∀s∈d,Zn s) ⟨by simp,rfl,rfl⟩ (λd y r ba aw be ag gU bt=>?_) (λba gU=>?_)
 .obtain⟨_,aj,an,g,aM,_⟩:=e0 y (by simp[aw]);have cl:(y.binds.map ko.row).length=y.binds.length:=bW;unfold em.row at ag;refine dk ?_
  (conv=>whnf)
  repeat' (first|refine hZ (acf aa y.aj y.dB aj λt au=>(an t au).2.1) ?_|refine hZ (Fi aa y.bL g.1) ?_|refine bZ ?_|refine a3 ?_|refine s2 ?_ ?_<;>intros|fail)<;>(conv=>whnf)
  all_goals try exact⟨rfl,_,rfl,kn⟩
  exact bt _ _ (k1 gU ⟨by assumption,by assumption,I⟩) rfl rfl
 refine dd ?_;refine fu cu.row x.funcs 50 (λd=>[]) (λd=>∀s∈d,VO s) ⟨by simp,rfl,rfl⟩ (λd y r ba aw be ag mX bt=>?_) (λba mX=>?_)
 .obtain⟨_,_,aq,aL,bO,cr,fK,hI⟩:=gB y (by simp[aw]);have cl:(y.args.map cG.row).length=y.args.length:=bW;unfold cu.row at ag;simp only[lJ,ps]at ag;refine dk ?_
  (conv=>whnf)
  repeat' (first|refine hZ (acf aa y.aj y.dB aq λt au=>(aL t au).2.1) ?_|refine hZ (Fi aa y.eW fK.1) ?_|(refine aW (abD aa y.body hI) ?_;rintro v A ⟨rfl,b,rfl,aB⟩)|refine bZ ?_|refine a3 ?_|refine s2 ?_ ?_<;>intros|fail)<;>(conv=>whnf)
  all_goals try exact⟨rfl,_,rfl,kn⟩
  have kR:JE y.body:=aB (by assumption);refine fu cG.row y.args 55 (λd=>[]) (λd=>∀a∈d,XY a) ⟨by simp,rfl,rfl⟩ (λd2 z b3 gl fb be ag dq fj=>?_) (λgl dq=>?_)
  .obtain⟨_,aj,an⟩:=cr z (by simp[fb]);unfold cG.row at ag;simp only[lJ,ps]at ag;refine dk ?_
   (conv=>whnf)
   repeat' (first|refine hZ (Fi aa z.bL aj.1) ?_|(refine aW (abD aa z.gk an) ?_;rintro v A ⟨rfl,b,rfl,aQ⟩)|refine bZ ?_|refine a3 ?_|refine s2 ?_ ?_<;>intros|fail)<;>(conv=>whnf)
   all_goals try exact⟨rfl,_,rfl,kn⟩
   exact fj _ _ (k1 dq ⟨by assumption,aQ (by assumption)⟩) rfl rfl
  .refine dd ?_;exact bt _ _ (k1 mX ⟨by assumption,I,by assumption,kR,dq⟩) rfl rfl
 refine dd ?_;exact⟨rfl,_,rfl,λ_=>⟨amD,a7,gP,cB,gU,mX⟩⟩
def apK(x)(M:x.ok):bU C [] 72 [.J (.agg x.cells)] [] λv A=>A=[]/\∃n,v=.int 3 n/\(n=0->SR x/\Rx x):=by
 refine aa.z 72 ff rfl rfl ?_;refine N ?_;refine aW (arh aa x M) ?_;rintro v A ⟨rfl,b,rfl,aB⟩;refine N ?_;refine j0 (λh=>?_) (λh=>?_)
 .refine N ?_;exact⟨rfl,_,rfl,λh=>by cases h⟩
 refine N ?_;refine aW (aj2 aa x M) ?_;rintro v A ⟨rfl,dp,rfl,kR⟩;refine N ?_;refine lT (j0 (λF=>?_) (λF=>?_))
 .refine N ?_;exact⟨rfl,_,rfl,λ_=>⟨aB h,kR F⟩⟩
 refine N ?_;exact⟨rfl,_,rfl,λh=>by cases h⟩
def akg(t:ai)(au:t.b0)(aQ:∀x∈t.kids,bU C [] 162 [.J (.agg x.cells)] [] λv A=>A=[]/\∃b,v=.bool b/\(b->x.oC)):bU C [] 162 [.J (.agg t.cells)] [] λv A=>A=[]/\∃b,v=.bool b/\(b->t.oC):=by
 refine aa.z 162 (ja [(0,[3,8,9],[1])]) rfl rfl ?_;have ii:=au.len;refine N ?_;refine aW (arD aa t au) ?_;rintro v A ⟨rfl,b,rfl,aB⟩;refine N ?_;refine lT (j0 (λF=>?_) (λF=>?_));rotate_left
 .exact i9
 refine N ?_;refine fu ai.row t.kids 7 (λd=>[]) (λd=>∀x∈d,x.oC) ⟨by simp,rfl,rfl⟩ (λd x r ba aw be ag a7 bt=>?_) (λba a7=>?_)
 .rw[ai.dN]at ag;refine dk ?_;refine aW (aQ x (by simp[aw])) ?_;rintro v A ⟨rfl,b,rfl,M⟩;refine N ?_;refine lT (j0 (λaq=>?_) (λ_=>?_));rotate_left
  .exact i9
  refine N ?_;exact bt _ _ (k1 a7 (M aq)) rfl rfl
 .refine dd ?_;exact⟨rfl,_,rfl,λ_=>(ai.xh t).2 ⟨aB F,a7⟩⟩
def Ya:∀(t:ai),t.b0->bU C [] 162 [.J (.agg t.cells)] [] λv A=>A=[]/\∃b,v=.bool b/\(b->t.oC):=
 ai.ind λt bQ h=>akg aa t h λx M=>bQ x M (h.l0 M)
def WQ(a:cG):Prop:=hD a.ay=true/\a.bL.kC=true/\(a.gk.zero=true\/(a.has=true/\a.gk.oC))
def zm(x:cu):Prop:=x.since<=1000/\hD x.ay=true/\WW x.dB/\x.eW.kC=true/\(x.has=true->x.body.oC)/\(x.has=false->x.body.zero=true)/\∀a∈x.args,WQ a
def agX(x:cZ)(M:x.ok):bU C [] 79 [.J (.agg x.cells)] [] λv A=>A=[]/\∃b,v=.bool b/\(b->∀f∈x.funcs,zm f):=by
 refine aa.z 79 (ja [(0,[3,4,8,9,10,11,12,13,14],[1]),(2,[4,13,14],[1])]) rfl rfl ?_;obtain⟨_,_,_,g3,_,cH,cT,cq,cN,c9,el,eg,e0,fJ,gB⟩:=M;have ny:(x.funcs.map cu.row).length=x.funcs.length:=bW
 (conv=>whnf)
 repeat(refine bZ ?_;conv=>whnf)
 refine fu cu.row x.funcs 7 (λd=>[]) (λd=>∀s∈d,zm s) ⟨by simp,rfl,rfl⟩ (λd y r ba aw be ag mX bt=>?_) (λba mX=>?_)
 .obtain⟨D,F,aq,aL,bO,cr,fK,hI⟩:=gB y (by simp[aw]);have cl:(y.args.map cG.row).length=y.args.length:=bW;unfold cu.row at ag;simp only[lJ,ps]at ag;cases bo:y.has<;>rw[bo]at ag
  all_goals
   refine dk ?_
   refine bn (L8 aa y.since D) ?_
   refine lT (j0 (λgx=>?_) (λ_=>?_))
   rotate_left
   .exact i9
   refine N ?_
   refine bn (ph aa y.ay F) ?_
   refine lT (j0 (λs2=>?_) (λ_=>?_))
   rotate_left
   .exact i9
   refine N ?_
   refine aW (adj aa y.aj y.dB aq aL) ?_
   rintro v A ⟨rfl,b,rfl,aB⟩
   refine N ?_
   refine lT (j0 (λoV=>?_) (λ_=>?_))
   rotate_left
   .exact i9
   refine N ?_
   refine bn (DY aa y.eW fK.1) ?_
   refine lT (j0 (λqy=>?_) (λ_=>?_))
   rotate_left
   ·(conv=>whnf)
    repeat' ((first|refine bZ ?_|((with_reducible first|apply eh|apply jQ|apply ch|apply cQ|apply eQ|apply mr|apply mD|apply eO)<;>intros))<;>(conv=>whnf))
    all_goals first|exact⟨rfl,_,rfl,kn⟩|exact⟨rfl,_,rfl,pN⟩
   (conv=>whnf)
   repeat' ((first|(refine aW (Ya aa y.body hI) ?_;rintro v A ⟨rfl,dp,rfl,kR⟩)|(refine aW (QU aa y.body) ?_;rintro v A ⟨rfl,rfl⟩)|refine bZ ?_|((with_reducible first|apply eh|apply jQ|apply ch|apply cQ|apply eQ|apply mr|apply mD|apply eO)<;>intros))<;>(conv=>whnf))
   all_goals try exact⟨rfl,_,rfl,kn⟩
   refine fu cG.row y.args 12 (λd=>[]) (λd=>∀a∈d,WQ a) ⟨by simp,rfl,rfl⟩ (λd2 z b3 gl fb be ag dq fj=>?_) (λgl dq=>?_)
   .obtain⟨aj,an,aM⟩:=cr z (by simp[fb]);unfold cG.row at ag;simp only[lJ,ps]at ag;refine dk ?_
    (conv=>whnf)
    repeat' ((first|(refine aW (ph aa z.ay aj) ?_;rintro v A ⟨rfl,rfl⟩)|(refine aW (DY aa z.bL an.1) ?_;rintro v A ⟨rfl,rfl⟩)|(refine aW (Ya aa z.gk aM) ?_;rintro v A ⟨rfl,ga,rfl,Bh⟩)|(refine aW (QU aa z.gk) ?_;rintro v A ⟨rfl,rfl⟩)|refine bZ ?_|((with_reducible first|apply eh|apply jQ|apply ch|apply cQ|apply eQ|apply mr|apply mD|apply eO)<;>intros))<;>(conv=>whnf))
    all_goals try exact⟨rfl,_,rfl,kn⟩
    all_goals exact fj _ _ (k1 dq ⟨by assumption,by assumption,by first|(left;assumption)|exact .inr ⟨by assumption,Bh (by assumption)⟩⟩) rfl rfl
   .refine dd ?_;exact bt _ _ (k1 mX ⟨sw gx,s2,aB oV,qy,λh=>(by first|exact kn (bo.symm.trans h)|exact kR (by assumption)),λh=>(by first|exact pN (bo.symm.trans h)|assumption),dq⟩) rfl rfl
 refine dd ?_;exact⟨rfl,_,rfl,λ_=>mX⟩
def adV(x:hM):Prop:=hD x.ay=true/\1<=x.rel/\x.rel<=1000
def Pa(x:dX):Prop:=x.since<=1000/\hD x.ay=true/\x.params.all hD=true/\∀f∈x.fields,hD f.ay=true/\f.bL.kC=true
def abA(x:dV):Prop:=x.since<=1000/\hD x.ay=true/\x.params.all hD=true/\∀f∈x.cases,hD f.ay=true/\f.gL.all al.kC=true
def AP(x:cZ):Prop:=(1<=x.kind/\x.kind<=3)/\hD x.ay=true/\(x.kind=2->x.rel=0)/\(x.kind≠2->1<=x.rel/\x.rel<=1000)/\SR x/\Rx x/\(∀y∈x.fA,adV y)/\(∀y∈x.dJ,Pa y)/\(∀y∈x.d9,abA y)/\
 (∀t∈x.e2,HV t)/\(∀t∈x.dn,Hp t)/\∀f∈x.funcs,zm f
def aqz(x)(M:x.ok):bU C [] 31 [.J (.agg x.cells)] [] λv A=>A=[]/\∃b,v=.bool b/\(b->AP x):=by
 refine aa.z 31 (ja [(0,[3,12,13],[1]),(2,[4,5,17,18,19,20,21,22,23],[1]),(4,[5,22,23],[1]),(6,[6,7,27,28,29,30,31,32,33],[1]),(8,[7,32,33],[1])]) rfl rfl ?_;obtain⟨ar,nv,l5,g3,e5,cH,cT,cq,cN,c9,el,eg,e0,fJ,gB⟩:=id M;have tm:(x.fA.map hM.row).length=x.fA.length:=bW;have er:(x.dJ.map dX.row).length=x.dJ.length:=bW;have f8:(x.d9.map dV.row).length=x.d9.length:=bW;have jy:(x.e2.map eG.row).length=x.e2.length:=bW;have lj:(x.dn.map em.row).length=x.dn.length:=bW;have ny:(x.funcs.map cu.row).length=x.funcs.length:=bW
 (conv=>whnf)
 repeat' (first|refine hZ (ph aa x.ay l5) ?_|refine hZ (aaq aa x.rel nv) ?_|(refine aW (apK aa x M) ?_;rintro v A ⟨rfl,n,rfl,aD⟩)|refine bZ ?_|refine a3 ?_|refine s2 ?_ ?_<;>intros|fail)<;>(conv=>whnf)
 all_goals try exact⟨rfl,_,rfl,kn⟩
 all_goals
  have aI:(1<=x.kind/\x.kind<=3)/\hD x.ay=true/\(x.kind=2->x.rel=0)/\(x.kind≠2->1<=x.rel/\x.rel<=1000):=by refine⟨I,by assumption,λh=>I,λh=>?_⟩;first|omega|exact sw (by assumption)
  have Ft:=aD (by assumption)
  refine fu hM.row x.fA 11 (λd=>[]) (λd=>∀y∈d,adV y) ⟨by simp,rfl,rfl⟩ (λd y r ba aw be ag mX bt=>?_) (λba mX=>?_)
  .obtain⟨aj,an⟩:=e5 y (by simp[aw]);unfold hM.row at ag;refine dk ?_
   (conv=>whnf)
   repeat' (first|refine hZ (ph aa y.ay aj) ?_|refine hZ (aaq aa y.rel an) ?_|refine bZ ?_|refine a3 ?_|refine s2 ?_ ?_<;>intros|fail)<;>(conv=>whnf)
   all_goals try exact⟨rfl,_,rfl,kn⟩
   have:1<=y.rel/\y.rel<=1000:=sw (by assumption);exact bt _ _ (k1 mX ⟨by assumption,this⟩) rfl rfl
  refine dd ?_
  refine fu dX.row x.dJ 16 (λd=>[]) (λd=>∀y∈d,Pa y) ⟨by simp,rfl,rfl⟩ (λd y r ba aw be ag gP bt=>?_) (λba gP=>?_)
  .obtain⟨aj,an,aM,bs,cp,dj⟩:=cT y (by simp[aw]);have cl:(y.fields.map eT.row).length=y.fields.length:=bW;have c4:(y.params.map b6).length=y.params.length:=bW;unfold dX.row at ag;refine dk ?_;refine bn (L8 aa y.since aj) ?_;refine lT (j0 (λgx=>?_) (λ_=>?_));rotate_left
   .exact i9
   (conv=>whnf)
   repeat' (first|refine hZ (ph aa y.ay an) ?_|refine hZ (Nx aa y.aj y.params I bs) ?_|refine bZ ?_|refine a3 ?_|refine s2 ?_ ?_<;>intros|fail)<;>(conv=>whnf)
   all_goals try exact⟨rfl,_,rfl,kn⟩
   refine fu eT.row y.fields 21 (λd=>[]) (λd=>∀f∈d,hD f.ay=true/\f.bL.kC=true) ⟨by simp,rfl,rfl⟩ (λd2 z b3 gl fb be ag dq fj=>?_) (λgl dq=>?_)
   .obtain⟨bC,aX⟩:=dj z (by simp[fb]);unfold eT.row at ag;refine dk ?_
    (conv=>whnf)
    repeat' (first|refine hZ (ph aa z.ay bC) ?_|refine hZ (DY aa z.bL aX.1) ?_|refine bZ ?_|refine a3 ?_|refine s2 ?_ ?_<;>intros|fail)<;>(conv=>whnf)
    all_goals try exact⟨rfl,_,rfl,kn⟩
    exact fj _ _ (k1 dq ⟨by assumption,by assumption⟩) rfl rfl
   .refine dd ?_;exact bt _ _ (k1 gP ⟨sw gx,by assumption,by assumption,dq⟩) rfl rfl
  refine dd ?_
  refine fu dV.row x.d9 26 (λd=>[]) (λd=>∀y∈d,abA y) ⟨by simp,rfl,rfl⟩ (λd y r ba aw be ag cB bt=>?_) (λba cB=>?_)
  .obtain⟨aj,an,aM,bs,cp,dj⟩:=cN y (by simp[aw]);have cl:(y.cases.map fl.row).length=y.cases.length:=bW;have c4:(y.params.map b6).length=y.params.length:=bW;unfold dV.row at ag;refine dk ?_;refine bn (L8 aa y.since aj) ?_;refine lT (j0 (λgx=>?_) (λ_=>?_));rotate_left
   .exact i9
   (conv=>whnf)
   repeat' (first|refine hZ (ph aa y.ay an) ?_|refine hZ (Nx aa y.aj y.params I bs) ?_|refine bZ ?_|refine a3 ?_|refine s2 ?_ ?_<;>intros|fail)<;>(conv=>whnf)
   all_goals try exact⟨rfl,_,rfl,kn⟩
   refine fu fl.row y.cases 31 (λd=>[]) (λd=>∀f∈d,hD f.ay=true/\f.gL.all al.kC=true) ⟨by simp,rfl,rfl⟩ (λd2 z b3 gl fb be ag dq fj=>?_) (λgl dq=>?_)
   .obtain⟨bC,aX,b4⟩:=dj z (by simp[fb]);unfold fl.row at ag;refine dk ?_
    (conv=>whnf)
    repeat' (first|refine hZ (ph aa z.ay bC) ?_|refine hZ (TM aa z.g z.gL aX λt au=>(b4 t au).1) ?_|refine bZ ?_|refine a3 ?_|refine s2 ?_ ?_<;>intros|fail)<;>(conv=>whnf)
    all_goals try exact⟨rfl,_,rfl,kn⟩
    exact fj _ _ (k1 dq ⟨by assumption,by assumption⟩) rfl rfl
   .refine dd ?_;exact bt _ _ (k1 cB ⟨sw gx,by assumption,by assumption,dq⟩) rfl rfl
  refine dd ?_
  (conv=>whnf)
  repeat' (first|(refine aW (alM aa x M) ?_;rintro v A ⟨rfl,b,rfl,aB⟩)|(refine aW (ak5 aa x M) ?_;rintro v A ⟨rfl,dp,rfl,kR⟩)|(refine aW (agX aa x M) ?_;rintro v A ⟨rfl,ga,rfl,Bh⟩)|refine bZ ?_|refine a3 ?_|refine s2 ?_ ?_<;>intros|fail)<;>(conv=>whnf)
  all_goals try exact⟨rfl,_,rfl,kn⟩
  exact⟨rfl,_,rfl,λaq=>⟨aI.1,aI.2.1,aI.2.2.1,aI.2.2.2,Ft.1,Ft.2,mX,gP,cB,aB (by assumption),kR (by assumption),Bh aq⟩⟩
end
end Go.Tx
