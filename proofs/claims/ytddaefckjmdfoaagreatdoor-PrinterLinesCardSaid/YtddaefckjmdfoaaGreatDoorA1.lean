/- Part of the proof of PrinterLines. -/
import Derived.Test.YtddaefckjmdfoaaGreatDoorA0
set_option linter.all false
namespace Go.Tx
open Go Go.Ev
set_option maxRecDepth 100000
set_option maxHeartbeats 8000000
attribute [local irreducible] jJ mb bj lQ kS nj ie fe
section
variable{C:Nat->cG}{ext:Nat->Option e0}{ab:fD}(Q:Env C ext ab)
include Q
def aj.zero(e:aj):Bool:=decide (e.kind=0/\e.aR=[]/\e.mem=[]/\e.num=0/\e.types=[]/\e.fM=[]/\e.fV=[]/\e.kids=[])
theorem Yb(t:aj):bj C [] 80 [.J (.agg t.cells)] [] λv A=>A=[]/\v=.bool t.zero:=by
 refine Q.z 80 cY rfl rfl ?_
 (conv=>whnf)
 repeat' (first|refine bn ?_|refine aN ?_|refine s2 ?_ ?_<;>intros|fail)<;>(conv=>whnf)
 all_goals(refine⟨rfl,?_⟩;simp_all [aj.zero,J5])
def BS:List bM:=[[61,61],[60],[43],[45],[42],[47],[37]]
theorem ahs(s:bM):bj C [] 271 [.J (.str s)] [] λv A=>A=[]/\v=.bool (decide (s∈BS)):=by
 refine Q.z 271 cY rfl rfl ?_
 (conv=>whnf)
 repeat' (first|refine bn ?_|refine aN ?_|refine s2 ?_ ?_<;>intros|fail)<;>(conv=>whnf)
 all_goals(refine⟨rfl,?_⟩;simp_all [BS,IN])
def Np(a b:Nat)(c d e f g:Bool):List b2:=[.int 3 a,.int 3 b,.bool c,.bool d,.bool e,.bool f,.bool g]
def lO:Nat:=18446744073709551615
def ut(k:Nat):Option (Nat×Nat×Bool×Bool×Bool×Bool×Bool):=
 if k=1\/k=2 then some (0,0,false,false,true,false,false)
 else if k=3 then some (0,0,true,false,false,false,false)
 else if k=4 then some (2,0,true,false,false,false,false)
 else if k=5 then some (3,0,false,false,false,false,false)
 else if k=6\/k=18\/k=19 then some (2,0,false,false,false,false,false)
 else if k=7 then some (1,1,false,false,false,false,false)
 else if k=8 then some (2,0,true,false,false,false,false)
 else if k=9 then some (lO,lO,true,false,false,false,false)
 else if k=10 then some (lO,1,true,true,false,false,false)
 else if k=11 then some (lO,lO,true,false,false,true,false)
 else if k=12 then some (1,0,false,true,false,false,false)
 else if k=13 then some (lO,0,false,false,false,true,false)
 else if k=14 then some (lO,1,false,true,false,false,false)
 else if k=15 then some (lO,0,false,false,false,false,true)
 else if k=16 then some (lO,1,false,false,false,false,false)
 else if k=17\/k=23\/k=24 then some (1,0,false,false,false,false,false)
 else if k=20 then some (0,0,true,false,true,false,false)
 else none
def LO(k:Nat):Option (List b2):=(ut k).map λN=>Np N.1 N.2.1 N.2.2.1 N.2.2.2.1 N.2.2.2.2.1 N.2.2.2.2.2.1 N.2.2.2.2.2.2
theorem aeA(n:Nat):bj C [] 270 [.J (.int 3 n)] [] λv A=>A=[]/\v=(match LO n with|some l=>.eJ [.agg l,.bool true]|none=>.eJ [.agg (Np 0 0 false false false false false),.bool false]):=by
 refine Q.z 270 cY rfl rfl ?_
 (conv=>whnf)
 repeat' (first|refine bn ?_|refine aN ?_|refine s2 ?_ ?_<;>intros|fail)<;>(conv=>whnf)
 all_goals(refine⟨rfl,?_⟩;simp_all [LO,ut,Np,lO])
def QE(l:List fC):Prop:=∀i a,l[i]?=some a->(a.uD=true->i+1=l.length/\a.case=[]/\a.names=[])/\(a.uD=false->gR a.case=true/\a.names.all gR=true)
theorem aqe(g)(l)(h:l.length<100)(K:∀a∈l,a.ok):bj C [] 272 [.J (.aQ g (l.map fC.row))] [] λv A=>A=[]/\∃b,v=.bool b/\(b->QE l):=by
 refine Q.z 272 (h9 [(0,[2,3,7,8,9],[])]) rfl rfl ?_
 have fy:(l.map fC.row).length<100:=by rw[List.length_map];exact h
 refine aG ?_
 refine gE fC.row l 6 (λd=>[]) (λd=>∀i a,i<d.length->l[i]?=some a->(a.uD=true->i+1=l.length/\a.case=[]/\a.names=[])/\(a.uD=false->gR a.case=true/\a.names.all gR=true)) ⟨by simp,rfl,rfl⟩ (λd x r ba ar aV ad bo bC=>?_) (λba bo=>?_)
 .have I:=K x (by simp [ar])
  have Ft:(x.names.map cu).length<100:=by rw[List.length_map];exact I.2.1
  unfold fC.row at ad
  have step:((x.uD=true->d.length+1=l.length/\x.case=[]/\x.names=[])/\(x.uD=false->gR x.case=true/\x.names.all gR=true))->∀i a,i<(d++[x]).length->l[i]?=some a->(a.uD=true->i+1=l.length/\a.case=[]/\a.names=[])/\(a.uD=false->gR a.case=true/\a.names.all gR=true):=by
   intro I i a aH aD
   rw[List.length_append] at aH
   rcases Nat.lt_or_ge i d.length with h|h
   .exact bo i a h aD
   .have:i=d.length:=by simp at aH;omega
    subst this
    rw[ar,List.getElem?_append_right (Nat.le_refl _),Nat.sub_self] at aD
    cases aD
    exact I
  have Zm:(l.map fC.row).length=l.length:=bW
  have CT:(x.names.map cu).length=x.names.length:=bW
  have qD:l.length=d.length+(r.length+1):=by rw[ar];simp
  refine dx ?_
  refine jB (λB=>?_) (λB=>?_)
  .refine aG ?_
   refine ry (λF=>?_) (λF=>?_)
   .exact iY
   refine aG ?_
   refine lz (LQ (λah=>?_) (λah=>?_))
   rotate_left
   .exact iY
   refine aG ?_
   refine ry (λaE=>?_) (λaE=>?_)
   .exact iY
   (conv=>whnf)
   repeat' (first|refine .yes B ?_|refine bn ?_|refine aN ?_|refine s2 ?_ ?_<;>intros|fail)<;>(conv=>whnf)
   all_goals exact bC _ _ (step ⟨λ_=>⟨Y,ah,List.length_eq_zero_iff.1 Y⟩,λh=>(by rw[B] at h;cases h)⟩) rfl rfl
  ·(conv=>whnf)
   repeat' (first|refine .no B ?_|refine cT (pg Q x.case I.1) ?_|refine cT (MX Q x.g x.names Y I.2.2) ?_|refine bn ?_|refine aN ?_|refine s2 ?_ ?_<;>intros|fail)<;>(conv=>whnf)
   all_goals try exact⟨rfl,_,rfl,jw⟩
   all_goals exact bC _ _ (step ⟨λh=>(by rw[B] at h;cases h),λ_=>⟨by assumption,by assumption⟩⟩) rfl rfl
 .refine de ?_
  refine⟨rfl,_,rfl,λ_ i a aH=>bo i a ?_ aH⟩
  rcases Nat.lt_or_ge i l.length with h|h
  .exact h
  .rw[List.getElem?_eq_none h] at aH;cases aH
def Mt(e:aj):Prop:=∃N,ut e.kind=some N/\(N.1=lO\/e.kids.length=N.1)/\(N.2.1=lO\/e.types.length=N.2.1)/\e.types.all ai.mw=true/\(N.2.2.1=false->e.aR=[])/\(N.2.2.2.1=false->e.mem=[])/\(N.2.2.2.2.1=false->e.num=0)/\
 (N.2.2.2.2.2.1=false->e.fM.length=0)/\(N.2.2.2.2.2.2=false->e.fV.length=0)/\(N.2.2.2.1=true->gR e.mem=true)/\e.fM.all gR=true/\
 (e.kind=2->e.num=0\/e.num=1)/\(e.kind=3\/e.kind=4->gR e.aR=true)/\(e.kind=8->e.aR∈BS)/\(e.kind=9\/e.kind=10\/e.kind=11->qu e.aR=true)/\(e.kind=11->e.fM.length=e.kids.length)/\
 (e.kind=13->0<e.fM.length/\e.fM.length+1=e.kids.length)/\(e.kind=15->e.fV.length+1=e.kids.length/\QE e.fV)/\(e.kind=20->gR e.aR=true/\1<=e.num/\e.num<=1000)
omit Q in
theorem kinds(k):ut k=none\/k=1\/k=2\/k=3\/k=4\/k=5\/k=6\/k=7\/k=8\/k=9\/k=10\/k=11\/k=12\/k=13\/k=14\/k=15\/k=16\/k=17\/k=18\/k=19\/k=20\/k=23\/k=24:=by
 rcases Nat.lt_or_ge k 25 with h|h
 .have:k=0\/k=1\/k=2\/k=3\/k=4\/k=5\/k=6\/k=7\/k=8\/k=9\/k=10\/k=11\/k=12\/k=13\/k=14\/k=15\/k=16\/k=17\/k=18\/k=19\/k=20\/k=21\/k=22\/k=23\/k=24:=Y
  rcases this with rfl|rfl|rfl|rfl|rfl|rfl|rfl|rfl|rfl|rfl|rfl|rfl|rfl|rfl|rfl|rfl|rfl|rfl|rfl|rfl|rfl|rfl|rfl|rfl|rfl<;>simp [ut]
 .left;unfold ut
  repeat rw[if_neg Y]
theorem ajY(t)(al:t.bL):bj C [] 200 [.J (.agg t.cells)] [] λv A=>A=[]/\∃b,v=.bool b/\(b->Mt t):=by
 refine Q.z 200 cY rfl rfl ?_
 obtain⟨B,F,ah,aE,bt,b1,ep,fm,hI,oc⟩:=al.one
 clear al
 obtain⟨kind,aR,mem,num,g1,types,g2,fM,g3,fV,g4,kids,bK,pos⟩:=t
 simp only[aj.aR,aj.mem,aj.types,aj.fM,aj.fV,aj.kids,aj.num] at B F ah aE bt b1 ep fm hI oc
 have df:(types.map ai.row).length=types.length:=bW
 have cH:(fM.map cu).length=fM.length:=bW
 have dh:(fV.map fC.row).length=fV.length:=bW
 have fj:(kids.map aj.row).length=kids.length:=bW
 rcases kinds kind with az|az
 .refine aG ?_
  refine aK (aeA Q kind) ?_
  rintro v A ⟨rfl,au⟩
  rw[LO,az] at au
  subst au
  (conv=>whnf)
  repeat' (first|refine bn ?_|refine aN ?_|refine s2 ?_ ?_<;>intros|fail)<;>(conv=>whnf)
  all_goals exact⟨rfl,_,rfl,jw⟩
 rcases az with rfl|rfl|rfl|rfl|rfl|rfl|rfl|rfl|rfl|rfl|rfl|rfl|rfl|rfl|rfl|rfl|rfl|rfl|rfl|rfl|rfl|rfl
 all_goals
  simp only[aj.cells,aj.kind,aj.aR,aj.mem,aj.num,aj.g1,aj.types,aj.g2,aj.fM,aj.g3,aj.fV,aj.g4,aj.kids,aj.bK,aj.pos]
  refine aG ?_
  refine aK (aeA Q _) ?_
  rintro v A ⟨rfl,au⟩
  simp [LO,ut,Np,lO] at au
  subst au
  (conv=>whnf)
  repeat' (first|refine .no qj ?_|refine .yes ag ?_|refine .no ag ?_|refine l8.nice Y ?_|refine l8.mW ?_|refine cT (UC Q g1 types ah λx I=>(aE x I).1) ?_|refine cT (pg Q mem F) ?_|refine cT (MX Q g2 fM Y b1) ?_|refine cT (pg Q aR B) ?_|refine cT (Gj Q aR B) ?_|refine cT (ahs Q aR) ?_|(refine aK (aqe Q g3 fV ep fm) ?_;rintro v A ⟨rfl,b,rfl,av⟩)|refine bn ?_|refine aN ?_|refine s2 ?_ ?_<;>intros|fail)<;>(conv=>whnf)
  all_goals try exact⟨rfl,_,rfl,jw⟩
  all_goals(refine⟨rfl,_,rfl,λav=>?_⟩;refine⟨_,rfl,?_,?_,?_,?_,?_,?_,?_,?_,?_,?_,?_,?_,?_,?_,?_,?_,?_,?_⟩)
  all_goals simp only[aj.kind,aj.aR,aj.mem,aj.num,aj.types,aj.fM,aj.fV,aj.kids]
  all_goals first|assumption|omega|(intro _;left;assumption)|(intro _;right;exact cF.1 av)|(intro _;exact of_decide_eq_true av)|(intro _;have:=cF.1 av;omega)|(intro _;refine⟨Y,?_⟩;solve_by_elim)|(intro _;exact afZ (by assumption) oc.2 (by assumption) av)|(intro ax;first|assumption|omega|cases ax)|(intro ax;rcases ax with ax|ax<;>cases ax)|(intro ax;rcases ax with ax|ax|ax<;>cases ax)|(intros;simp_all;done)
mutual
def aj.sc:aj->Prop
 |.mk bN a2 a3 a4 a5 dR en nX a9 qf o4 l uF yA=>Mt (.mk bN a2 a3 a4 a5 dR en nX a9 qf o4 l uF yA)/\aj.IP l
def aj.IP:List aj->Prop
 |[]=>True
 |a::l=>a.sc/\aj.IP l
end
omit Q in
theorem aj.PN:∀{l},aj.IP l↔∀x∈l,x.sc
 |[]=>by simp [aj.IP]
 |a::l=>by simp [aj.IP,aj.PN]
omit Q in
theorem aj.af3(t):t.sc↔Mt t/\∀x∈t.kids,x.sc:=by
 cases t;rw[aj.sc,aj.PN];rfl
end
section
variable{C:Nat->cG}{ext:Nat->Option e0}{ab:fD}(Q:Env C ext ab)
include Q
def XT(x:ec):Prop:=x.params.length<=4/\x.fields.length<=12/\∀f∈x.fields,f.bK.ir=true
def XE(x:eP):Prop:=x.f8.length<=12/\x.f8.all ai.ir=true
def aeB(x:eg):Prop:=x.params.length<=4/\x.cases.length<=12/\∀c∈x.cases,XE c
def adC(m:fW):Prop:=m.args.length<=6/\m.args.all ai.ir=true/\m.fk.ir=true
def ZP(x:eX):Prop:=x.fT.length<=12/\∀m∈x.fT,adC m
def ZL(x:fc):Prop:=yN x.fg=true/\x.bK.ir=true/\x.binds.length<=12
def YE(a:cD):Prop:=a.bK.ir=true/\HL a.gM
def Y2(x:dI):Prop:=yN x.fg=true/\x.args.length<=6/\x.fk.ir=true/\HL x.body/\∀a∈x.args,YE a
def Yc(x:cV):Prop:=x.lf.length<=8/\x.ea.length<=60/\x.dW.length<=60/\x.e7.length<=60/\x.ed.length<=60/\x.funcs.length<=60
def Sx(x:cV):Prop:=Yc x/\(∀s∈x.ea,XT s)/\(∀s∈x.dW,aeB s)/\(∀s∈x.e7,ZP s)/\(∀s∈x.ed,ZL s)/\∀s∈x.funcs,Y2 s
def amZ(x)(I:x.ok):bj C [] 76 [.J (.agg x.cells)] [] λv A=>A=[]/\∃b,v=.bool b/\(b->Sx x):=by
 refine Q.z 76 (h9 [(0,[3,4,16,17,18,19,20,21,22],[1]),(2,[4,21,22],[1]),(4,[5,6,26,27,28,29,30,31,32],[1]),(6,[6,31,32],[1]),(8,[7,8,36,37,38,39,40,41,42],[1]),(10,[8,41,42],[1]),(12,[9,46,47],[1]),(14,[10,11,51,52,53,54,55,56,57],[1]),(16,[11,56,57],[1])]) rfl rfl ?_;obtain⟨_,_,_,kj,_,df,dr,cH,c3,dh,dY,fj,e9,fP,f9⟩:=I;have m0:(x.lf.map kx.row).length=x.lf.length:=bW;have m1:(x.ea.map ec.row).length=x.ea.length:=bW;have m2:(x.dW.map eg.row).length=x.dW.length:=bW;have m3:(x.e7.map eX.row).length=x.e7.length:=bW;have m4:(x.ed.map fc.row).length=x.ed.length:=bW;have m5:(x.funcs.map dI.row).length=x.funcs.length:=bW
 (conv=>whnf)
 repeat' (first|refine bn ?_|refine aN ?_|refine s2 ?_ ?_<;>intros|fail)<;>(conv=>whnf)
 all_goals try exact⟨rfl,_,rfl,jw⟩
 have QJ:Yc x:=⟨Y,Y,Y,Y,Y,Y⟩;refine gE ec.row x.ea 15 (λd=>[]) (λd=>∀s∈d,XT s) ⟨by simp,rfl,rfl⟩ (λd y r ba ar aV ad bo bC=>?_) (λba bo=>?_)
 .obtain⟨B,F,ah,aE,bt,b1⟩:=dr y (by simp [ar]);have dl:(y.params.map cu).length=y.params.length:=bW;have cB:(y.fields.map eF.row).length=y.fields.length:=bW;unfold ec.row at ad;refine dx ?_
  (conv=>whnf)
  repeat' (first|refine bn ?_|refine aN ?_|refine s2 ?_ ?_<;>intros|fail)<;>(conv=>whnf)
  all_goals try exact⟨rfl,_,rfl,jw⟩
  refine gE eF.row y.fields 20 (λd=>[]) (λd=>∀f∈d,f.bK.ir=true) ⟨by simp,rfl,rfl⟩ (λd2 z cl fJ eu aV ad dp eG=>?_) (λfJ dp=>?_)
  .have g:=(b1 z (by simp [eu])).2;unfold eF.row at ad;refine dx ?_;refine cj (F9 Q z.bK g.1) ?_;refine lz (jB (λeK=>?_) (λ_=>?_));rotate_left
   .exact iY
   refine aG ?_;exact eG _ _ (ku dp eK) rfl rfl
  .refine de ?_;exact bC _ _ (ku bo ⟨Y,Y,dp⟩) rfl rfl
 refine de ?_;refine gE eg.row x.dW 25 (λd=>[]) (λd=>∀s∈d,aeB s) ⟨by simp,rfl,rfl⟩ (λd y r ba ar aV ad gr bC=>?_) (λba gr=>?_)
 .obtain⟨B,F,ah,aE,bt,b1⟩:=c3 y (by simp [ar]);have dl:(y.params.map cu).length=y.params.length:=bW;have cB:(y.cases.map eP.row).length=y.cases.length:=bW;unfold eg.row at ad;refine dx ?_
  (conv=>whnf)
  repeat' (first|refine bn ?_|refine aN ?_|refine s2 ?_ ?_<;>intros|fail)<;>(conv=>whnf)
  all_goals try exact⟨rfl,_,rfl,jw⟩
  refine gE eP.row y.cases 30 (λd=>[]) (λd=>∀c∈d,XE c) ⟨by simp,rfl,rfl⟩ (λd2 z cl fJ eu aV ad dp eG=>?_) (λfJ dp=>?_)
  .obtain⟨_,g1,g2⟩:=b1 z (by simp [eu]);have dV:(z.f8.map ai.row).length=z.f8.length:=bW;unfold eP.row at ad;refine dx ?_
   (conv=>whnf)
   repeat' (first|refine cT (U0 Q z.g z.f8 g1 λt al=>(g2 t al).1) ?_|refine bn ?_|refine aN ?_|refine s2 ?_ ?_<;>intros|fail)<;>(conv=>whnf)
   all_goals try exact⟨rfl,_,rfl,jw⟩
   exact eG _ _ (ku dp ⟨Y,by assumption⟩) rfl rfl
  .refine de ?_;exact bC _ _ (ku gr ⟨Y,Y,dp⟩) rfl rfl
 refine de ?_;refine gE eX.row x.e7 35 (λd=>[]) (λd=>∀s∈d,ZP s) ⟨by simp,rfl,rfl⟩ (λd y r ba ar aV ad cn bC=>?_) (λba cn=>?_)
 .obtain⟨B,F,bt,b1⟩:=dY y (by simp [ar]);have cB:(y.fT.map fW.row).length=y.fT.length:=bW;unfold eX.row at ad;refine dx ?_
  (conv=>whnf)
  repeat' (first|refine bn ?_|refine aN ?_|refine s2 ?_ ?_<;>intros|fail)<;>(conv=>whnf)
  all_goals try exact⟨rfl,_,rfl,jw⟩
  refine gE fW.row y.fT 40 (λd=>[]) (λd=>∀m∈d,adC m) ⟨by simp,rfl,rfl⟩ (λd2 z cl fJ eu aV ad dp eG=>?_) (λfJ dp=>?_)
  .obtain⟨_,g1,g2,g3,_⟩:=b1 z (by simp [eu]);have dV:(z.args.map ai.row).length=z.args.length:=bW;unfold fW.row at ad;refine dx ?_
   (conv=>whnf)
   repeat' (first|refine cT (U0 Q z.g z.args g1 λt al=>(g2 t al).1) ?_|refine cT (F9 Q z.fk g3.1) ?_|refine bn ?_|refine aN ?_|refine s2 ?_ ?_<;>intros|fail)<;>(conv=>whnf)
   all_goals try exact⟨rfl,_,rfl,jw⟩
   exact eG _ _ (ku dp ⟨Y,by assumption,by assumption⟩) rfl rfl
  .refine de ?_;exact bC _ _ (ku cn ⟨Y,dp⟩) rfl rfl
 refine de ?_;refine gE fc.row x.ed 45 (λd=>[]) (λd=>∀s∈d,ZL s) ⟨by simp,rfl,rfl⟩ (λd y r ba ar aV ad gn bC=>?_) (λba gn=>?_)
 .obtain⟨_,g1,g2,g,g3,_⟩:=e9 y (by simp [ar]);have cB:(y.binds.map i3.row).length=y.binds.length:=bW;unfold fc.row at ad;refine dx ?_
  (conv=>whnf)
  repeat' (first|refine cT (Za Q y.g1 y.fg g1 λt al=>(g2 t al).2.1) ?_|refine cT (F9 Q y.bK g.1) ?_|refine bn ?_|refine aN ?_|refine s2 ?_ ?_<;>intros|fail)<;>(conv=>whnf)
  all_goals try exact⟨rfl,_,rfl,jw⟩
  exact bC _ _ (ku gn ⟨by assumption,by assumption,Y⟩) rfl rfl
 refine de ?_;refine gE dI.row x.funcs 50 (λd=>[]) (λd=>∀s∈d,Y2 s) ⟨by simp,rfl,rfl⟩ (λd y r ba ar aV ad jG bC=>?_) (λba jG=>?_)
 .obtain⟨_,_,ah,aE,bt,b1,ep,fm⟩:=f9 y (by simp [ar]);have cB:(y.args.map cD.row).length=y.args.length:=bW;unfold dI.row at ad;simp only[jF,kv] at ad;refine dx ?_
  (conv=>whnf)
  repeat' (first|refine cT (Za Q y.g1 y.fg ah λt al=>(aE t al).2.1) ?_|refine cT (F9 Q y.fk ep.1) ?_|(refine aK (adV Q y.body fm) ?_;rintro v A ⟨rfl,b,rfl,av⟩)|refine bn ?_|refine aN ?_|refine s2 ?_ ?_<;>intros|fail)<;>(conv=>whnf)
  all_goals try exact⟨rfl,_,rfl,jw⟩
  have nr:HL y.body:=av (by assumption);refine gE cD.row y.args 55 (λd=>[]) (λd=>∀a∈d,YE a) ⟨by simp,rfl,rfl⟩ (λd2 z cl fJ eu aV ad dp eG=>?_) (λfJ dp=>?_)
  .obtain⟨_,g1,g2⟩:=b1 z (by simp [eu]);unfold cD.row at ad;simp only[jF,kv] at ad;refine dx ?_
   (conv=>whnf)
   repeat' (first|refine cT (F9 Q z.bK g1.1) ?_|(refine aK (adV Q z.gM g2) ?_;rintro v A ⟨rfl,b,rfl,aw⟩)|refine bn ?_|refine aN ?_|refine s2 ?_ ?_<;>intros|fail)<;>(conv=>whnf)
   all_goals try exact⟨rfl,_,rfl,jw⟩
   exact eG _ _ (ku dp ⟨by assumption,aw (by assumption)⟩) rfl rfl
  .refine de ?_;exact bC _ _ (ku jG ⟨by assumption,Y,by assumption,nr,dp⟩) rfl rfl
 refine de ?_;exact⟨rfl,_,rfl,λ_=>⟨QJ,bo,gr,cn,gn,jG⟩⟩
def ak0(x)(I:x.ok):bj C [] 26 [.J (.agg x.cells)] [] λv A=>A=[]/\∃n,v=.int 3 n/\(n=0->Pr x/\Sx x):=by
 refine Q.z 26 cY rfl rfl ?_;refine aG ?_;refine aK (ai7 Q x I) ?_;rintro v A ⟨rfl,b,rfl,av⟩;refine aG ?_;refine jB (λh=>?_) (λh=>?_)
 .refine aG ?_;exact⟨rfl,_,rfl,λh=>by cases h⟩
 refine aG ?_;refine aK (amZ Q x I) ?_;rintro v A ⟨rfl,c7,rfl,nr⟩;refine aG ?_;refine lz (jB (λF=>?_) (λF=>?_))
 .refine aG ?_;exact⟨rfl,_,rfl,λ_=>⟨av h,nr F⟩⟩
 refine aG ?_;exact⟨rfl,_,rfl,λh=>by cases h⟩
def al6(t:aj)(al:t.bL)(aw:∀x∈t.kids,bj C [] 79 [.J (.agg x.cells)] [] λv A=>A=[]/\∃b,v=.bool b/\(b->x.sc)):bj C [] 79 [.J (.agg t.cells)] [] λv A=>A=[]/\∃b,v=.bool b/\(b->t.sc):=by
 refine Q.z 79 (h9 [(0,[3,8,9],[1])]) rfl rfl ?_;have fy:=al.len;refine aG ?_;refine aK (ajY Q t al) ?_;rintro v A ⟨rfl,b,rfl,av⟩;refine aG ?_;refine lz (jB (λF=>?_) (λF=>?_));rotate_left
 .exact iY
 refine aG ?_;refine gE aj.row t.kids 7 (λd=>[]) (λd=>∀x∈d,x.sc) ⟨by simp,rfl,rfl⟩ (λd x r ba ar aV ad bo bC=>?_) (λba bo=>?_)
 .rw[aj.dF] at ad;refine dx ?_;refine aK (aw x (by simp [ar])) ?_;rintro v A ⟨rfl,b,rfl,I⟩;refine aG ?_;refine lz (jB (λah=>?_) (λ_=>?_));rotate_left
  .exact iY
  refine aG ?_;exact bC _ _ (ku bo (I ah)) rfl rfl
 .refine de ?_;exact⟨rfl,_,rfl,λ_=>(aj.af3 t).2 ⟨av F,bo⟩⟩
def Z3:∀(t:aj),t.bL->bj C [] 79 [.J (.agg t.cells)] [] λv A=>A=[]/\∃b,v=.bool b/\(b->t.sc):=
 aj.ind λt bB h=>al6 Q t h λx I=>bB x I (h.p6 I)
end
section
variable{C:Nat->cG}{ext:Nat->Option e0}{ab:fD}(Q:Env C ext ab)
include Q
def ad3(a:cD):Prop:=gR a.aR=true/\a.bK.mw=true/\(a.gM.zero=true\/(a.has=true/\a.gM.sc))
def Ry(x:dI):Prop:=x.since<=1000/\gR x.aR=true/\UZ x.fg/\x.fk.mw=true/\(x.has=true->x.body.sc)/\(x.has=false->x.body.zero=true)/\∀a∈x.args,ad3 a
def amD(x:cV)(I:x.ok):bj C [] 33 [.J (.agg x.cells)] [] λv A=>A=[]/\∃b,v=.bool b/\(b->∀f∈x.funcs,Ry f):=by
 refine Q.z 33 (h9 [(0,[3,4,8,9,10,11,12,13,14],[1]),(2,[4,13,14],[1])]) rfl rfl ?_;obtain⟨_,_,_,kj,_,df,dr,cH,c3,dh,dY,fj,e9,fP,f9⟩:=I;have m5:(x.funcs.map dI.row).length=x.funcs.length:=bW
 (conv=>whnf)
 repeat(refine bn ?_;conv=>whnf)
 refine gE dI.row x.funcs 7 (λd=>[]) (λd=>∀s∈d,Ry s) ⟨by simp,rfl,rfl⟩ (λd y r ba ar aV ad jG bC=>?_) (λba jG=>?_)
 .obtain⟨B,F,ah,aE,bt,b1,ep,fm⟩:=f9 y (by simp [ar]);have cB:(y.args.map cD.row).length=y.args.length:=bW;unfold dI.row at ad;simp only[jF,kv] at ad;cases bf:y.has<;>rw[bf] at ad
  all_goals
   refine dx ?_
   refine cj (Nv Q y.since B) ?_
   refine lz (jB (λeK=>?_) (λ_=>?_))
   rotate_left
   .exact iY
   refine aG ?_
   refine cj (pg Q y.aR F) ?_
   refine lz (jB (λs2=>?_) (λ_=>?_))
   rotate_left
   .exact iY
   refine aG ?_
   refine aK (XW Q y.g1 y.fg ah aE) ?_
   rintro v A ⟨rfl,b,rfl,av⟩
   refine aG ?_
   refine lz (jB (λmR=>?_) (λ_=>?_))
   rotate_left
   .exact iY
   refine aG ?_
   refine cj (Fg Q y.fk ep.1) ?_
   refine lz (jB (λoO=>?_) (λ_=>?_))
   rotate_left
   ·(conv=>whnf)
    repeat' ((first|refine bn ?_|((with_reducible first|apply eT|apply iN|apply fK|apply cC|apply f4|apply kC|apply kB|apply eD)<;>intros))<;>(conv=>whnf))
    all_goals first|exact⟨rfl,_,rfl,jw⟩|exact⟨rfl,_,rfl,q1⟩
   (conv=>whnf)
   repeat' ((first|(refine aK (Z3 Q y.body fm) ?_;rintro v A ⟨rfl,c7,rfl,nr⟩)|(refine aK (Yb Q y.body) ?_;rintro v A ⟨rfl,rfl⟩)|refine bn ?_|((with_reducible first|apply eT|apply iN|apply fK|apply cC|apply f4|apply kC|apply kB|apply eD)<;>intros))<;>(conv=>whnf))
   all_goals try exact⟨rfl,_,rfl,jw⟩
   refine gE cD.row y.args 12 (λd=>[]) (λd=>∀a∈d,ad3 a) ⟨by simp,rfl,rfl⟩ (λd2 z cl fJ eu aV ad dp eG=>?_) (λfJ dp=>?_)
   .obtain⟨g1,g2,g3⟩:=b1 z (by simp [eu]);unfold cD.row at ad;simp only[jF,kv] at ad;refine dx ?_
    (conv=>whnf)
    repeat' ((first|(refine aK (pg Q z.aR g1) ?_;rintro v A ⟨rfl,rfl⟩)|(refine aK (Fg Q z.bK g2.1) ?_;rintro v A ⟨rfl,rfl⟩)|(refine aK (Z3 Q z.gM g3) ?_;rintro v A ⟨rfl,fu,rfl,y3⟩)|(refine aK (Yb Q z.gM) ?_;rintro v A ⟨rfl,rfl⟩)|refine bn ?_|((with_reducible first|apply eT|apply iN|apply fK|apply cC|apply f4|apply kC|apply kB|apply eD)<;>intros))<;>(conv=>whnf))
    all_goals try exact⟨rfl,_,rfl,jw⟩
    all_goals exact eG _ _ (ku dp ⟨by assumption,by assumption,by first|(left;assumption)|exact .inr ⟨by assumption,y3 (by assumption)⟩⟩) rfl rfl
   .refine de ?_;exact bC _ _ (ku jG ⟨pC eK,s2,av mR,oO,λh=>(by first|exact jw (bf.symm.trans h)|exact nr (by assumption)),λh=>(by first|exact q1 (bf.symm.trans h)|assumption),dp⟩) rfl rfl
 refine de ?_;exact⟨rfl,_,rfl,λ_=>jG⟩
def aa4(x:kx):Prop:=gR x.aR=true/\1<=x.rel/\x.rel<=1000
def adR(x:ec):Prop:=x.since<=1000/\gR x.aR=true/\x.params.all gR=true/\∀f∈x.fields,gR f.aR=true/\f.bK.mw=true
def abk(x:eg):Prop:=x.since<=1000/\gR x.aR=true/\x.params.all gR=true/\∀f∈x.cases,gR f.aR=true/\f.f8.all ai.mw=true
def Dy(x:cV):Prop:=(1<=x.kind/\x.kind<=3)/\gR x.aR=true/\(x.kind=2->x.rel=0)/\(x.kind≠2->1<=x.rel/\x.rel<=1000)/\Pr x/\Sx x/\(∀y∈x.lf,aa4 y)/\(∀y∈x.ea,adR y)/\(∀y∈x.dW,abk y)/\
 (∀t∈x.e7,PF t)/\(∀t∈x.ed,S6 t)/\∀f∈x.funcs,Ry f
def agz(x)(I:x.ok):bj C [] 10 [.J (.agg x.cells)] [] λv A=>A=[]/\∃b,v=.bool b/\(b->Dy x):=by
 refine Q.z 10 (h9 [(0,[3,12,13],[1]),(2,[4,5,17,18,19,20,21,22,23],[1]),(4,[5,22,23],[1]),(6,[6,7,27,28,29,30,31,32,33],[1]),(8,[7,32,33],[1])]) rfl rfl ?_;obtain⟨az,pn,l0,kj,gX,df,dr,cH,c3,dh,dY,fj,e9,fP,f9⟩:=id I;have m0:(x.lf.map kx.row).length=x.lf.length:=bW;have m1:(x.ea.map ec.row).length=x.ea.length:=bW;have m2:(x.dW.map eg.row).length=x.dW.length:=bW;have m3:(x.e7.map eX.row).length=x.e7.length:=bW;have m4:(x.ed.map fc.row).length=x.ed.length:=bW;have m5:(x.funcs.map dI.row).length=x.funcs.length:=bW
 (conv=>whnf)
 repeat' (first|refine cT (pg Q x.aR l0) ?_|refine cT (adf Q x.rel pn) ?_|(refine aK (ak0 Q x I) ?_;rintro v A ⟨rfl,n,rfl,aB⟩)|refine bn ?_|refine aN ?_|refine s2 ?_ ?_<;>intros|fail)<;>(conv=>whnf)
 all_goals try exact⟨rfl,_,rfl,jw⟩
 all_goals
  have au:(1<=x.kind/\x.kind<=3)/\gR x.aR=true/\(x.kind=2->x.rel=0)/\(x.kind≠2->1<=x.rel/\x.rel<=1000):=by refine⟨Y,by assumption,λh=>Y,λh=>?_⟩;first|omega|exact pC (by assumption)
  have AW:=aB (by assumption)
  refine gE kx.row x.lf 11 (λd=>[]) (λd=>∀y∈d,aa4 y) ⟨by simp,rfl,rfl⟩ (λd y r ba ar aV ad jG bC=>?_) (λba jG=>?_)
  .obtain⟨g1,g2⟩:=gX y (by simp [ar]);unfold kx.row at ad;refine dx ?_
   (conv=>whnf)
   repeat' (first|refine cT (pg Q y.aR g1) ?_|refine cT (adf Q y.rel g2) ?_|refine bn ?_|refine aN ?_|refine s2 ?_ ?_<;>intros|fail)<;>(conv=>whnf)
   all_goals try exact⟨rfl,_,rfl,jw⟩
   have:1<=y.rel/\y.rel<=1000:=pC (by assumption);exact bC _ _ (ku jG ⟨by assumption,this⟩) rfl rfl
  refine de ?_
  refine gE ec.row x.ea 16 (λd=>[]) (λd=>∀y∈d,adR y) ⟨by simp,rfl,rfl⟩ (λd y r ba ar aV ad gr bC=>?_) (λba gr=>?_)
  .obtain⟨g1,g2,g3,g4,g5,g6⟩:=dr y (by simp [ar]);have cB:(y.fields.map eF.row).length=y.fields.length:=bW;have dl:(y.params.map cu).length=y.params.length:=bW;unfold ec.row at ad;refine dx ?_;refine cj (Nv Q y.since g1) ?_;refine lz (jB (λeK=>?_) (λ_=>?_));rotate_left
   .exact iY
   (conv=>whnf)
   repeat' (first|refine cT (pg Q y.aR g2) ?_|refine cT (MX Q y.g1 y.params Y g4) ?_|refine bn ?_|refine aN ?_|refine s2 ?_ ?_<;>intros|fail)<;>(conv=>whnf)
   all_goals try exact⟨rfl,_,rfl,jw⟩
   refine gE eF.row y.fields 21 (λd=>[]) (λd=>∀f∈d,gR f.aR=true/\f.bK.mw=true) ⟨by simp,rfl,rfl⟩ (λd2 z cl fJ eu aV ad dp eG=>?_) (λfJ dp=>?_)
   .obtain⟨bq,aS⟩:=g6 z (by simp [eu]);unfold eF.row at ad;refine dx ?_
    (conv=>whnf)
    repeat' (first|refine cT (pg Q z.aR bq) ?_|refine cT (Fg Q z.bK aS.1) ?_|refine bn ?_|refine aN ?_|refine s2 ?_ ?_<;>intros|fail)<;>(conv=>whnf)
    all_goals try exact⟨rfl,_,rfl,jw⟩
    exact eG _ _ (ku dp ⟨by assumption,by assumption⟩) rfl rfl
   .refine de ?_;exact bC _ _ (ku gr ⟨pC eK,by assumption,by assumption,dp⟩) rfl rfl
  refine de ?_
  refine gE eg.row x.dW 26 (λd=>[]) (λd=>∀y∈d,abk y) ⟨by simp,rfl,rfl⟩ (λd y r ba ar aV ad cn bC=>?_) (λba cn=>?_)
  .obtain⟨g1,g2,g3,g4,g5,g6⟩:=c3 y (by simp [ar]);have cB:(y.cases.map eP.row).length=y.cases.length:=bW;have dl:(y.params.map cu).length=y.params.length:=bW;unfold eg.row at ad;refine dx ?_;refine cj (Nv Q y.since g1) ?_;refine lz (jB (λeK=>?_) (λ_=>?_));rotate_left
   .exact iY
   (conv=>whnf)
   repeat' (first|refine cT (pg Q y.aR g2) ?_|refine cT (MX Q y.g1 y.params Y g4) ?_|refine bn ?_|refine aN ?_|refine s2 ?_ ?_<;>intros|fail)<;>(conv=>whnf)
   all_goals try exact⟨rfl,_,rfl,jw⟩
   refine gE eP.row y.cases 31 (λd=>[]) (λd=>∀f∈d,gR f.aR=true/\f.f8.all ai.mw=true) ⟨by simp,rfl,rfl⟩ (λd2 z cl fJ eu aV ad dp eG=>?_) (λfJ dp=>?_)
   .obtain⟨bq,aS,bU⟩:=g6 z (by simp [eu]);unfold eP.row at ad;refine dx ?_
    (conv=>whnf)
    repeat' (first|refine cT (pg Q z.aR bq) ?_|refine cT (UC Q z.g z.f8 aS λt al=>(bU t al).1) ?_|refine bn ?_|refine aN ?_|refine s2 ?_ ?_<;>intros|fail)<;>(conv=>whnf)
    all_goals try exact⟨rfl,_,rfl,jw⟩
    exact eG _ _ (ku dp ⟨by assumption,by assumption⟩) rfl rfl
   .refine de ?_;exact bC _ _ (ku cn ⟨pC eK,by assumption,by assumption,dp⟩) rfl rfl
  refine de ?_
  (conv=>whnf)
  repeat' (first|(refine aK (am8 Q x I) ?_;rintro v A ⟨rfl,b,rfl,av⟩)|(refine aK (ag2 Q x I) ?_;rintro v A ⟨rfl,c7,rfl,nr⟩)|(refine aK (amD Q x I) ?_;rintro v A ⟨rfl,fu,rfl,y3⟩)|refine bn ?_|refine aN ?_|refine s2 ?_ ?_<;>intros|fail)<;>(conv=>whnf)
  all_goals try exact⟨rfl,_,rfl,jw⟩
  exact⟨rfl,_,rfl,λah=>⟨au.1,au.2.1,au.2.2.1,au.2.2.2,AW.1,AW.2,jG,gr,cn,av (by assumption),nr (by assumption),y3 ah⟩⟩
end
section
variable{C:Nat->cG}{ext:Nat->Option e0}{ab:fD}(Q:Env C ext ab)
include Q
def Ku(C:Nat->cG){α:Type}(aF:α->List b2)(q:Nat)(bJ:List b2)(l:List α)(N:α->Bool):Prop:=bJ.length<=2/\∀x∈l,bj C [] q (.J (.agg (aF x))::bJ.map .J) [] λv A=>A=[]/\v=.bool (N x)
omit Q in
def HI{α:Type}(N):∀l:List α,(!l.any λx=> !N x)=l.all N
 |[]=>rfl
 |a::l=>by rw[List.any_cons,An,<-HI N l];cases N a<;>simp
def ru(C:Nat->cG)(n:Nat){α:Type}(i6:α->List b2):Prop:=∀aF,aF=i6->∀g q bJ (l:List α) N,l.length<10000000->Ku C aF q bJ l N->bj C [] n [.J (.aQ g (l.map aF)),.J (.fn q [] bJ)] [] λv A=>A=[]/\∃n,v=.int 3 n/\(if l.any N then n<10000000 else n=18446744073709551615)
def rR(C:Nat->cG)(n:Nat){α:Type}(i6:α->List b2):Prop:=∀aF,aF=i6->∀g q bJ (l:List α) N,l.length<10000000->Ku C aF q bJ l N->bj C [] n [.J (.aQ g (l.map aF)),.J (.fn q [] bJ)] [] λv A=>A=[]/\v=.bool (l.any N)
def rA(C:Nat->cG)(n:Nat){α:Type}(i6:α->List b2):Prop:=∀aF,aF=i6->∀e q bJ (x:α) b,bJ.length<=2->bj C [] q (.J (.agg (aF x))::bJ.map .J) [] (λv A=>A=[]/\v=.bool b)->bj C [] n [.J (.agg (aF x)),.J (.gc e [.fn q [] bJ] 0)] [] λv A=>A=[]/\v=.bool !b
def ly(C:Nat->cG)(n:Nat){α:Type}(i6:α->List b2):Prop:=∀aF,aF=i6->∀g q bJ (l:List α) N,l.length<10000000->Ku C aF q bJ l N->bj C [] n [.J (.aQ g (l.map aF)),.J (.fn q [] bJ)] [] λv A=>A=[]/\v=.bool (l.all N)
def akX:ru C 260 ai.row/\ru C 230 aj.row/\ru C 291 kx.row/\ru C 292 ec.row/\ru C 293 eF.row/\ru C 294 eg.row/\ru C 295 eP.row/\ru C 296 eX.row/\ru C 297 fW.row/\ru C 298 fc.row/\ru C 299 cX.row/\ru C 300 i3.row/\ru C 301 dI.row/\ru C 302 cD.row/\ru C 306 fC.row:=by
 refine⟨?_,?_,?_,?_,?_,?_,?_,?_,?_,?_,?_,?_,?_,?_,?_⟩<;>intro w bx g q bJ l N K ⟨ap,h⟩
 all_goals
  refine Q.z _ (h9 [(0,[3,6,7],[])]) rfl rfl ?_
  rcases bJ with _|⟨a,_|⟨b,_|⟨c,bJ⟩⟩⟩
  rotate_left 3
  .simp at ap
  all_goals
   have hm:(l.map w).length=l.length:=bW
   refine aG ?_
   refine gE w l 5 (λ_=>[]) (λd=>d.any N=false) ⟨rfl,rfl,rfl⟩ (λd x r ba ar aV ad bo bC=>?_) (λba bo=>?_)
   .have aw:=h x (by simp [ar]);subst bx;simp only[ai.dF,aj.dF,kx.row,ec.row,eF.row,eg.row,eP.row,eX.row,fW.row,fc.row,cX.row,i3.row,dI.row,cD.row,fC.row,jF,kv,fA,je] at ad aw;refine dx ?_;refine cj (aw) ?_;refine eD (λB=>?_) (λB=>?_)
    .refine aG ?_;exact⟨rfl,_,rfl,by rw[Ts ar B];simp;omega⟩
    .refine aG ?_;exact bC _ _ (QU bo B) rfl rfl
   .refine de ?_;exact⟨rfl,_,rfl,by rw[bo];rfl⟩
def TC:rR C 172 ai.row/\rR C 128 aj.row/\rR C 236 kx.row/\rR C 238 ec.row/\rR C 240 eF.row/\rR C 242 eg.row/\rR C 244 eP.row/\rR C 246 eX.row/\rR C 248 fW.row/\rR C 250 fc.row/\rR C 252 cX.row/\rR C 254 i3.row/\rR C 256 dI.row/\rR C 258 cD.row/\rR C 274 fC.row:=by
 have iR:=akX Q;refine⟨?_,?_,?_,?_,?_,?_,?_,?_,?_,?_,?_,?_,?_,?_,?_⟩<;>intro w bx g q bJ l N K aw
 all_goals
  refine Q.z _ cY rfl rfl ?_
  have aox:=aw
  obtain⟨ap,_⟩:=aox
  refine aG ?_
  refine aK (by first|exact iR.1 w bx g q bJ l N K aw|exact iR.2.1 w bx g q bJ l N K aw|exact iR.2.2.1 w bx g q bJ l N K aw|exact iR.2.2.2.1 w bx g q bJ l N K aw|exact iR.2.2.2.2.1 w bx g q bJ l N K aw|exact iR.2.2.2.2.2.1 w bx g q bJ l N K aw|exact iR.2.2.2.2.2.2.1 w bx g q bJ l N K aw|exact iR.2.2.2.2.2.2.2.1 w bx g q bJ l N K aw|exact iR.2.2.2.2.2.2.2.2.1 w bx g q bJ l N K aw|exact iR.2.2.2.2.2.2.2.2.2.1 w bx g q bJ l N K aw|exact iR.2.2.2.2.2.2.2.2.2.2.1 w bx g q bJ l N K aw|exact iR.2.2.2.2.2.2.2.2.2.2.2.1 w bx g q bJ l N K aw|exact iR.2.2.2.2.2.2.2.2.2.2.2.2.1 w bx g q bJ l N K aw|exact iR.2.2.2.2.2.2.2.2.2.2.2.2.2.1 w bx g q bJ l N K aw|exact iR.2.2.2.2.2.2.2.2.2.2.2.2.2.2 w bx g q bJ l N K aw) ?_
  rintro v A ⟨rfl,n,rfl,aB⟩
  cases aD:l.any N with
  |true=>rw[aD] at aB;have aB:n<10000000:=aB;refine aG ?_;exact⟨rfl,rfl⟩
  |false=>
   rw[aD] at aB;have aB:n=18446744073709551615:=aB;subst aB
   (conv=>whnf)
   refine l8.mW ?_
   (conv=>whnf)
   repeat(first|refine .no qj ?_|refine bn ?_);(conv=>whnf)
   exact⟨rfl,by rw[qj]⟩
def akC:rA C 173 ai.row/\rA C 175 aj.row/\rA C 237 kx.row/\rA C 239 ec.row/\rA C 241 eF.row/\rA C 243 eg.row/\rA C 245 eP.row/\rA C 247 eX.row/\rA C 249 fW.row/\rA C 251 fc.row/\rA C 253 cX.row/\rA C 255 i3.row/\rA C 257 dI.row/\rA C 259 cD.row/\rA C 275 fC.row:=by
 refine⟨?_,?_,?_,?_,?_,?_,?_,?_,?_,?_,?_,?_,?_,?_,?_⟩<;>intro w bx e q bJ x b ap h
 all_goals
  refine Q.z _ cY rfl rfl ?_
  rcases bJ with _|⟨a,_|⟨b,_|⟨c,bJ⟩⟩⟩
  rotate_left 3
  .simp at ap
  all_goals
   subst bx
   simp only[ai.dF,aj.dF,kx.row,ec.row,eF.row,eg.row,eP.row,eX.row,fW.row,fc.row,cX.row,i3.row,dI.row,cD.row,fC.row,jF,kv,fA,je] at h ⊢
   refine aG ?_
   refine cj (h) ?_
   exact⟨rfl,rfl⟩
def nf:ly C 54 ai.row/\ly C 57 aj.row/\ly C 138 kx.row/\ly C 140 ec.row/\ly C 143 eF.row/\ly C 145 eg.row/\ly C 147 eP.row/\ly C 149 eX.row/\ly C 151 fW.row/\ly C 153 fc.row/\ly C 155 cX.row/\ly C 156 i3.row/\ly C 158 dI.row/\ly C 160 cD.row/\ly C 208 fC.row:=by
 have iR:=TC Q;have jG:=akC Q;refine⟨?_,?_,?_,?_,?_,?_,?_,?_,?_,?_,?_,?_,?_,?_,?_⟩<;>intro w bx g q bJ l N K aw
 all_goals
  refine Q.z _ cY rfl rfl ?_
  obtain⟨ap,aw⟩:=aw
  refine aG ?_
  refine cj (by first|exact iR.1 w bx _ _ _ l (λx=> !N x) K ⟨by simp,λx I=>jG.1 w bx _ q bJ x _ ap (aw x I)⟩|exact iR.2.1 w bx _ _ _ l (λx=> !N x) K ⟨by simp,λx I=>jG.2.1 w bx _ q bJ x _ ap (aw x I)⟩|exact iR.2.2.1 w bx _ _ _ l (λx=> !N x) K ⟨by simp,λx I=>jG.2.2.1 w bx _ q bJ x _ ap (aw x I)⟩|exact iR.2.2.2.1 w bx _ _ _ l (λx=> !N x) K ⟨by simp,λx I=>jG.2.2.2.1 w bx _ q bJ x _ ap (aw x I)⟩|exact iR.2.2.2.2.1 w bx _ _ _ l (λx=> !N x) K ⟨by simp,λx I=>jG.2.2.2.2.1 w bx _ q bJ x _ ap (aw x I)⟩|exact iR.2.2.2.2.2.1 w bx _ _ _ l (λx=> !N x) K ⟨by simp,λx I=>jG.2.2.2.2.2.1 w bx _ q bJ x _ ap (aw x I)⟩|exact iR.2.2.2.2.2.2.1 w bx _ _ _ l (λx=> !N x) K ⟨by simp,λx I=>jG.2.2.2.2.2.2.1 w bx _ q bJ x _ ap (aw x I)⟩|exact iR.2.2.2.2.2.2.2.1 w bx _ _ _ l (λx=> !N x) K ⟨by simp,λx I=>jG.2.2.2.2.2.2.2.1 w bx _ q bJ x _ ap (aw x I)⟩|exact iR.2.2.2.2.2.2.2.2.1 w bx _ _ _ l (λx=> !N x) K ⟨by simp,λx I=>jG.2.2.2.2.2.2.2.2.1 w bx _ q bJ x _ ap (aw x I)⟩|exact iR.2.2.2.2.2.2.2.2.2.1 w bx _ _ _ l (λx=> !N x) K ⟨by simp,λx I=>jG.2.2.2.2.2.2.2.2.2.1 w bx _ q bJ x _ ap (aw x I)⟩|exact iR.2.2.2.2.2.2.2.2.2.2.1 w bx _ _ _ l (λx=> !N x) K ⟨by simp,λx I=>jG.2.2.2.2.2.2.2.2.2.2.1 w bx _ q bJ x _ ap (aw x I)⟩|exact iR.2.2.2.2.2.2.2.2.2.2.2.1 w bx _ _ _ l (λx=> !N x) K ⟨by simp,λx I=>jG.2.2.2.2.2.2.2.2.2.2.2.1 w bx _ q bJ x _ ap (aw x I)⟩|exact iR.2.2.2.2.2.2.2.2.2.2.2.2.1 w bx _ _ _ l (λx=> !N x) K ⟨by simp,λx I=>jG.2.2.2.2.2.2.2.2.2.2.2.2.1 w bx _ q bJ x _ ap (aw x I)⟩|exact iR.2.2.2.2.2.2.2.2.2.2.2.2.2.1 w bx _ _ _ l (λx=> !N x) K ⟨by simp,λx I=>jG.2.2.2.2.2.2.2.2.2.2.2.2.2.1 w bx _ q bJ x _ ap (aw x I)⟩|exact iR.2.2.2.2.2.2.2.2.2.2.2.2.2.2 w bx _ _ _ l (λx=> !N x) K ⟨by simp,λx I=>jG.2.2.2.2.2.2.2.2.2.2.2.2.2.2 w bx _ q bJ x _ ap (aw x I)⟩) ?_
  exact⟨rfl,by rw[HI]⟩
def Ra(C:Nat->cG)(q:Nat)(bJ:List b2)(l:List bM)(N:bM->Bool):Prop:=bJ.length<=2/\∀x∈l,bj C [] q (.J (.str x)::bJ.map .J) [] λv A=>A=[]/\v=.bool (N x)
def amt(g q:Nat)(bJ:List b2)(l:List bM)(N:bM->Bool)(K:l.length<10000000)(aw:Ra C q bJ l N):bj C [] 289 [.J (.aQ g (l.map cu)),.J (.fn q [] bJ)] [] λv A=>A=[]/\∃n,v=.int 3 n/\(if l.any N then n<10000000 else n=18446744073709551615):=by
 obtain⟨ap,h⟩:=aw;refine Q.z 289 (h9 [(0,[3,6,7],[])]) rfl rfl ?_;rcases bJ with _|⟨a,_|⟨b,_|⟨c,bJ⟩⟩⟩
 rotate_left 3
 .simp at ap
 all_goals
  have hm:(l.map cu).length=l.length:=bW
  refine aG ?_
  refine gE cu l 5 (λ_=>[]) (λd=>d.any N=false) ⟨rfl,rfl,rfl⟩ (λd x r ba ar aV ad bo bC=>?_) (λba bo=>?_)
  .have aw:=h x (by simp [ar]);refine dx ?_;refine cj (aw) ?_;refine eD (λB=>?_) (λB=>?_)
   .refine aG ?_;exact⟨rfl,_,rfl,by rw[Ts ar B];simp;omega⟩
   .refine aG ?_;exact bC _ _ (QU bo B) rfl rfl
  .refine de ?_;exact⟨rfl,_,rfl,by rw[bo];rfl⟩
def aqu(g q:Nat)(bJ:List b2)(l:List bM)(N:bM->Bool)(K:l.length<10000000)(aw:Ra C q bJ l N):bj C [] 233 [.J (.aQ g (l.map cu)),.J (.fn q [] bJ)] [] λv A=>A=[]/\v=.bool (l.any N):=by
 refine Q.z 233 cY rfl rfl ?_;refine aG ?_;refine aK (amt Q g q bJ l N K aw) ?_;rintro v A ⟨rfl,n,rfl,aB⟩;cases aD:l.any N with
 |true=>rw[aD] at aB;have aB:n<10000000:=aB;refine aG ?_;exact⟨rfl,rfl⟩
 |false=>
  rw[aD] at aB;have aB:n=18446744073709551615:=aB;subst aB
  (conv=>whnf)
  refine l8.mW ?_
  (conv=>whnf)
  repeat(first|refine .no qj ?_|refine bn ?_);(conv=>whnf)
  exact⟨rfl,by rw[qj]⟩
def ak6(e q:Nat)(bJ:List b2)(x:bM)(b:Bool)(ap:bJ.length<=2)(h:bj C [] q (.J (.str x)::bJ.map .J) [] (λv A=>A=[]/\v=.bool b)):bj C [] 234 [.J (.str x),.J (.gc e [.fn q [] bJ] 0)] [] λv A=>A=[]/\v=.bool !b:=by
 refine Q.z 234 cY rfl rfl ?_;rcases bJ with _|⟨a,_|⟨b,_|⟨c,bJ⟩⟩⟩
 rotate_left 3
 .simp at ap
 all_goals
  refine aG ?_
  refine cj (h) ?_
  exact⟨rfl,rfl⟩
def KS(g q:Nat)(bJ:List b2)(l:List bM)(N:bM->Bool)(K:l.length<10000000)(aw:Ra C q bJ l N):bj C [] 134 [.J (.aQ g (l.map cu)),.J (.fn q [] bJ)] [] λv A=>A=[]/\v=.bool (l.all N):=by refine Q.z 134 cY rfl rfl ?_;obtain⟨ap,aw⟩:=aw;refine aG ?_;refine cj (aqu Q _ _ _ l (λx=> !N x) K ⟨by simp,λx I=>ak6 Q _ q bJ x _ ap (aw x I)⟩) ?_;exact⟨rfl,by rw[HI]⟩
def ap1(g:Nat)(l:List bM)(s:bM)(K:l.length<10000000):bj C [] 288 [.J (.aQ g (l.map cu)),.J (.str s)] [] λv A=>A=[]/\∃n,v=.int 3 n/\(if s∈l then n<10000000 else n=18446744073709551615):=by
 refine Q.z 288 (h9 [(0,[3,6,7],[])]) rfl rfl ?_;have hm:(l.map cu).length=l.length:=bW;refine aG ?_;refine gE cu l 5 (λ_=>[]) (λd=>s∉d) ⟨by simp,rfl,rfl⟩ (λd x r ba ar aV ad bo bC=>?_) (λba bo=>?_)
 .refine dx ?_;refine cC (λB=>?_) (λB=>?_)
  .refine aG ?_;exact⟨rfl,_,rfl,by rw[ar,B];simp;omega⟩
  .refine aG ?_;exact bC _ _ (Uv bo λh=>B (by first|exact h|exact h.symm)) rfl rfl
 .refine de ?_;exact⟨rfl,_,rfl,by rw[bA bo]⟩
def aj6(g:Nat)(l:List bM)(s:bM)(K:l.length<10000000):bj C [] 231 [.J (.aQ g (l.map cu)),.J (.str s)] [] λv A=>A=[]/\v=.bool (decide (s∈l)):=by
 refine Q.z 231 cY rfl rfl ?_;refine aG ?_;refine aK (ap1 Q g l s K) ?_;rintro v A ⟨rfl,n,rfl,aB⟩;by_cases aD:s∈l
 .rw[b3 aD] at aB;refine aG ?_;exact⟨rfl,by rw[iX aD];rfl⟩
 .rw[bA aD] at aB;subst aB
  (conv=>whnf)
  refine l8.mW ?_
  (conv=>whnf)
  repeat(first|refine .no qj ?_|refine bn ?_);(conv=>whnf)
  exact⟨rfl,by rw[qj,qO aD]⟩
end
end Go.Tx
