/- Part of the proof of PrinterLines. -/
import Derived.Test.YtddaefckjmdfoaaGreatDoorG2
set_option linter.all false
namespace Go.Tx
open Go Go.Ev
set_option maxRecDepth 100000
set_option maxHeartbeats 8000000
attribute [local irreducible] jJ mb bj lQ kS nj ie fe
section
variable{C:Nat->cG}{ext:Nat->Option e0}{ab:fD}(Q:Env C ext ab)
include Q
variable{g:Nat}
variable(bi:l6 ab)(N:rY)(V:List cD)(ck L d m f2:Nat)(aw:sg N V ck L)(gr:ck<=300)(cn:L<=1000)(aJ:0<d)(fZ:d<=100)(hm:0<m)(kp:4<=f2)(bR:sO C g ab (d - 1) m (ck+10) (L+10) f2)
include bi aw gr cn aJ fZ hm kp bR
abbrev amm:Nat->Nat->Option qY:=ia [(0,[10,11,12,23,24],[],[5,8,10,12,1000,1001]),(2,[15,16,17,18,19,30,31,32,33,34,35],[⟨true,17,6,901,231,3⟩,⟨true,17,7,900,61,11⟩],[5,8,10,12,17,900,901,1000,1001]),(4,[18,19,35],[⟨true,17,6,901,231,3⟩,⟨true,17,7,900,61,11⟩,⟨true,21,2,902,9,1⟩],[5,8,10,12,17,20,21,900,901,902,1000,1001])]
def ao4:Option (eg×ai)->ul
 |none=>.bE [.J (.int 3 0),.J (.bool false),.J (.bool false),.J (.str []),.bT,.bT]
 |some (u,_)=>.cc (eg.row u)
def apy:Option (eg×ai)->ul
 |none=>.bE [.J (.str []),.bT]
 |some (_,on)=>.cc on.cells
abbrev ek:a1:=.J .undef
abbrev aoQ(N:rY)(V:List cD)(ck ef d next:Nat)(ab:fD)(g:Nat)(t:ai)(E:bG)(A:be):Prop:=∃(kO p5 Xd aaz SB:b2)(YS:Bool)(u:eg)(on:ai)(df D2 bN:Nat),yB u/\GT (ck+4) on/\D2<=next/\bN<=ab.length/\E=[.bH 1000 0,.J (.agg t.cells),.J (.aQ ef (V.map cD.row)),.J (.int 3 d),.bH 5 0,.bH 8 0,.J (.bool false),.bH 10 0,.J (.bool YS),.bH 12 0,ek,ek,ek,ek,ek,ek,ek,ek,ek,ek,.J kO,.J p5,.J Xd,.J aaz,ek,.J SB,ek,ek,ek,ek,ek,ek,ek,ek,ek,ek,ek]/\A=[(5,.box 54 2 (.cc t.cells)),(8,ms),(10,.box 47 6 (.cc (eg.row u))),(12,.box 54 2 (.cc on.cells)),(1000,iA N df D2),(1001,dH g ab bN)]
theorem ap6(t)(al:GT ck t)(ef left next a)(aD:a<=ab.length)(aB:next+400*m<=1000000000000000):bj C [] 121 [.bH 1000 0,.J (.agg t.cells),.J (.aQ ef (V.map cD.row)),.J (.int 3 d)] [(1000,iA N left next),(1001,dH g ab a)] (Made N g ab (next+190*m) λv=>∃e ok,v=.eJ [.agg (aj.cells e),.bool ok]/\GE (f2+1) e):=by
 refine Q.z 121 amm rfl rfl ?_;have hp:=aw.ok;have m1:(V.map cD.row).length=V.length:=bW;have tx:=aw.tx
 (conv=>whnf)
 repeat(refine bn ?_;conv=>whnf)
 refine gG cD.row V 22 (λ_ (b:Option (eg×ai))=>[(8,.J (.bool b.isSome))]) (λ_ b=>[(5,.box 54 2 (.cc t.cells)),(8,ms),(10,.box 47 6 (ao4 b)),(12,.box 54 2 (apy b)),(1000,iA N left next),(1001,dH g ab a)]) (λaG b=>∀u on,b=some (u,on)->yB u/\GT ck on) ⟨none,(λ_ _ h=>by cases h),by kernel_rfl⟩ (λaG b x r ba ar aV ad bo bC=>?_) (λb ba bo=>?_)
 .have I:x∈V:=by simp [ar]
  have jE:aG.length<V.length:=Y;have dS:=aw.v1 x I;have fw:=aw.v2 x I;have lB:x.bK.aR.length<=300:=dS.aR;unfold cD.row at ad;simp only[List.cons_append,List.nil_append] at ad;cases b;all_goals
   (conv=>whnf)
   repeat((first|refine .yes (cZ.2 aV) ?_|refine⟨aV,⟨_,ad,?_⟩⟩|refine b9 ?_);(conv=>whnf))
   refine aK (NZ Q N.W hp.cf hp.dg N.ig x.bK.aR Y) ?_
   rintro v A ⟨rfl,u,Ja,rfl,hu⟩
   (conv=>whnf)
   repeat(refine b9 ?_;conv=>whnf)
   refine eD (λh=>?_) (λh=>?_)
   ·(conv=>whnf)
    repeat(refine b9 ?_;conv=>whnf)
    exact bC (some (u,x.bK)) _ _ (λ_ _ h=>by cases h;exact⟨hu,dS⟩) (by kernel_rfl)
  ·(conv=>whnf)
   repeat(refine b9 ?_;conv=>whnf)
   exact bC none _ _ bo (by kernel_rfl)
  ·(conv=>whnf)
   repeat(refine b9 ?_;conv=>whnf)
   exact bC (some _) _ _ bo (by kernel_rfl)
 .have bO:∀u on,b=some (u,on)->yB u/\GT ck on:=bo
  (conv=>whnf)
  repeat((first|refine .no (lZ _) ?_|refine .mk ⟨rfl,by simp only[List.length_cons,List.length_nil];omega⟩ ?_|refine .mk Y ?_|refine .mk pu ?_|refine .nice Y ?_|refine .yes ag ?_|refine .no ag ?_|refine oG (by kernel_rfl) ?_);(conv=>whnf))
  refine .plain ?_
  (conv=>whnf)
  repeat((first|refine .no (lZ _) ?_|refine .mk ⟨rfl,by simp only[List.length_cons,List.length_nil];omega⟩ ?_|refine .mk Y ?_|refine .mk pu ?_|refine .nice Y ?_|refine .yes ag ?_|refine .no ag ?_|refine oG (by kernel_rfl) ?_);(conv=>whnf))
  refine .join (aoQ N V ck ef d next ab g t) ?_ ?_
  .rcases b with _|⟨UQ,Rn⟩
   case' none=>
    have gk:=aD
    (conv=>whnf)
    repeat(refine bn ?_;conv=>whnf)
   case' some=>
    (conv=>whnf)
    repeat((first|refine .no rfl ?_|refine bn ?_);(conv=>whnf))
    refine aK (wv Q bi a 3 aD ag ag) ?_;rintro v A ⟨⟨N0,rfl⟩,bN,gk,rfl⟩
    (conv=>whnf)
    repeat(refine bn ?_;conv=>whnf)
    refine eD (λh=>?_) (λh=>?_)
   case' some.refine_2=>
    (conv=>whnf)
    repeat(refine bn ?_;conv=>whnf)
    exact⟨_,_,_,_,_,true,UQ,Rn,left,next,bN,(bO UQ Rn rfl).1,(bO UQ Rn rfl).2.mono Y,Nat.le_refl _,gk,rfl,rfl⟩
   case' some.refine_1=>
    (conv=>whnf)
    repeat(refine bn ?_;conv=>whnf)
   iterate 2
    .refine aK (Ay Q bi N hp left next _ gk) ?_;rintro v A ⟨⟨on,rfl,lM⟩,a2,cH,cB,fU,kY,rfl⟩
     (conv=>whnf)
     repeat(refine bn ?_;conv=>whnf)
     refine aK (NZ Q N.W hp.cf hp.dg N.ig on.aR (by have:=lM.aR;omega)) ?_;rintro v A ⟨rfl,u,Ja,rfl,hu⟩
     (conv=>whnf)
     repeat(refine bn ?_;conv=>whnf)
     exact⟨_,_,_,_,_,Ja,u,on,cH,cB,a2,hu,lM.mono Y,kY,fU,rfl,rfl⟩
  .rintro E A ⟨kO,p5,Xd,aaz,SB,YS,u,on,df,D2,bN,hu,lM,qt,gk,rfl,rfl⟩;have iG:=aw.up (xF:=ck+10) (fX:=L+10) Y Y;have Zz:(u.cases.map eP.row).length=u.cases.length:=bW;have WZ:=hu.lp
   (conv=>whnf)
   repeat(refine bn ?_;conv=>whnf)
   refine f4 (eD (λh=>?_) (λh=>?_));case' refine_2=>
    (conv=>whnf)
    repeat(refine b9 ?_;conv=>whnf)
    exact⟨⟨aj.nil,false,rfl,q7.mono Y⟩,bN,df,D2,gk,Y,rfl⟩
   (conv=>whnf)
   repeat(refine bn ?_;conv=>whnf)
   refine fK (λanz=>?_) (λanz=>?_)
   ·(conv=>whnf)
    repeat(refine b9 ?_;conv=>whnf)
    exact⟨⟨aj.nil,false,rfl,q7.mono Y⟩,bN,df,D2,gk,Y,rfl⟩
   (conv=>whnf)
   repeat(refine bn ?_;conv=>whnf)
   refine aK (bR N V iG on (lM.mono Y) ef df D2 bN gk Y) ?_;rintro v A ⟨⟨jV,rfl,Tc⟩,a2,cH,cB,fU,kY,rfl⟩
   (conv=>whnf)
   repeat' ((first|(refine aK (EH Q bi N cH cB _ fU on.aR (by have:=lM.aR;omega)) ?_;rintro v A ⟨rfl,t0,rfl⟩)|(refine aK (fR Q bi a2 2 fU ag ag) ?_;rintro v A ⟨⟨hD,rfl,wl⟩,a2,fU,rfl⟩)|refine b9 ?_|((with_reducible first|apply eT|apply iN|apply fK|apply cC|apply f4|apply kC|apply kB|apply eD)<;>intros))<;>(conv=>whnf))
   all_goals
    refine gG eP.row u.cases 29 (λ_ (_:Bool×List aj×List fC×Nat×Nat×Nat)=>[]) (λ_ b=>[(5,.box 54 2 (.cc t.cells)),(8,ms),(10,.box 47 6 (.cc (eg.row u))),(12,.box 54 2 (.cc on.cells)),(17,.box 61 11 (.bE [.J (.int 3 15),.J (.str []),.J (.str []),.J (.int 3 0),.bT,.bT,.bQ 901,.bQ 900,.J (.str []),.bT,.J (.int 3 0)])),(900,.arr 61 11 (b.2.1.map aj.row) b.1),(901,.arr 231 3 (b.2.2.1.map fC.row) true),(1000,iA N b.2.2.2.1 b.2.2.2.2.1),(1001,dH g ab b.2.2.2.2.2)]) (λaG b=>b.2.1.length<=aG.length+1/\(∀k∈b.2.1,GE f2 k)/\b.2.2.1.length<=aG.length/\(∀k∈b.2.2.1,Hj k)/\b.2.2.2.2.1<=cB+aG.length*(7*m)/\b.2.2.2.2.2<=ab.length) ⟨(false,[jV],[],cH,cB,a2),⟨by simp,(λk h=>by rw[List.mem_singleton.1 h];exact Tc),by simp,(λ_ h=>by cases h),by simp,fU⟩,by rw[List.map_cons,List.map_nil,aj.dF];kernel_rfl⟩ (λaG b c r ba ar aV ad bo bC=>?_) (λb ba bo=>?_)
    .have⟨dD,dQ,fi,fr,lY,tW⟩:=bo;have jE:aG.length<u.cases.length:=Y;have To:=hu.ub c (by simp [ar]);have dz:=To.aR;have gg:=To.pl;have bq:(b.2.1.map aj.row).length=b.2.1.length:=bW;have aS:(b.2.2.1.map fC.row).length=b.2.2.1.length:=bW;have bU:aG.length*(7*m)<=5*(7*m):=Nat.mul_le_mul_right _ Y;have cU:(aG.length+1)*(7*m)=aG.length*(7*m)+7*m:=Nat.succ_mul ..;have eI:(c.f8.map ai.row).length=c.f8.length:=bW;unfold eP.row at ad;obtain⟨a5,HU,mo⟩:∃a5,a5<=ab.length/\a5=b.2.2.2.2.2:=⟨_,tW,rfl⟩;rw[<-mo]
     (conv=>whnf)
     repeat' ((first|refine .yes (cZ.2 aV) ?_|refine⟨aV,⟨_,ad,?_⟩⟩|(refine aK (fR Q bi a5 3 HU ag ag) ?_;rintro v A ⟨⟨oo,rfl,Yl⟩,a5,HU,rfl⟩)|refine b9 ?_|((with_reducible first|apply eT|apply iN|apply fK|apply cC|apply f4|apply kC|apply kB|apply eD)<;>intros))<;>(conv=>whnf))
     all_goals try exact bC (b.1,b.2.1,b.2.2.1,b.2.2.2.1,b.2.2.2.2.1,a5) _ _ ⟨by simp only[List.length_append,List.length_singleton];omega,dQ,by simp only[List.length_append,List.length_singleton];omega,fr,by simp only[List.length_append,List.length_singleton];omega,HU⟩ (by kernel_rfl)
     all_goals
      refine gG ai.row c.f8 34 (λ_ (s:Nat×List cD×List bM×Nat)=>[(17,.J (.aQ s.1 (s.2.1.map cD.row)))]) (λ_ s=>[(5,.box 54 2 (.cc t.cells)),(8,ms),(10,.box 47 6 (.cc (eg.row u))),(12,.box 54 2 (.cc on.cells)),(17,.box 61 11 (.bE [.J (.int 3 15),.J (.str []),.J (.str []),.J (.int 3 0),.bT,.bT,.bQ 901,.bQ 900,.J (.str []),.bT,.J (.int 3 0)])),(20,.box 87 3 (.cc (eP.row c))),(21,.box 231 3 (.bE [.J (.bool false),.J (.str c.aR),.bQ 902])),(900,.arr 61 11 (b.2.1.map aj.row) b.1),(901,.arr 231 3 (b.2.2.1.map fC.row) true),(902,.arr 9 1 (s.2.2.1.map cu) true),(1000,iA N b.2.2.2.1 s.2.2.2),(1001,dH g ab a5)]) (λd s=>sg N s.2.1 (ck+10) (V.length+d.length)/\s.2.2.1.length=d.length/\(∀x∈s.2.2.1,x.length<=100)/\s.2.2.2<=b.2.2.2.2.1+d.length) ⟨(ef,V,[],b.2.2.2.2.1),⟨⟨hp,Nat.le_refl _,iG.v1,iG.v2⟩,rfl,(λ_ h=>by cases h),Nat.le_refl _⟩,by kernel_rfl⟩ (λd4 s z lS xl CR yE tG oj qo=>?_) (λs xl oj=>?_)
      .have⟨dr,c3,dY,e9⟩:=oj;have U3:d4.length<c.f8.length:=Y;have ap3:=To.n7 z (by simp [CR]);have my:(s.2.2.1.map cu).length=s.2.2.1.length:=bW;have xo:=dr.tx;have aV:=yE;have ad:=tG;rw[ai.dF] at ad
       (conv=>whnf)
       repeat((first|refine .yes (cZ.2 aV) ?_|refine⟨aV,⟨_,ad,?_⟩⟩|refine b9 ?_);(conv=>whnf))
       refine aK (Ym Q bi N b.2.2.2.1 s.2.2.2 a5 HU Y) ?_;rintro v A ⟨rfl,K9,rfl,ar6⟩
       (conv=>whnf)
       repeat(refine b9 ?_;conv=>whnf)
       refine aK (wS Q (ck+4) 5 Y ag z ap3 u.g1 on.g u.params on.l (by have:=hu.pl;omega) (by have:=GT.Fi lM;omega) (GT.sub lM)) ?_;rintro v A ⟨rfl,jZ,rfl,o3⟩
       (conv=>whnf)
       repeat(refine b9 ?_;conv=>whnf)
       refine aK (WQ Q s.1 s.2.1 Y K9 jZ) ?_;rintro v A ⟨rfl,nB,rfl⟩
       (conv=>whnf)
       repeat(refine b9 ?_;conv=>whnf)
       exact qo (nB,s.2.1++[cD.new K9 jZ],s.2.2.1++[K9],s.2.2.2+1) _ _ ⟨⟨hp,by simp only[List.length_append,List.length_singleton];omega,λy ap=>by
        rcases List.mem_append.1 ap with ap|ap
        .exact dr.v1 y ap
        .rw[List.mem_singleton.1 ap];exact o3.mono Y,λy ap=>by
        rcases List.mem_append.1 ap with ap|ap
        .exact dr.v2 y ap
        .rw[List.mem_singleton.1 ap];show K9.length<=100;omega⟩,by simp only[List.length_append,List.length_singleton];omega,λy ap=>by
        rcases List.mem_append.1 ap with ap|ap
        .exact dY y ap
        .rw[List.mem_singleton.1 ap];omega,by simp only[List.length_append,List.length_singleton];omega⟩ (by rw[@List.map_append _ _ cu];kernel_rfl)
      .have⟨dr,c3,dY,e9⟩:=oj;have c3:s.2.2.1.length=c.f8.length:=c3;have e9:s.2.2.2<=b.2.2.2.2.1+c.f8.length:=e9;have my:(s.2.2.1.map cu).length=s.2.2.1.length:=bW;have TY:=bR N s.2.1 ⟨hp,by have:=dr.tx;omega,dr.v1,dr.v2⟩ t (al.mono Y) s.1 b.2.2.2.1 s.2.2.2 a5 HU Y;cases kN:b.1;all_goals
        (conv=>whnf)
        repeat((first|refine .no (lZ _) ?_|refine bn ?_);(conv=>whnf))
        (conv=>whnf)
        repeat(refine b9 ?_;conv=>whnf)
        refine aK TY ?_
        rintro v A ⟨⟨e,rfl,jd⟩,dR,ty,me,ra,QS,rfl⟩
        (conv=>whnf)
        repeat(refine b9 ?_;conv=>whnf)
        exact bC (true,b.2.1++[e],b.2.2.1++[⟨false,c.aR,19,s.2.2.1⟩],ty,me,dR) _ _ ⟨by simp only[List.length_append,List.length_singleton];omega,λy ap=>by
         rcases List.mem_append.1 ap with ap|ap
         .exact dQ y ap
         .rw[List.mem_singleton.1 ap];exact jd,by simp only[List.length_append,List.length_singleton];omega,λy ap=>by
         rcases List.mem_append.1 ap with ap|ap
         .exact fr y ap
         .rw[List.mem_singleton.1 ap];exact⟨dz,by show s.2.2.1.length<=10;omega,dY,.inr (ag:19 / 2=9)⟩,by simp only[List.length_append,List.length_singleton];omega,ra⟩ (by rw[List.map_append,List.map_append,List.map_singleton,List.map_singleton,aj.dF];kernel_rfl)
    .have⟨dD,dQ,fi,fr,lY,tW⟩:=bo;have dD:b.2.1.length<=u.cases.length+1:=dD;have fi:b.2.2.1.length<=u.cases.length:=fi;have bU:u.cases.length*(7*m)<=6*(7*m):=Nat.mul_le_mul_right _ Y;have lY:b.2.2.2.2.1<=cB+u.cases.length*(7*m):=lY;have bq:(b.2.1.map aj.row).length=b.2.1.length:=bW;have aS:(b.2.2.1.map fC.row).length=b.2.2.1.length:=bW;have TY:=bR N V iG t (al.mono Y) ef b.2.2.2.1 b.2.2.2.2.1 b.2.2.2.2.2 tW Y;cases kN:b.1;all_goals
      (conv=>whnf)
      repeat((first|refine .no (lZ _) ?_|refine bn ?_);(conv=>whnf))
      (conv=>whnf)
      repeat' ((first|(refine aK TY ?_;rintro v A ⟨⟨e,rfl,jd⟩,dR,ty,me,ra,QS,rfl⟩)|refine b9 ?_|((with_reducible first|apply eT|apply iN|apply fK|apply cC|apply f4|apply kC|apply kB|apply eD)<;>intros))<;>(conv=>whnf))
      all_goals first
       |exact⟨⟨_,true,aj.Fc o7 mv rfl rfl,kl ag ag ag ag jc.nil jT.nil ⟨Y,fr,.inr ag⟩ ⟨Y,dQ,.inr ag⟩⟩,b.2.2.2.2.2,b.2.2.2.1,b.2.2.2.2.1,tW,Y,rfl⟩
       |exact⟨⟨_,true,aj.Fc (fV:=b.2.2.1++[⟨true,[],1,[]⟩]) (kids:=b.2.1++[e]) o7 mv (by rw[List.map_append];rfl) (by rw[List.map_append,List.map_singleton,aj.dF]),kl ag ag ag ag jc.nil jT.nil ⟨by simp only[List.length_append,List.length_singleton];omega,λy ap=>by
        rcases List.mem_append.1 ap with ap|ap
        .exact fr y ap
        .rw[List.mem_singleton.1 ap];exact⟨by show 0<=100;omega,by show 0<=10;omega,(λ_ h=>by cases h),.inl rfl⟩,.inr ag⟩ ⟨by simp only[List.length_append,List.length_singleton];omega,λy ap=>by
        rcases List.mem_append.1 ap with ap|ap
        .exact dQ y ap
        .rw[List.mem_singleton.1 ap];exact jd,.inr ag⟩⟩,dR,ty,me,ra,Y,rfl⟩
end
def wy(bS:aO)(acc:List Acc)(aU:aO)(E:bG)(A:be):Option (bG×be):=qN acc aU ((c5.mk [] E A).ft bS).E ((c5.mk [] E A).ft bS).A
def aie{c4 bS aU}{acc}{E d9:bG}{A bw}{k}(h:wy bS acc aU (forget E c4) A=some (d9,bw))(az:jK id d9 λE=>ky bw λA=>k E A):np (some ⟨c4,bS,acc,aU⟩) E A k:=by have:=Wv (c4:=[]) h az;unfold np at this ⊢;simp only[DU,y1,we,zY] at this ⊢;exact this
def VP{c4 bS aU}{acc}{bc:(bG->be->Prop)->bG->be->Prop}{eb:bG}{gI}{α:Type}(dU:α->List (Nat×a1))(T:α->be)(pk:α->Nat)(eo:α->Prop)(cb:∃a,eo a/\wy bS acc aU (forget eb c4) gI=some (forget (gU eb (dU a)) c4,T a))(ak:∀a (ba),eo a->(∀bF d9 bw,pk bF<pk a->eo bF->wy bS acc aU (forget d9 c4) bw=some (forget (gU eb (dU bF)) c4,T bF)->ba d9 bw)->jK id (forget (gU eb (dU a)) c4) λE=>ky (T a) λA=>bc ba E A):qK (λba E A=>np (some ⟨c4,bS,acc,aU⟩) E A λE A=>bc ba E A) eb gI:=by have⟨a,B,F⟩:=cb;refine PU (λm E A=>∃a,m=pk a/\eo a/\wy bS acc aU (forget E c4) A=some (forget (gU eb (dU a)) c4,T a)) ⟨_,a,rfl,B,F⟩ ?_;rintro m ba E A ⟨a,rfl,g1,g2⟩ bC;exact aie g2 (ak a ba g1 λbF d9 bw bq aS bU=>bC _ _ _ bq ⟨bF,rfl,aS,bU⟩)
def agD{c4 bS aU}{acc}{bc:(bG->be->Prop)->bG->be->Prop}{eb:bG}{gI}{α gd:Type}(f:α->di)(l:List α)(N)(dU:List α->gd->List (Nat×a1))(T:List α->gd->be)(eo:List α->gd->Prop)(cb:∃b,eo [] b/\wy bS acc aU (forget eb c4) gI=some (forget (gU eb ((N,.J (.int 3 0))::dU [] b)) c4,T [] b))(ak:∀d b x r (ba),l=d++x::r->d.length<(l.map f).length->ib (l.map f) d.length=f x->eo d b->(∀dA d9 bw,eo (d++[x]) dA->wy bS acc aU (forget d9 c4) bw=some (forget (gU eb ((N,.J (.int 3 (d.length+1)))::dU (d++[x]) dA)) c4,T (d++[x]) dA)->ba d9 bw)->jK id (forget (gU eb ((N,.J (.int 3 d.length))::dU d b)) c4) λE=>ky (T d b) λA=>bc ba E A)(ar:∀b (ba),eo l b->jK id (forget (gU eb ((N,.J (.int 3 (l.map f).length))::dU l b)) c4) λE=>ky (T l b) λA=>bc ba E A):qK (λba E A=>np (some ⟨c4,bS,acc,aU⟩) E A λE A=>bc ba E A) eb gI:=by
 have⟨n5,B,F⟩:=cb;refine VP (α:={d:List α // ∃r,l=d++r}×gd) (λd=>(N,.J (.int 3 d.1.1.length))::dU d.1.1 d.2) (λd=>T d.1.1 d.2) (λd=>l.length - d.1.1.length) (λd=>eo d.1.1 d.2) ⟨⟨⟨[],l,rfl⟩,n5⟩,B,F⟩ ?_;rintro⟨⟨d,r,rfl⟩,b⟩ ba bo bC;cases r with
 |nil=>have:=ar b ba (by rw[oK];exact bo);rw[dt] at this;simp only[oK] at this ⊢;exact this
 |cons x r=>refine ak d b x r ba rfl (by simp) (wu f d x r) bo λdA d9 bw B F=>?_;refine bC ⟨⟨d++[x],r,by simp⟩,dA⟩ d9 bw (by simp;omega) B ?_;simpa using F
def ahz{c4 bS aU}{acc}{bc:(bG->be->Prop)->bG->be->Prop}{eb:bG}{gI}{α gd:Type}(f:α->di)(l:List α)(N)(dU:List α->gd->List (Nat×a1))(T:List α->gd->be)(eo:List α->gd->Prop)(cb:∃b,eo [] b/\wy bS acc aU (forget eb c4) gI=some (forget (gU eb ((N,.J (.int 3 0))::dU [] b)) c4,T [] b))(ak:∀d b x r (ba),l=d++x::r->d.length<(l.map f).length->ib (l.map f) d.length=f x->eo d b->(∀dA d9 bw,eo (d++[x]) dA->wy bS acc aU (forget d9 c4) bw=some (forget (gU eb ((N,.J (.int 3 (d.length+1)))::dU (d++[x]) dA)) c4,T (d++[x]) dA)->ba d9 bw)->tN eb ((N,.J (.int 3 d.length))::dU d b) λE=>tD E c4 λE=>jK id E λE=>ky (T d b) λA=>bc ba E A)(ar:∀b (ba),eo l b->tN eb ((N,.J (.int 3 (l.map f).length))::dU l b) λE=>tD E c4 λE=>jK id E λE=>ky (T l b) λA=>bc ba E A):qK (λba E A=>np (some ⟨c4,bS,acc,aU⟩) E A λE A=>bc ba E A) eb gI:=
 agD f l N dU T eo cb (λd b x r ba B F ah aE bt=>AJ (ak d b x r ba B F ah aE bt)) (λb ba h=>AJ (ar b ba h))
abbrev tQ(l:List (Nat×qY)):Nat->Nat->Option qY:=λ_ id=>match l with
 |[(_,h)]=>some h
 |l=>(l.find? λq=>Nat.beq q.1 id).map λq=>q.2
section
variable{C:Nat->cG}{ext:Nat->Option e0}{ab:fD}(Q:Env C ext ab)
include Q
structure o9 where
 aR:bM
 g:Nat
 bX:List ai
def o9.row(c:o9):di:=[.int 3 9,.str c.aR,.str [],.int 3 0,.aQ c.g (c.bX.map ai.row),.aQ 1 [],.aQ 1 [],.aQ 1 [],.str [],.aQ 1 [],.int 3 0]
structure ZF(ck:Nat)(c:o9):Prop where
 aR:c.aR.length<=300
 len:c.bX.length<=5
 bK:∀t∈c.bX,GT ck t
 yY:gV 54 c.g c.bX
variable{g:Nat}
variable(bi:l6 ab)(N:rY)(V:List cD)(ck L d m f2:Nat)(aw:sg N V ck L)(gr:ck<=300)(cn:L<=1000)(aJ:0<d)(fZ:d<=100)(hm:0<m)(kp:4<=f2)(bR:sO C g ab (d - 1) m (ck+10) (L+10) f2)
include bi aw gr cn aJ fZ hm kp bR
abbrev anZ:Nat->Nat->Option qY:=tQ [(0,⟨[8,9,10,11,12,13,14,15,16,24,25,26,27,28,29,30,31,32,33,34,35,36,37,38,39,40,41,42,43,44,45],[],[⟨false,7,0,900,61,11⟩],[5,8,900,1000,1001]⟩),(2,⟨[9,10,11,12,13,14,15,16,29,30,31,32,33,34,35,36,37,38,39,40,41,42,43,44,45],[],[⟨false,7,0,900,61,11⟩],[5,8,12,900,1000,1001]⟩),(4,⟨[11,34],[],[⟨false,7,0,900,61,11⟩,⟨false,10,0,901,9,1⟩],[5,8,12,14,900,901,1000,1001]⟩),(6,⟨[10,14,15,16,40,41,42,43,44],[110],[⟨false,7,0,900,61,11⟩],[5,8,12,14,900,1000,1001]⟩),(8,⟨[16,44],[],[⟨false,7,0,900,61,11⟩],[5,8,12,14,21,900,1000,1001]⟩),(10,⟨[20,50],[],[⟨false,19,0,902,9,1⟩],[8,24,25,902,1000,1001]⟩)]
theorem Q6(t)(al:GT ck t)(ef left next a)(aD:a<=ab.length)(aB:next+400*m<=1000000000000000):bj C [] 120 [.bH 1000 0,.J (.agg t.cells),.J (.aQ ef (V.map cD.row)),.J (.int 3 d)] [(1000,iA N left next),(1001,dH g ab a)] (Made N g ab (next+190*m) λv=>∃e ok,v=.eJ [.agg (aj.cells e),.bool ok]/\GE (f2+1) e):=by
 refine Q.z 120 anZ rfl rfl ?_;have hp:=aw.ok;have m1:(N.W.map cV.cells).length=N.W.length:=bW;have anx:=hp.dg;have agP:=hp.OD;have alv:=hp.gl
 (conv=>whnf)
 repeat(refine bn ?_;conv=>whnf)
 refine gG cV.cells N.W 23 (λ_ (_:List o9×Nat×Nat×Nat)=>[(7,.bQ 900)]) (λ_ b=>[(5,.box 54 2 (.cc t.cells)),(8,ms),(900,.arr 61 11 (b.1.map o9.row) true),(1000,iA N b.2.1 b.2.2.1),(1001,dH g ab b.2.2.2)]) (λaG b=>b.1.length<=100*aG.length/\(∀c∈b.1,ZF (ck+4) c)/\b.2.2.1<=next/\b.2.2.2<=ab.length) ⟨([],left,next,a),⟨by simp,(λ_ h=>by cases h),Nat.le_refl _,aD⟩,by kernel_rfl⟩ (λaG b y r ba ar aV ad bo bC=>?_) (λb ba bo=>?_)
 .have ap:=hp.cf y (by simp [ar]);have jE:aG.length<N.W.length:=Y;have dl:(y.funcs.map dI.row).length=y.funcs.length:=bW;have fP:=ap.fP;have yM:=ap.aR
  (conv=>whnf)
  repeat((first|refine .yes (cZ.2 aV) ?_|refine⟨aV,⟨_,ad,?_⟩⟩|refine bn ?_);(conv=>whnf))
  refine f4 (cC (λB=>?_) (λB=>?_));case' refine_1.refine_2=>
   (conv=>whnf)
   repeat(refine bn ?_;conv=>whnf)
   refine aK (GD Q N.gl N.jn y.aR Y) ?_;rintro v A ⟨rfl,SL,rfl⟩
   (conv=>whnf)
   repeat(refine bn ?_;conv=>whnf)
   refine f4 (eD (λF=>?_) (λF=>?_))
  case' refine_1.refine_2.refine_2=>
   (conv=>whnf)
   repeat(refine bn ?_;conv=>whnf)
   exact bC b _ _ ⟨by simp only[List.length_append,List.length_singleton];have:=bo.1;omega,bo.2⟩ (by kernel_rfl)
  all_goals
   have zq:=bo.1
   (conv=>whnf)
   repeat(refine bn ?_;conv=>whnf)
   refine gG dI.row y.funcs 28 (λ_ (_:List o9×Nat×Nat×Nat)=>[(7,.bQ 900)]) (λ_ b=>[(5,.box 54 2 (.cc t.cells)),(8,ms),(12,.box 34 9 (.cc y.cells)),(900,.arr 61 11 (b.1.map o9.row) true),(1000,iA N b.2.1 b.2.2.1),(1001,dH g ab b.2.2.2)]) (λd2 b=>b.1.length<=100*aG.length+d2.length/\(∀c∈b.1,ZF (ck+4) c)/\b.2.2.1<=next/\b.2.2.2<=ab.length) ⟨b,⟨by simpa using bo.1,bo.2⟩,by kernel_rfl⟩ (λd2 c7 f cl fJ eu fv eM dp eG=>?_) (λc7 fJ dp=>?_)
   .have aI:=ap.f9 f (by simp [eu]);have ahO:d2.length<y.funcs.length:=Y;have aV:=fv;have ad:=eM;have bq:(c7.1.map o9.row).length=c7.1.length:=bW;have aS:(f.fg.map cX.row).length=f.fg.length:=bW;have bU:=aI.gl;have cU:=aI.aR;have⟨dD,dQ,fi,fr⟩:=dp;unfold dI.row at ad;simp only[List.cons_append,List.nil_append] at ad
    (conv=>whnf)
    repeat((first|refine .yes (cZ.2 aV) ?_|refine⟨aV,⟨_,ad,?_⟩⟩|refine bn ?_);(conv=>whnf))
    first
    |refine f4 (cC (λ_=>?_) (λh=>absurd B h))
     (conv=>whnf)
     repeat(refine bn ?_;conv=>whnf)
     refine cC (λah=>?_) (λah=>?_)
    |refine f4 (cC (λh=>absurd h B) (λ_=>?_))
     (conv=>whnf)
     repeat(refine bn ?_;conv=>whnf)
     refine f4 (eD (λah=>?_) (λah=>?_))
    all_goals
     (conv=>whnf)
     repeat(refine bn ?_;conv=>whnf)
    all_goals try
     refine cC (λah=>?_) (λah=>?_)
    all_goals
     (conv=>whnf)
     repeat(refine bn ?_;conv=>whnf)
    all_goals try exact eG c7 _ _ ⟨by simp only[List.length_append,List.length_singleton];omega,dQ,fi,fr⟩ (by kernel_rfl)
    all_goals
     refine gG cX.row f.fg 33 (λ_ (_:List bM)=>[(10,.bQ 901),(7,.bQ 900)]) (λ_ jP=>[(5,.box 54 2 (.cc t.cells)),(8,ms),(12,.box 34 9 (.cc y.cells)),(14,.box 109 20 (.cc (dI.row f))),(900,.arr 61 11 (c7.1.map o9.row) true),(901,.arr 9 1 (jP.map cu) true),(1000,iA N c7.2.1 c7.2.2.1),(1001,dH g ab c7.2.2.2)]) (λd4 jP=>jP.length=d4.length) ⟨[],rfl,by kernel_rfl⟩ (λd4 jP z lS xl CR yE tG oj qo=>?_) (λjP xl oj=>?_)
     .have U3:d4.length<f.fg.length:=Y;have my:(jP.map cu).length=jP.length:=bW;have aV:=yE;have ad:=tG;unfold cX.row at ad
      (conv=>whnf)
      repeat((first|refine .yes (cZ.2 aV) ?_|refine⟨aV,⟨_,ad,?_⟩⟩|refine b9 ?_);(conv=>whnf))
      exact qo (jP++[z.aR]) _ _ (by simp [oj]) (by rw[List.map_append];kernel_rfl)
     .have Pd:jP.length=f.fg.length:=oj;have my:(jP.map cu).length=jP.length:=bW
      (conv=>whnf)
      repeat((first|refine .no (lZ _) ?_|refine bn ?_);(conv=>whnf))
      refine aK (alT Q ck 5 Y ag f.fk aI.fk t al _ jP Y) ?_;rintro v A ⟨rfl,g5,fP,rs,rfl,TS,aib,ahZ⟩
      (conv=>whnf)
      repeat(refine bn ?_;conv=>whnf)
      refine f4 (eD (λPH=>?_) (λPH=>?_));case' refine_1=>
       subst PH;obtain⟨x2,L8⟩:∃x2:Nat,x2=g5:=⟨_,rfl⟩;obtain⟨j8,aZ⟩:∃j8:Nat,j8=c7.2.1:=⟨_,rfl⟩;obtain⟨lT,aN⟩:∃j8:Nat,j8=c7.2.2.1:=⟨_,rfl⟩;obtain⟨zc,c9⟩:∃j8:Nat,j8=c7.2.2.2:=⟨_,rfl⟩;have pV:lT<=next:=by rw[aN];exact fi
       have Mj:zc<=ab.length:=by rw[c9];exact fr
       have aoe:fP.length=f.fg.length:=by rw[TS rfl,Pd]
       have Ck:∀t∈fP,GT (ck+4) t:=λt h=>(aib t h).mono Y;have aaA:gV 54 x2 fP:=by rw[L8];exact ahZ
       (conv=>whnf)
       repeat(refine bn ?_;conv=>whnf)
      case' refine_2=>
       subst PH
       (conv=>whnf)
       repeat(refine bn ?_;conv=>whnf)
       refine fK (λwZ=>?_) (λwZ=>?_)
      case' refine_2.refine_2=>
       (conv=>whnf)
       repeat(refine bn ?_;conv=>whnf)
       exact eG c7 _ _ ⟨by simp only[List.length_append,List.length_singleton];omega,dQ,fi,fr⟩ (by kernel_rfl)
      case' refine_2.refine_1=>
       (conv=>whnf)
       repeat(refine bn ?_;conv=>whnf)
       refine aK (Ay Q bi N hp c7.2.1 c7.2.2.1 c7.2.2.2 fr) ?_;rintro v A ⟨⟨on,rfl,lM⟩,zc,j8,lT,Mj,ass,rfl⟩;have pV:lT<=next:=Y
       (conv=>whnf)
       repeat(refine bn ?_;conv=>whnf)
       refine aK (JM Q 5 ck f.fk t aI.fk al) ?_;rintro v A ⟨rfl,cC,rfl⟩
       (conv=>whnf)
       repeat(refine bn ?_;conv=>whnf)
       refine f4 (eD (λaaY=>?_) (λaaY=>?_))
      case' refine_2.refine_1.refine_2=>
       (conv=>whnf)
       repeat refine bn ?_;(conv=>whnf)
       exact eG (c7.1,j8,lT,zc) _ _ ⟨by simp only[List.length_append,List.length_singleton];omega,dQ,pV,Mj⟩ (by kernel_rfl)
      case' refine_2.refine_1.refine_1=>
       subst aaY;obtain⟨x2,L8⟩:∃x2:Nat,x2=108:=⟨_,rfl⟩;have aZ:j8=j8:=rfl;have aN:lT=lT:=rfl;have c9:zc=zc:=rfl;rw[mj on];obtain⟨fP,mo⟩:∃l:List ai,l=[on]:=⟨_,rfl⟩;rw[<-mo];have aoe:fP.length=f.fg.length:=by rw[mo,<-Pd,<-my];exact wZ.symm
       have Ck:∀t∈fP,GT (ck+4) t:=λt h=>by rw[mo] at h;rw[List.mem_singleton.1 h];exact lM.mono Y
       have aaA:gV 54 x2 fP:=.inr (by rw[L8])
       (conv=>whnf)
       repeat refine bn ?_;(conv=>whnf)
      all_goals
       have xo:(fP.map ai.row).length=fP.length:=bW
       refine ahz cX.row f.fg 39 (λ_ (ok:Bool)=>[(12,.J (.aQ x2 (fP.map ai.row))),(13,.J (.bool ok))]) (λ_ _=>[(5,.box 54 2 (.cc t.cells)),(8,ms),(12,.box 34 9 (.cc y.cells)),(14,.box 109 20 (.cc (dI.row f))),(900,.arr 61 11 (c7.1.map o9.row) true),(1000,iA N j8 lT),(1001,dH g ab zc)]) (λ_ _=>True) ⟨true,trivial,by cases aZ;cases aN;cases c9;cases L8;kernel_rfl⟩ (λd6 ok z RH aku aid apr ab3 afR amu=>?_) (λok aku afR=>?_)
       .have aso:d6.length<f.fg.length:=Y;have bO:=aI.ge z (by simp [aid]);have aV:=apr;have ad:=ab3;unfold cX.row at ad;have dV:(z.dZ.map cu).length=z.dZ.length:=bW;have lF:=bO.len;have acK:d6.length<(fP.map ai.row).length:=Y;have⟨dP,ao3,acr⟩:=nW ai.row acK;rw[ai.dF] at acr;refine dx ?_;refine gG cu z.dZ 43 (λ_ (ok:Bool)=>[(13,.J (.bool ok))]) (λ_ _=>[(5,.box 54 2 (.cc t.cells)),(8,ms),(12,.box 34 9 (.cc y.cells)),(14,.box 109 20 (.cc (dI.row f))),(21,.box 104 2 (.cc z.row)),(900,.arr 61 11 (c7.1.map o9.row) true),(1000,iA N j8 lT),(1001,dH g ab zc)]) (λ_ _=>True) ⟨ok,trivial,by kernel_rfl⟩ (λaqB ok s aqZ ahG HH KY Rk ajW acD=>?_) (λok ahG ajW=>?_)
        .have asf:aqB.length<z.dZ.length:=Y;unfold cu at Rk;cases ok with
         |false=>
          (conv=>whnf)
          repeat(first|refine .yes (cZ.2 KY) ?_|refine⟨KY,⟨_,Rk,?_⟩⟩|refine bn ?_);(conv=>whnf)
          exact acD false _ _ trivial (by kernel_rfl)
         |true=>
          (conv=>whnf)
          repeat(first|refine .yes (cZ.2 KY) ?_|refine⟨KY,⟨_,Rk,?_⟩⟩|refine⟨acK,⟨_,acr,?_⟩⟩|refine bn ?_);(conv=>whnf)
          refine aK (SY Q N.W hp.cf hp.dg N.ig N.gZ N.G Y hp.ge (ck+4) Y s dP (Ck dP ao3)) ?_;rintro v A ⟨rfl,aa0,rfl⟩
          (conv=>whnf)
          repeat refine bn ?_;(conv=>whnf)
          exact acD aa0 _ _ trivial (by kernel_rfl)
        .refine de ?_;exact amu ok _ _ trivial (by kernel_rfl)
       .refine de ?_;refine eD (λaW=>?_) (λaW=>?_)
        .refine b8 ?_;exact eG (c7.1++[⟨y.aR++[46]++f.aR,x2,fP⟩],j8,lT,zc) _ _ ⟨by simp only[List.length_append,List.length_singleton];omega,λc aw=>by
          rcases List.mem_append.1 aw with aw|aw
          .exact dQ c aw
          .rw[List.mem_singleton.1 aw];exact⟨by simp only[List.length_append,List.length_singleton];omega,by show fP.length<=5;omega,Ck,aaA⟩,pV,Mj⟩ (by rw[List.map_append];kernel_rfl)
        ·(conv=>whnf)
         repeat refine bn ?_;(conv=>whnf)
         exact eG (c7.1,j8,lT,zc) _ _ ⟨by simp only[List.length_append,List.length_singleton];omega,dQ,pV,Mj⟩ (by kernel_rfl)
   .have⟨dD,dQ,fi,fr⟩:=dp;have dD:c7.1.length<=100*aG.length+y.funcs.length:=dD;refine de ?_;exact bC c7 _ _ ⟨by simp only[List.length_append,List.length_singleton];omega,dQ,fi,fr⟩ (by kernel_rfl)
 .have⟨dD,dQ,fi,fr⟩:=bo;have dD:b.1.length<=100*N.W.length:=dD;have bq:(b.1.map o9.row).length=b.1.length:=bW;refine de ?_;refine fK (λafD=>?_) (λafD=>?_)
  .refine b8 ?_;exact⟨⟨aj.nil,false,rfl,q7.mono Y⟩,b.2.2.2,b.2.1,b.2.2.1,fr,Y,rfl⟩
  refine aG ?_;refine aK (fR Q bi b.2.2.2 (b.1.map o9.row).length fr Y Y) ?_;rintro v A ⟨⟨r,rfl,ad⟩,a2,fU,rfl⟩;have⟨c,IW,Zl⟩:=QF o9.row ad;have Bx:=dQ c IW;have asA:=Bx.aR;unfold o9.row at Zl
  (conv=>whnf)
  repeat(first|refine gz.mk ad ?_|refine⟨_,Zl,?_⟩|refine bn ?_);(conv=>whnf)
  refine aK (afy Q N.W hp.cf hp.dg N.ig c.aR Y) ?_;rintro v A ⟨rfl,f,aqV,rfl,aI⟩;have aS:(f.fg.map cX.row).length=f.fg.length:=bW;have bU:=aI.gl;refine b8 ?_;refine gG cX.row f.fg 49 (λ_ (_:List bM)=>[(19,.bQ 902)]) (λ_ jP=>[(8,ms),(24,.box 61 11 (.cc (o9.row c))),(25,.box 109 20 (.cc (dI.row f))),(902,.arr 9 1 (jP.map cu) true),(1000,iA N b.2.1 b.2.2.1),(1001,dH g ab a2)]) (λd4 jP=>jP.length=d4.length) ⟨[],rfl,by kernel_rfl⟩ (λd4 jP z lS xl CR yE tG oj qo=>?_) (λjP xl oj=>?_)
  .have U3:d4.length<f.fg.length:=Y;have my:(jP.map cu).length=jP.length:=bW;have aV:=yE;have ad:=tG;unfold cX.row at ad;refine tl ?_;exact qo (jP++[z.aR]) _ _ (by simp [oj]) (by rw[List.map_append];kernel_rfl)
  .have Pd:jP.length=f.fg.length:=oj;refine de ?_;refine aK (alR Q bi N V ck L d m f2 aw gr cn aJ fZ hm kp bR f.g2 f.args aI.iE aI.lb _ jP Y c.g c.bX (by have:=Bx.len;omega) Bx.bK ef b.2.1 b.2.2.1 a2 fU Y) ?_;rintro v A ⟨⟨Rf,kT,rfl,al9⟩,a3,dh,dV,eA,l4,rfl⟩;refine b8 ?_;exact⟨⟨_,true,aj.Fc rfl mv l9 rfl,kl ag Bx.aR ag ag ⟨Bx.len,λt h=>(Bx.bK t h).mono Y,Bx.yY⟩ jT.nil j5.nil al9⟩,a3,dh,dV,eA,Y,rfl⟩
end
end Go.Tx
