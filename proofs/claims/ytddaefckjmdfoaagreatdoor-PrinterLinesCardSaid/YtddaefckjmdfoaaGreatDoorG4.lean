/- Part of the proof of PrinterLines. -/
import Derived.Test.YtddaefckjmdfoaaGreatDoorG3
set_option linter.all false
namespace Go.Tx
open Go Go.Ev
set_option maxRecDepth 100000
set_option maxHeartbeats 8000000
attribute [local irreducible] jJ mb bj lQ kS nj ie fe
section
variable{C:Nat->cG}{ext:Nat->Option e0}{ab:fD}(Q:Env C ext ab)
include Q
variable{g:Nat}
variable(bi:l6 ab)(N:rY)(V:List cD)(ck L d m f2:Nat)(aw:sg N V ck L)(gr:ck<=300)(cn:L<=1000)(aJ:0<d)(fZ:d<=100)(hm:0<m)(kp:4<=f2)(bR:sO C g ab (d - 1) m (ck+10) (L+10) f2)
include bi aw gr cn aJ fZ hm kp bR
theorem vo(t)(al:GT ck t)(ef left next a)(aD:a<=ab.length)(aB:next+400*m<=1000000000000000):bj C [] 126 [.bH 1000 0,.J (.agg t.cells),.J (.aQ ef (V.map cD.row)),.J (.int 3 d)] [(1000,iA N left next),(1001,dH g ab a)] (Made N g ab (next+195*m) λv=>∃e,v=.agg (aj.cells e)/\GE (f2+1) e):=by
 refine Q.z 126 (tQ [(1,⟨[29],[],[⟨true,10,7,900,61,11⟩],[5,8,10,900,1000,1001]⟩),(3,⟨[13,14,34,35,36],[],[⟨true,14,5,900,9,1⟩,⟨true,14,7,901,61,11⟩],[5,8,12,14,900,901,1000,1001]⟩),(5,⟨[15,40,41],[],[⟨true,14,5,900,9,1⟩,⟨true,14,7,901,61,11⟩],[5,8,12,14,900,901,1000,1001]⟩),(7,⟨[16,45,46],[],[],[5,8,12,1000,1001]⟩),(9,⟨[21,51],[],[⟨true,25,7,900,61,11⟩],[5,8,22,25,900,1000,1001]⟩)]) rfl rfl ?_;have hp:=aw.ok;have iG:=aw.up (xF:=ck+10) (fX:=L+10) Y Y;have Bb:=al.aR;have tx:=aw.tx;have nh:∀(x:ai),GT 5 x->GT (ck+10) x:=λx h=>h.mono Y;have zd:=al.mono (M:=ck+10) Y;have wG:GT (ck+10) (ai.mk [73,110,116] 1 []):=GT.nil ag ag Y
 (conv=>whnf)
 repeat(refine bn ?_;conv=>whnf)
 refine cC (λh=>?_) (λh=>?_)
 ·(conv=>whnf)
  repeat(refine bn ?_;conv=>whnf)
  refine aK (ah8 Q bi N V ck L d m f2 aw gr cn aJ fZ hm kp bR ef left next a aD aB) ?_;rintro v A ⟨⟨e,rfl,ar⟩,a3,dh,dV,eA,l4,rfl⟩
  (conv=>whnf)
  repeat(refine b9 ?_;conv=>whnf)
  exact⟨⟨e,rfl,ar⟩,a3,dh,dV,eA,Y,rfl⟩
 (conv=>whnf)
 repeat(refine bn ?_;conv=>whnf)
 refine cC (λh=>?_) (λh=>?_)
 ·(conv=>whnf)
  repeat(refine bn ?_;conv=>whnf)
  refine aK (ou Q _) ?_;rintro v A ⟨rfl,rfl⟩
  (conv=>whnf)
  repeat(refine bn ?_;conv=>whnf)
  refine aK (bR N V iG _ wG ef left next a aD Y) ?_;rintro v A ⟨⟨e,rfl,ar⟩,a3,dh,dV,eA,l4,rfl⟩
  (conv=>whnf)
  repeat(refine b9 ?_;conv=>whnf)
  exact⟨⟨_,aj.agg o7 mv l9 (pS e),kl ag ag ag ag jc.nil jT.nil j5.nil (jW.one ag ar)⟩,a3,dh,dV,eA,Y,rfl⟩
 (conv=>whnf)
 repeat(refine bn ?_;conv=>whnf)
 refine cC (λh=>?_) (λh=>?_)
 ·(conv=>whnf)
  repeat(refine bn ?_;conv=>whnf)
  refine aK (fR Q bi a 2 aD ag ag) ?_;rintro v A ⟨⟨r,rfl,ad⟩,bN,gk,rfl⟩
  (conv=>whnf)
  repeat(refine bn ?_;conv=>whnf)
  refine fK (λh=>?_) (λh=>?_)
  ·(conv=>whnf)
   repeat(refine bn ?_;conv=>whnf)
   refine aK (ou Q _) ?_;rintro v A ⟨rfl,rfl⟩
   (conv=>whnf)
   repeat(refine bn ?_;conv=>whnf)
   refine aK (bR N V iG _ wG ef left next bN gk Y) ?_;rintro v A ⟨⟨e,rfl,ar⟩,a3,dh,dV,eA,l4,rfl⟩
   (conv=>whnf)
   repeat(refine bn ?_;conv=>whnf)
   refine aK (ou Q _) ?_;rintro v A ⟨rfl,rfl⟩
   (conv=>whnf)
   repeat(refine bn ?_;conv=>whnf)
   refine aK (bR N V iG _ wG ef dh dV a3 eA Y) ?_;rintro v A ⟨⟨aN,rfl,eu⟩,a4,fj,gO,ik,qs,rfl⟩
   (conv=>whnf)
   repeat(refine b9 ?_;conv=>whnf)
   exact⟨⟨_,aj.agg o7 mv l9 (mQ e aN),kl ag ag ag ag jc.nil jT.nil j5.nil (jW.two ag ar eu)⟩,a4,fj,gO,ik,Y,rfl⟩
  ·(conv=>whnf)
   repeat(refine bn ?_;conv=>whnf)
   refine aK (Ay Q bi N hp left next bN gk) ?_;rintro v A ⟨⟨on,rfl,lM⟩,a2,cH,cB,fU,kY,rfl⟩
   (conv=>whnf)
   repeat(refine bn ?_;conv=>whnf)
   refine aK (bR N V iG on (lM.mono Y) ef cH cB a2 fU Y) ?_;rintro v A ⟨⟨e,rfl,ar⟩,a3,dh,dV,eA,l4,rfl⟩
   (conv=>whnf)
   repeat(refine bn ?_;conv=>whnf)
   refine aK (bR N V iG on (lM.mono Y) ef dh dV a3 eA Y) ?_;rintro v A ⟨⟨aN,rfl,eu⟩,a4,fj,gO,ik,qs,rfl⟩
   (conv=>whnf)
   repeat(refine b9 ?_;conv=>whnf)
   exact⟨⟨_,aj.agg o7 mv l9 (mQ e aN),kl ag ag ag ag jc.nil jT.nil j5.nil (jW.two ag ar eu)⟩,a4,fj,gO,ik,Y,rfl⟩
 (conv=>whnf)
 repeat(refine bn ?_;conv=>whnf)
 refine cC (λh=>?_) (λh=>?_)
 .have⟨dS,fw⟩:=GJ al h;have⟨y,ap,ad⟩:=nW ai.row dS;have UO:=(fw y ap).mono (M:=ck+10) Y;rw[ai.dF] at ad
  (conv=>whnf)
  repeat(refine bn ?_;conv=>whnf)
  refine aK (wv Q bi a 3 aD ag ag) ?_;rintro v A ⟨⟨N0,rfl⟩,bN,gk,rfl⟩
  (conv=>whnf)
  repeat(refine bn ?_;conv=>whnf)
  refine eD (λh=>?_) (λh=>?_)
  ·(conv=>whnf)
   repeat((first|refine⟨dS,⟨_,ad,?_⟩⟩|refine bn ?_);(conv=>whnf))
   refine aK (bR N V iG t zd ef left next bN gk Y) ?_;rintro v A ⟨⟨e,rfl,ar⟩,a3,dh,dV,eA,l4,rfl⟩
   (conv=>whnf)
   repeat((first|refine⟨dS,⟨_,ad,?_⟩⟩|refine bn ?_);(conv=>whnf))
   refine aK (bR N V iG y UO ef dh dV a3 eA Y) ?_;rintro v A ⟨⟨aN,rfl,eu⟩,a4,fj,gO,ik,qs,rfl⟩
   (conv=>whnf)
   repeat(refine b9 ?_;conv=>whnf)
   exact⟨⟨_,aj.agg o7 mv l9 (mQ e aN),kl ag ag ag ag jc.nil jT.nil j5.nil (jW.two ag ar eu)⟩,a4,fj,gO,ik,Y,rfl⟩
  ·(conv=>whnf)
   repeat((first|refine⟨dS,⟨_,ad,?_⟩⟩|refine b9 ?_);(conv=>whnf))
   refine aK (fR Q bi bN 4 gk ag ag) ?_;rintro v A ⟨⟨r,rfl,tG⟩,a2,fU,rfl⟩
   (conv=>whnf)
   repeat(refine b9 ?_;conv=>whnf)
   refine Ta (α:=Nat×List aj×Nat×Nat×Nat) (λb=>[(8,.J (.int 3 b.1))]) (λb=>[(5,.box 54 2 (.cc t.cells)),(8,ms),(10,.box 61 11 (.bE [.J (.int 3 16),.J (.str []),.J (.str []),.J (.int 3 0),.J (.aQ 108 [y.cells]),.bT,.bT,.bQ 900,.J (.str []),.bT,.J (.int 3 0)])),(900,.arr 61 11 (b.2.1.map aj.row) true),(1000,iA N b.2.2.1 b.2.2.2.1),(1001,dH g ab b.2.2.2.2)]) (λb=>b.1) (λb=>b.2.1.length+b.1<=3/\(∀k∈b.2.1,GE f2 k)/\b.2.2.2.1<=next+b.2.1.length*m/\b.2.2.2.2<=ab.length) ⟨(r,[],left,next,a2),⟨by show 0+r<=3;omega,(λ_ h=>by cases h),by show next<=next+0*m;omega,fU⟩,by kernel_rfl⟩ ?_;intro b ba bo bC;have⟨dD,dQ,fi,fr⟩:=bo;have bq:(b.2.1.map aj.row).length=b.2.1.length:=bW;have aS:b.2.1.length*m<=3*m:=Nat.mul_le_mul_right _ Y;have bU:(b.2.1.length+1)*m=b.2.1.length*m+m:=Nat.succ_mul ..
   (conv=>whnf)
   repeat(refine b9 ?_;conv=>whnf)
   refine eT (λh=>?_) (λh=>?_)
   ·(conv=>whnf)
    repeat((first|refine⟨dS,⟨_,ad,?_⟩⟩|refine b9 ?_);(conv=>whnf))
    refine aK (bR N V iG y UO ef _ _ _ fr Y) ?_;rintro v A ⟨⟨e,rfl,jd⟩,a3,dh,dV,eA,l4,rfl⟩
    (conv=>whnf)
    repeat(refine b9 ?_;conv=>whnf)
    exact bC (b.1 - 1,b.2.1++[e],dh,dV,a3) _ _ (by show b.1 - 1<b.1;omega) ⟨by show(b.2.1++[e]).length+(b.1 - 1)<=3;simp only[List.length_append,List.length_singleton];omega,λy ap=>by
     rcases List.mem_append.1 ap with ap|ap
     .exact dQ y ap
     .rw[List.mem_singleton.1 ap];exact jd,by show dV<=next+(b.2.1++[e]).length*m;simp only[List.length_append,List.length_singleton];omega,eA⟩ (by rw[List.map_append,List.map_singleton,aj.dF];kernel_rfl)
   ·(conv=>whnf)
    repeat(refine b9 ?_;conv=>whnf)
    exact⟨⟨_,aj.agg (mj y) mv l9 rfl,kl ag ag ag ag (jc.one ag UO Y) jT.nil j5.nil ⟨Y,dQ,.inr ag⟩⟩,b.2.2.2.2,b.2.2.1,b.2.2.2.1,fr,Y,rfl⟩
 (conv=>whnf)
 repeat(refine bn ?_;conv=>whnf)
 refine aK (MR Q N.W hp.cf hp.dg N.ig t.aR Y) ?_;rintro v A ⟨rfl,s,TW,rfl,ak⟩;have bQ:(s.fields.map eF.row).length=s.fields.length:=bW;have Sc:=ak.f6;have fF:=ak.pl;have oa:=GT.Fi al
 (conv=>whnf)
 repeat(refine bn ?_;conv=>whnf)
 refine eD (λai8=>?_) (λai8=>?_);case' refine_2=>
  (conv=>whnf)
  repeat(refine bn ?_;conv=>whnf)
 case' refine_1=>
  (conv=>whnf)
  repeat' ((first|(refine aK (EH Q bi N left next a aD t.aR Y) ?_;rintro v A ⟨rfl,t0,rfl⟩)|(refine aK (fR Q bi a 4 aD ag ag) ?_;rintro v A ⟨⟨r,rfl,ad⟩,a,aD,rfl⟩)|refine b9 ?_|((with_reducible first|apply eT|apply iN|apply fK|apply cC|apply f4|apply kC|apply kB|apply eD)<;>intros))<;>(conv=>whnf))
 all_goals try
  refine gG (aU:=[5,8,12,14,900,901,1000,1001]) eF.row s.fields 33 (λ_ (_:List bM×List aj×Nat×Nat×Nat)=>[]) (λ_ b=>[(5,.box 54 2 (.cc t.cells)),(8,ms),(12,.box 44 6 (.cc (ec.row s))),(14,.box 61 11 (.bE [.J (.int 3 11),.J (.str t.aR),.J (.str []),.J (.int 3 0),.J (.aQ t.g (t.l.map ai.row)),.bQ 900,.bT,.bQ 901,.J (.str []),.bT,.J (.int 3 0)])),(900,.arr 9 1 (b.1.map cu) true),(901,.arr 61 11 (b.2.1.map aj.row) true),(1000,iA N b.2.2.1 b.2.2.2.1),(1001,dH g ab b.2.2.2.2)]) (λaG b=>b.1.length<=aG.length/\(∀s∈b.1,s.length<=100)/\b.2.1.length<=aG.length/\(∀k∈b.2.1,GE f2 k)/\b.2.2.2.1<=next+(aG.length)*m/\b.2.2.2.2<=ab.length) ⟨([],[],left,next,a),⟨by simp,(λ_ h=>by cases h),by simp,(λ_ h=>by cases h),by simp,aD⟩,by kernel_rfl⟩ (λaG b f r ba ar aV ad bo bC=>?_) (λb ba bo=>?_)
  .have⟨dD,dQ,fi,fr,lY,tW⟩:=bo;have bq:(b.1.map cu).length=b.1.length:=bW;have aS:(b.2.1.map aj.row).length=b.2.1.length:=bW;have jE:aG.length<s.fields.length:=Y;have bU:aG.length*m<=5*m:=Nat.mul_le_mul_right _ Y;have cU:(aG.length+1)*m=aG.length*m+m:=Nat.succ_mul ..;have YM:f∈s.fields:=by simp [ar]
   unfold eF.row at ad;obtain⟨a9,iQ,uR⟩:∃a9,a9<=ab.length/\a9=b.2.2.2.2:=⟨_,tW,rfl⟩;rw[<-uR]
   (conv=>whnf)
   repeat((first|refine .yes (cZ.2 aV) ?_|refine⟨aV,⟨_,ad,?_⟩⟩|refine b9 ?_);(conv=>whnf))
   refine eT (λB=>?_) (λB=>?_);case' refine_2=>
    (conv=>whnf)
    repeat(refine b9 ?_;conv=>whnf)
   case' refine_1=>
    (conv=>whnf)
    repeat(refine bn ?_;conv=>whnf)
    refine aK (agG Q bi a9 iQ) ?_;rintro v A ⟨⟨Rm,rfl⟩,a9,iQ,rfl⟩
    (conv=>whnf)
    repeat(refine bn ?_;conv=>whnf)
    refine eD (λF=>?_) (λF=>?_)
   case' refine_1.refine_1=>
    have fv:(s.fields.map eF.row).length - 1 - aG.length<(s.fields.map eF.row).length:=Y;have⟨f,YM,eM⟩:=nW eF.row fv;have eM:ib (s.fields.map eF.row) ((s.fields.map eF.row).length - 1 - aG.length)=[.bool f.jj,.str f.aR,.str f.bK.aR,.aQ f.bK.g (f.bK.l.map ai.row)]:=eM
    (conv=>whnf)
    repeat((first|refine⟨fv,⟨_,eM,?_⟩⟩|refine b9 ?_);(conv=>whnf))
   case' refine_1.refine_2=>
    (conv=>whnf)
    repeat(refine b9 ?_;conv=>whnf)
   all_goals
    have AI:=ak.kq f YM
    refine aK (GD Q _ b.1 f.aR Y) ?_
    rintro v A ⟨rfl,SL,rfl⟩
    (conv=>whnf)
    repeat(refine b9 ?_;conv=>whnf)
    refine eD (λF=>?_) (λF=>?_)
    ·(conv=>whnf)
     repeat(refine b9 ?_;conv=>whnf)
     exact bC (b.1,b.2.1,b.2.2.1,b.2.2.2.1,a9) _ _ ⟨by simp only[List.length_append,List.length_singleton];omega,dQ,by simp only[List.length_append,List.length_singleton];omega,fr,by simp only[List.length_append,List.length_singleton];omega,iQ⟩ (by kernel_rfl)
    ·(conv=>whnf)
     repeat(refine b9 ?_;conv=>whnf)
     refine aK (wS Q ck 5 Y ag f.bK AI.bK s.g1 t.g s.params t.l Y Y (GT.sub al)) ?_;rintro v A ⟨rfl,jZ,rfl,o3⟩
     (conv=>whnf)
     repeat(refine b9 ?_;conv=>whnf)
     refine aK (bR N V iG jZ (o3.mono Y) ef _ _ _ iQ Y) ?_;rintro v A ⟨⟨e,rfl,jd⟩,a4,fj,uw,ik,qs,rfl⟩
     (conv=>whnf)
     repeat(refine b9 ?_;conv=>whnf)
     exact bC (b.1++[f.aR],b.2.1++[e],fj,uw,a4) _ _ ⟨by simp only[List.length_append,List.length_singleton];omega,λy ap=>by
      rcases List.mem_append.1 ap with ap|ap
      .exact dQ y ap
      .rw[List.mem_singleton.1 ap];exact AI.aR,by simp only[List.length_append,List.length_singleton];omega,λy ap=>by
      rcases List.mem_append.1 ap with ap|ap
      .exact fr y ap
      .rw[List.mem_singleton.1 ap];exact jd,by simp only[List.length_append,List.length_singleton];omega,ik⟩ (by rw[List.map_append,List.map_append,List.map_singleton,List.map_singleton,aj.dF];kernel_rfl)
  .have⟨dD,dQ,fi,fr,lY,tW⟩:=bo;have dD:b.1.length<=s.fields.length:=dD;have fi:b.2.1.length<=s.fields.length:=fi;have lY:b.2.2.2.1<=next+s.fields.length*m:=lY
   (conv=>whnf)
   repeat((first|refine .no (lZ _) ?_|refine bn ?_);(conv=>whnf))
   refine gG (aU:=[5,8,12,14,900,901,1000,1001]) eF.row s.fields 39 (λ_ (_:List bM×List aj×Nat×Nat×Nat)=>[]) (λ_ b=>[(5,.box 54 2 (.cc t.cells)),(8,ms),(12,.box 44 6 (.cc (ec.row s))),(14,.box 61 11 (.bE [.J (.int 3 11),.J (.str t.aR),.J (.str []),.J (.int 3 0),.J (.aQ t.g (t.l.map ai.row)),.bQ 900,.bT,.bQ 901,.J (.str []),.bT,.J (.int 3 0)])),(900,.arr 9 1 (b.1.map cu) true),(901,.arr 61 11 (b.2.1.map aj.row) true),(1000,iA N b.2.2.1 b.2.2.2.1),(1001,dH g ab b.2.2.2.2)]) (λaG b=>b.1.length<=s.fields.length+aG.length/\(∀s∈b.1,s.length<=100)/\b.2.1.length<=s.fields.length+aG.length/\(∀k∈b.2.1,GE f2 k)/\b.2.2.2.1<=next+s.fields.length*m+aG.length*m/\b.2.2.2.2<=ab.length) ⟨b,⟨dD,dQ,fi,fr,by simpa using lY,tW⟩,by kernel_rfl⟩ (λaG hC f r amc ar aV ad Ua ZI=>?_) (λhC amc Ua=>?_)
   .have⟨dr,c3,dY,e9,f9,xU⟩:=Ua;have bq:(hC.1.map cu).length=hC.1.length:=bW;have aS:(hC.2.1.map aj.row).length=hC.2.1.length:=bW;have jE:aG.length<s.fields.length:=Y;have bU:aG.length*m<=5*m:=Nat.mul_le_mul_right _ Y;have eI:s.fields.length*m<=6*m:=Nat.mul_le_mul_right _ Y;have cU:(aG.length+1)*m=aG.length*m+m:=Nat.succ_mul ..;have AI:=ak.kq f (by simp [ar]);unfold eF.row at ad
    (conv=>whnf)
    repeat((first|refine .yes (cZ.2 aV) ?_|refine⟨aV,⟨_,ad,?_⟩⟩|refine b9 ?_);(conv=>whnf))
    refine aK (GD Q _ hC.1 f.aR Y) ?_;rintro v A ⟨rfl,SL,rfl⟩
    (conv=>whnf)
    repeat(refine b9 ?_;conv=>whnf)
    refine f4 (eD (λF=>?_) (λF=>?_))
    ·(conv=>whnf)
     repeat(refine b9 ?_;conv=>whnf)
     exact ZI hC _ _ ⟨by simp only[List.length_append,List.length_singleton];omega,c3,by simp only[List.length_append,List.length_singleton];omega,e9,by simp only[List.length_append,List.length_singleton];omega,xU⟩ (by kernel_rfl)
    ·(conv=>whnf)
     repeat(refine b9 ?_;conv=>whnf)
     refine aK (wS Q ck 5 Y ag f.bK AI.bK s.g1 t.g s.params t.l Y Y (GT.sub al)) ?_;rintro v A ⟨rfl,jZ,rfl,o3⟩
     (conv=>whnf)
     repeat(refine b9 ?_;conv=>whnf)
     refine aK (bR N V iG jZ (o3.mono Y) ef _ _ _ xU Y) ?_;rintro v A ⟨⟨e,rfl,jd⟩,a4,fj,uw,ik,qs,rfl⟩
     (conv=>whnf)
     repeat(refine b9 ?_;conv=>whnf)
     exact ZI (hC.1++[f.aR],hC.2.1++[e],fj,uw,a4) _ _ ⟨by simp only[List.length_append,List.length_singleton];omega,λy ap=>by
      rcases List.mem_append.1 ap with ap|ap
      .exact c3 y ap
      .rw[List.mem_singleton.1 ap];exact AI.aR,by simp only[List.length_append,List.length_singleton];omega,λy ap=>by
      rcases List.mem_append.1 ap with ap|ap
      .exact e9 y ap
      .rw[List.mem_singleton.1 ap];exact jd,by simp only[List.length_append,List.length_singleton];omega,ik⟩ (by rw[List.map_append,List.map_append,List.map_singleton,List.map_singleton,aj.dF];kernel_rfl)
   .have⟨dr,c3,dY,e9,f9,xU⟩:=Ua;have dr:hC.1.length<=s.fields.length+s.fields.length:=dr;have dY:hC.2.1.length<=s.fields.length+s.fields.length:=dY;have f9:hC.2.2.2.1<=next+s.fields.length*m+s.fields.length*m:=f9
    have eI:s.fields.length*m<=6*m:=Nat.mul_le_mul_right _ Y
    (conv=>whnf)
    repeat((first|refine .no (lZ _) ?_|refine bn ?_);(conv=>whnf))
    exact⟨⟨_,aj.agg rfl rfl l9 rfl,kl ag Bb ag ag (jc.of al Y) ⟨Y,λs h=>by have:=c3 s h;omega,.inr ag⟩ j5.nil ⟨Y,e9,.inr ag⟩⟩,hC.2.2.2.2,hC.2.2.1,hC.2.2.2.1,xU,Y,rfl⟩
 all_goals try
  refine gG (aU:=[5,8,12,1000,1001]) eF.row s.fields 44 (λ_ (_:Nat)=>[]) (λ_ a=>[(5,.box 54 2 (.cc t.cells)),(8,ms),(12,.box 44 6 (.cc (ec.row s))),(1000,iA N left next),(1001,dH g ab a)]) (λaG a=>a<=ab.length) ⟨a,aD,by kernel_rfl⟩ (λaG b f r ba ar aV ad bo bC=>?_) (λa ba aD=>?_)
  .have jE:aG.length<s.fields.length:=Y;have AI:=ak.kq f (by simp [ar]);have asl:=AI.aR;unfold eF.row at ad
   (conv=>whnf)
   repeat' ((first|refine .yes (cZ.2 aV) ?_|refine⟨aV,⟨_,ad,?_⟩⟩|(refine aK (EH Q bi N left next b bo t.aR Y) ?_;rintro v A ⟨rfl,t0,rfl⟩)|(refine aK (fR Q bi b 2 bo ag ag) ?_;rintro v A ⟨⟨r,rfl,I1⟩,a9,iQ,rfl⟩)|refine b9 ?_|((with_reducible first|apply eT|apply iN|apply fK|apply cC|apply f4|apply kC|apply kB|apply eD)<;>intros))<;>(conv=>whnf))
   all_goals try first|exact bC a9 _ _ iQ (by kernel_rfl)|exact bC b _ _ bo (by kernel_rfl)
   all_goals
    refine aK (bR N V iG t zd ef left next a9 iQ Y) ?_
    rintro v A ⟨⟨e,rfl,jd⟩,a4,fj,uw,ik,qs,rfl⟩
    (conv=>whnf)
    repeat(refine b9 ?_;conv=>whnf)
    refine aK (wS Q ck 5 Y ag f.bK AI.bK s.g1 t.g s.params t.l Y Y (GT.sub al)) ?_
    rintro v A ⟨rfl,jZ,rfl,o3⟩
    (conv=>whnf)
    repeat(refine b9 ?_;conv=>whnf)
    refine aK (bR N V iG jZ (o3.mono Y) ef fj uw a4 ik Y) ?_
    rintro v A ⟨⟨aN,rfl,ama⟩,a5,fP,FA,nK,Qo,rfl⟩
    (conv=>whnf)
    repeat(refine b9 ?_;conv=>whnf)
    exact⟨⟨_,aj.agg (fM:=[f.aR]) o7 rfl l9 (mQ e aN),kl ag ag ag ag jc.nil (jT.one ag Y) j5.nil (jW.two ag jd ama)⟩,a5,fP,FA,nK,Y,rfl⟩
  (conv=>whnf)
  repeat((first|refine .no (lZ _) ?_|refine bn ?_);(conv=>whnf))
 all_goals
  refine aK (NZ Q N.W hp.cf hp.dg N.ig t.aR Y) ?_
  rintro v A ⟨rfl,u,Ja,rfl,hu⟩
  have Zz:(u.cases.map eP.row).length=u.cases.length:=bW
  have WZ:=hu.lp
  have up:=hu.pl
  (conv=>whnf)
  repeat(refine bn ?_;conv=>whnf)
  cases Ja
  case' true=>
   refine .yes rfl ?_
   (conv=>whnf)
   repeat(refine bn ?_;conv=>whnf)
   refine eT (λhI=>?_) (λhI=>?_)
  case' true.refine_1=>
   (conv=>whnf)
   repeat(refine bn ?_;conv=>whnf)
   refine aK (fR Q bi a (u.cases.map eP.row).length aD Y Y) ?_;rintro v A ⟨⟨r,rfl,ad⟩,bN,gk,rfl⟩;have⟨c,ah3,Pk⟩:=nW eP.row ad;have pr:=hu.ub c ah3;have dz:=pr.aR;have gg:=pr.pl;have dV:(c.f8.map ai.row).length=c.f8.length:=bW;have Pk:ib (u.cases.map eP.row) r=[.bool c.ind,.str c.aR,.aQ c.g (c.f8.map ai.row)]:=Pk
   (conv=>whnf)
   repeat((first|refine⟨ad,⟨_,Pk,?_⟩⟩|refine b9 ?_);(conv=>whnf))
   refine gG (aU:=[5,8,22,25,900,1000,1001]) ai.row c.f8 50 (λ_ (_:List aj×Nat×Nat×Nat)=>[]) (λ_ b=>[(5,.box 54 2 (.cc t.cells)),(8,ms),(22,.box 47 6 (.cc (eg.row u))),(25,.box 61 11 (.bE [.J (.int 3 14),.J (.str []),.J (.str c.aR),.J (.int 3 0),.J (.aQ 108 [t.cells]),.bT,.bT,.bQ 900,.J (.str []),.bT,.J (.int 3 0)])),(900,.arr 61 11 (b.1.map aj.row) true),(1000,iA N b.2.1 b.2.2.1),(1001,dH g ab b.2.2.2)]) (λaG b=>b.1.length=aG.length/\(∀k∈b.1,GE f2 k)/\b.2.2.1<=next+aG.length*m/\b.2.2.2<=ab.length) ⟨([],left,next,bN),⟨rfl,(λ_ h=>by cases h),by simp,gk⟩,by kernel_rfl⟩ (λaG b z lS ba ar aV ad bo bC=>?_) (λb ba bo=>?_)
   .have⟨dr,c3,dY,e9⟩:=bo;have bO:=pr.n7 z (by simp [ar]);have jE:aG.length<c.f8.length:=Y;have bq:(b.1.map aj.row).length=b.1.length:=bW;have aS:aG.length*m<=5*m:=Nat.mul_le_mul_right _ Y;have bU:(aG.length+1)*m=aG.length*m+m:=Nat.succ_mul ..;rw[ai.dF] at ad
    (conv=>whnf)
    repeat((first|refine .yes (cZ.2 aV) ?_|refine⟨aV,⟨_,ad,?_⟩⟩|refine b9 ?_);(conv=>whnf))
    refine aK (wS Q ck 5 Y ag z bO u.g1 t.g u.params t.l Y Y (GT.sub al)) ?_;rintro v A ⟨rfl,jZ,rfl,o3⟩
    (conv=>whnf)
    repeat(refine b9 ?_;conv=>whnf)
    refine aK (bR N V iG jZ (o3.mono Y) ef _ _ _ e9 Y) ?_;rintro v A ⟨⟨e,rfl,jd⟩,a4,fj,uw,ik,qs,rfl⟩
    (conv=>whnf)
    repeat(refine b9 ?_;conv=>whnf)
    exact bC (b.1++[e],fj,uw,a4) _ _ ⟨by simp [dr],λy ap=>by
     rcases List.mem_append.1 ap with ap|ap
     .exact c3 y ap
     .rw[List.mem_singleton.1 ap];exact jd,by simp only[List.length_append,List.length_singleton];omega,ik⟩ (by rw[List.map_append,List.map_singleton,aj.dF];kernel_rfl)
   .have⟨dr,c3,dY,e9⟩:=bo;have dr:b.1.length=c.f8.length:=dr;have dY:b.2.2.1<=next+c.f8.length*m:=dY
    have aS:c.f8.length*m<=6*m:=Nat.mul_le_mul_right _ Y
    (conv=>whnf)
    repeat((first|refine .no (lZ _) ?_|refine bn ?_);(conv=>whnf))
    exact⟨⟨_,aj.agg (mj t) mv l9 rfl,kl ag ag Y ag (jc.one ag al Y) jT.nil j5.nil ⟨Y,c3,.inr ag⟩⟩,b.2.2.2,b.2.1,b.2.2.1,e9,Y,rfl⟩
  case' false=>refine .no rfl ?_
  all_goals
   (conv=>whnf)
   repeat(refine bn ?_;conv=>whnf)
   refine aK (Ri Q bi N hp ef V Y ck aw.v1 aw.v2 2 ag ck Y t al left next a aD) ?_
   rintro v A ⟨⟨e,rfl,jd⟩,a4,fj,uw,ik,qs,rfl⟩
   (conv=>whnf)
   repeat(refine b9 ?_;conv=>whnf)
   exact⟨⟨e,rfl,jd.mono Y⟩,a4,fj,uw,ik,Y,rfl⟩
end
section
variable{C:Nat->cG}{ext:Nat->Option e0}{ab:fD}(Q:Env C ext ab)
include Q
variable{g:Nat}
variable(bi:l6 ab)
include bi
def Z5(za)(cb:za=0\/za=18446744073709551615)(ck L)(gr:ck<=360)(cn:L<=5000):sO C g ab za 1 ck L 4:=by
 intro N V aw t al ef left next a aD aB
 have hp:=aw.ok;have tx:=aw.tx;refine Q.z 47 cY rfl rfl ?_;rcases cb with rfl|rfl
 all_goals
  refine aG ?_
  refine qk.mW ?_
  refine aG ?_
 all_goals try
  refine l8.mW ?_
  refine aG ?_
  refine .yes (by unfold jJ;decide) ?_
  refine aG ?_
 all_goals
  refine aK (Ri Q bi N hp ef V Y ck aw.v1 aw.v2 2 ag ck Y t al _ next a aD) ?_
  rintro v A ⟨⟨e,rfl,ar⟩,a3,dh,dV,eA,l4,rfl⟩
  refine b8 ?_
  exact⟨⟨e,rfl,ar⟩,a3,dh,dV,eA,Y,rfl⟩
def aiT(d m ck L f2)(aJ:0<d)(fZ:d<=100)(hm:0<m)(gr:ck<=300)(cn:L<=1000)(kp:4<=f2)(bR:sO C g ab (d - 1) m (ck+10) (L+10) f2)(M3:sO C g ab (if d=1 then 18446744073709551615 else d - 2) m (ck+10) (L+10) f2):sO C g ab d (400*m) ck L (f2+1):=by
 intro N V aw t al ef left next a aD aB
 have hp:=aw.ok;have tx:=aw.tx;have iG:=aw.up (xF:=ck+10) (fX:=L+10) Y Y;have zd:=al.mono (M:=ck+10) Y;have wG:GT (ck+10) (ai.mk [73,110,116] 1 []):=GT.nil ag ag Y;have Mo:GT (ck+10) (ai.mk [66,111,111,108] 1 []):=GT.nil ag ag Y;refine Q.z 47 cY rfl rfl ?_;refine aG ?_;refine qk.mW ?_;generalize kS 18446744073709551616 left 1=df
 (conv=>whnf)
 repeat' (first|refine l8.mW ?_|refine cT (aaf Q bi a aD) ?_|refine bn ?_|refine aN ?_|refine s2 ?_ ?_<;>intros|fail)<;>(conv=>whnf)
 all_goals try
  refine aK (Ri Q bi N hp ef V Y ck aw.v1 aw.v2 2 ag ck Y t al df next a aD) ?_
  rintro v A ⟨⟨e,rfl,ar⟩,a3,dh,dV,eA,l4,rfl⟩
  refine b8 ?_
  exact⟨⟨e,rfl,ar.mono Y⟩,a3,dh,dV,eA,Y,rfl⟩
 refine aK (fR Q bi a 14 aD ag ag) ?_;rintro v A ⟨⟨r,rfl,ad⟩,bN,gk,rfl⟩;have:r=0\/r=1\/r=2\/r=3\/r=4\/r=5\/r=6\/r=7\/r=8\/r=9\/r=10\/r=11\/r=12\/r=13:=Y;clear ad;rcases this with rfl|rfl|rfl|rfl|rfl|rfl|rfl|rfl|rfl|rfl|rfl|rfl|rfl|rfl
 all_goals
  refine aG ?_
 have wG:GT (ck+10) (ai.mk [73,110,116] 1 []):=GT.nil ag ag Y;have Mo:GT (ck+10) (ai.mk [66,111,111,108] 1 []):=GT.nil ag ag Y
 .refine aK (Qm Q bi N df next bN gk ck ef V Y aw.v1 aw.v2 ck t al) ?_;rintro v A ⟨⟨x,ok,rfl,I⟩,a3,dh,dV,eA,l4,rfl⟩;refine aG ?_;refine eD (λaW=>?_) (λaW=>?_)
  .refine b8 ?_;exact⟨⟨x,rfl,I.mono Y⟩,a3,dh,dV,eA,Y,rfl⟩
  refine aG ?_;refine aK (vo Q bi N V ck L d m f2 aw gr cn aJ fZ hm kp bR t al ef dh dV a3 eA Y) ?_;rintro v A ⟨⟨e,rfl,ar⟩,a9,mK,n8,iQ,vb,rfl⟩;refine b8 ?_;exact⟨⟨e,rfl,ar⟩,a9,mK,n8,iQ,Y,rfl⟩
 .refine aK (Ay Q bi N hp df next bN gk) ?_;rintro v A ⟨⟨on,rfl,lM⟩,a2,cH,cB,fU,kY,rfl⟩;refine aG ?_;refine aK (Ym Q bi N cH cB a2 fU Y) ?_;rintro v A ⟨rfl,s,rfl,ak⟩;refine aG ?_;refine aK (bR N V iG on (lM.mono Y) ef cH (cB+1) a2 fU Y) ?_;rintro v A ⟨⟨e,rfl,ar⟩,a3,dh,dV,eA,l4,rfl⟩;refine aG ?_;refine aK (WQ Q ef V Y s on) ?_;rintro v A ⟨rfl,ig,rfl⟩;refine aG ?_;have agN:sg N (V++[cD.new s on]) (ck+10) (L+10):=⟨hp,by simp only[gP,EQ];omega,λx I=>by
   rcases jD.1 I with I|I
   .exact(aw.v1 x I).mono Y
   .rw[iF.1 I];exact lM.mono Y,λx I=>by
   rcases jD.1 I with I|I
   .exact aw.v2 x I
   .rw[iF.1 I];show s.length<=100;omega⟩
  refine aK (bR N (V++[cD.new s on]) agN t zd ig dh dV a3 eA Y) ?_;rintro v A ⟨⟨aN,rfl,eu⟩,a4,fj,gO,ik,qs,rfl⟩;refine b8 ?_;exact⟨⟨_,aj.agg o7 mv l9 (mQ e aN),kl ag Y ag ag jc.nil jT.nil j5.nil (jW.two ag ar eu)⟩,a4,fj,gO,ik,Y,rfl⟩
 .refine cj (ou Q _) ?_;refine aK (bR N V iG _ Mo ef df next bN gk Y) ?_;rintro v A ⟨⟨e,rfl,ar⟩,a3,dh,dV,eA,l4,rfl⟩;refine aG ?_;refine aK (bR N V iG t zd ef dh dV a3 eA Y) ?_;rintro v A ⟨⟨aN,rfl,eu⟩,a4,fj,gO,ik,qs,rfl⟩;refine aG ?_;refine aK (bR N V iG t zd ef fj gO a4 ik Y) ?_;rintro v A ⟨⟨c9,rfl,tr⟩,a5,fP,l3,nK,Qo,rfl⟩;refine b8 ?_;exact⟨⟨_,aj.agg o7 mv l9 (Xa e aN c9),kl ag ag ag ag jc.nil jT.nil j5.nil (jW.three ag ar eu tr)⟩,a5,fP,l3,nK,Y,rfl⟩
 .refine aK (Ay Q bi N hp df next bN gk) ?_;rintro v A ⟨⟨on,rfl,lM⟩,a2,cH,cB,fU,kY,rfl⟩;refine aG ?_;refine aK (bR N V iG on (lM.mono Y) ef cH cB a2 fU Y) ?_;rintro v A ⟨⟨e,rfl,ar⟩,a3,dh,dV,eA,l4,rfl⟩;refine aG ?_;refine aK (bR N V iG t zd ef dh dV a3 eA Y) ?_;rintro v A ⟨⟨aN,rfl,eu⟩,a4,fj,gO,ik,qs,rfl⟩;refine b8 ?_;exact⟨⟨_,aj.agg o7 mv l9 (mQ e aN),kl ag ag ag ag jc.nil jT.nil j5.nil (jW.two ag ar eu)⟩,a4,fj,gO,ik,Y,rfl⟩
 .refine aK (wv Q bi bN 4 gk ag ag) ?_;rintro v A ⟨⟨N0,rfl⟩,a2,fU,rfl⟩;refine aG ?_;refine eD (λaW=>?_) (λaW=>?_)
  .refine aG ?_;refine aK (N2 Q bi a2 fU) ?_;rintro v A ⟨⟨x,rfl,I⟩,a3,eA,rfl⟩;refine aG ?_;refine jL (Yg Q t x) ?_;exact⟨⟨_,rfl,kl ag ag ag ag (jc.one ag al Y) jT.nil j5.nil (jW.one ag ((wa ag ag I).mono Y))⟩,a3,df,next,eA,Y,rfl⟩
  refine aG ?_;refine aK (vo Q bi N V ck L d m f2 aw gr cn aJ fZ hm kp bR t al ef df next a2 fU Y) ?_;rintro v A ⟨⟨e,rfl,ar⟩,a9,mK,n8,iQ,vb,rfl⟩;refine b8 ?_;exact⟨⟨e,rfl,ar⟩,a9,mK,n8,iQ,Y,rfl⟩
 .refine aK (Q6 Q bi N V ck L d m f2 aw gr cn aJ fZ hm kp bR t al ef df next bN gk Y) ?_;rintro v A ⟨⟨x,ok,rfl,I⟩,a3,dh,dV,eA,l4,rfl⟩;refine aG ?_;refine eD (λaW=>?_) (λaW=>?_)
  .refine b8 ?_;exact⟨⟨_,rfl,I⟩,a3,dh,dV,eA,Y,rfl⟩
  refine aG ?_;refine aK (vo Q bi N V ck L d m f2 aw gr cn aJ fZ hm kp bR t al ef dh dV a3 eA Y) ?_;rintro v A ⟨⟨e,rfl,ar⟩,a9,mK,n8,iQ,vb,rfl⟩;refine b8 ?_;exact⟨⟨e,rfl,ar⟩,a9,mK,n8,iQ,Y,rfl⟩
 .refine aK (Q6 Q bi N V ck L d m f2 aw gr cn aJ fZ hm kp bR t al ef df next bN gk Y) ?_;rintro v A ⟨⟨x,ok,rfl,I⟩,a3,dh,dV,eA,l4,rfl⟩;refine aG ?_;refine eD (λaW=>?_) (λaW=>?_)
  .refine b8 ?_;exact⟨⟨_,rfl,I⟩,a3,dh,dV,eA,Y,rfl⟩
  refine aG ?_;refine aK (vo Q bi N V ck L d m f2 aw gr cn aJ fZ hm kp bR t al ef dh dV a3 eA Y) ?_;rintro v A ⟨⟨e,rfl,ar⟩,a9,mK,n8,iQ,vb,rfl⟩;refine b8 ?_;exact⟨⟨e,rfl,ar⟩,a9,mK,n8,iQ,Y,rfl⟩
 .refine aK (Q6 Q bi N V ck L d m f2 aw gr cn aJ fZ hm kp bR t al ef df next bN gk Y) ?_;rintro v A ⟨⟨x,ok,rfl,I⟩,a3,dh,dV,eA,l4,rfl⟩;refine aG ?_;refine eD (λaW=>?_) (λaW=>?_)
  .refine b8 ?_;exact⟨⟨_,rfl,I⟩,a3,dh,dV,eA,Y,rfl⟩
  refine aG ?_;refine aK (vo Q bi N V ck L d m f2 aw gr cn aJ fZ hm kp bR t al ef dh dV a3 eA Y) ?_;rintro v A ⟨⟨e,rfl,ar⟩,a9,mK,n8,iQ,vb,rfl⟩;refine b8 ?_;exact⟨⟨e,rfl,ar⟩,a9,mK,n8,iQ,Y,rfl⟩
 .refine aK (ap6 Q bi N V ck L d m f2 aw gr cn aJ fZ hm kp bR t al ef df next bN gk Y) ?_;rintro v A ⟨⟨x,ok,rfl,I⟩,a3,dh,dV,eA,l4,rfl⟩;refine aG ?_;refine eD (λaW=>?_) (λaW=>?_)
  .refine b8 ?_;exact⟨⟨_,rfl,I⟩,a3,dh,dV,eA,Y,rfl⟩
  refine aG ?_;refine aK (vo Q bi N V ck L d m f2 aw gr cn aJ fZ hm kp bR t al ef dh dV a3 eA Y) ?_;rintro v A ⟨⟨e,rfl,ar⟩,a9,mK,n8,iQ,vb,rfl⟩;refine b8 ?_;exact⟨⟨e,rfl,ar⟩,a9,mK,n8,iQ,Y,rfl⟩
 .refine aK (aiG Q bi N V ck L d m f2 aw gr cn aJ fZ hm kp bR t al ef df next bN gk Y) ?_;rintro v A ⟨⟨x,ok,rfl,I⟩,a3,dh,dV,eA,l4,rfl⟩;refine aG ?_;refine eD (λaW=>?_) (λaW=>?_)
  .refine b8 ?_;exact⟨⟨_,rfl,I⟩,a3,dh,dV,eA,Y,rfl⟩
  refine aG ?_;refine aK (vo Q bi N V ck L d m f2 aw gr cn aJ fZ hm kp bR t al ef dh dV a3 eA Y) ?_;rintro v A ⟨⟨e,rfl,ar⟩,a9,mK,n8,iQ,vb,rfl⟩;refine b8 ?_;exact⟨⟨e,rfl,ar⟩,a9,mK,n8,iQ,Y,rfl⟩
 .refine aK (ain Q bi N V ck L d m f2 aw gr cn aJ fZ hm kp bR t al ef df next bN gk Y) ?_;rintro v A ⟨⟨x,ok,rfl,I⟩,a3,dh,dV,eA,l4,rfl⟩;refine aG ?_;refine eD (λaW=>?_) (λaW=>?_)
  .refine b8 ?_;exact⟨⟨_,rfl,I⟩,a3,dh,dV,eA,Y,rfl⟩
  refine aG ?_;refine aK (vo Q bi N V ck L d m f2 aw gr cn aJ fZ hm kp bR t al ef dh dV a3 eA Y) ?_;rintro v A ⟨⟨e,rfl,ar⟩,a9,mK,n8,iQ,vb,rfl⟩;refine b8 ?_;exact⟨⟨e,rfl,ar⟩,a9,mK,n8,iQ,Y,rfl⟩
 .refine cj (R5 Q _ _ _) ?_;have cM:GT (ck+10) (ai.mk [65,114,114,97,121] 108 [t]):=(GT.one ag ag al).mono Y;rw[mj t];refine cT (akj Q (ai.mk [65,114,114,97,121] 108 [t]) (cM.bL Y)) ?_;have aki:=cM.gi;generalize(ai.mk [65,114,114,97,121] 108 [t]).gi=pR at aki;refine aG ?_;refine eT (λqD=>?_) (λqD=>?_)
  .refine aG ?_;refine aK (bR N V iG (ai.mk [65,114,114,97,121] 108 [t]) cM ef df next bN gk Y) ?_;rintro v A ⟨⟨e,rfl,ar⟩,a3,dh,dV,eA,l4,rfl⟩;refine aG ?_;refine cT (ou Q _) ?_;rcases l7 1 d with uI|uI
   .rw[bA Y] at M3;refine aG ?_;refine aK (M3 N V iG _ wG ef dh dV a3 eA Y) ?_;rintro v A ⟨⟨aN,rfl,eu⟩,a4,fj,gO,ik,qs,rfl⟩;refine b8 ?_;exact⟨⟨_,aj.agg o7 mv l9 (mQ e aN),kl ag ag ag ag jc.nil jT.nil j5.nil (jW.two ag ar eu)⟩,a4,fj,gO,ik,Y,rfl⟩
   .have uI:d=1:=Y;subst uI;rw[b3 rfl] at M3
    (conv=>whnf)
    repeat(first|refine qk.mW ?_|refine bn ?_);(conv=>whnf)
    rw[show kS 18446744073709551616 1 2=18446744073709551615 from by unfold kS;rfl];refine aK (M3 N V iG _ wG ef dh dV a3 eA Y) ?_;rintro v A ⟨⟨aN,rfl,eu⟩,a4,fj,gO,ik,qs,rfl⟩;refine b8 ?_;exact⟨⟨_,aj.agg o7 mv l9 (mQ e aN),kl ag ag ag ag jc.nil jT.nil j5.nil (jW.two ag ar eu)⟩,a4,fj,gO,ik,Y,rfl⟩
  refine aG ?_;refine aK (vo Q bi N V ck L d m f2 aw gr cn aJ fZ hm kp bR t al ef df next bN gk Y) ?_;rintro v A ⟨⟨e,rfl,ar⟩,a9,mK,n8,iQ,vb,rfl⟩;refine b8 ?_;exact⟨⟨e,rfl,ar⟩,a9,mK,n8,iQ,Y,rfl⟩
 .have bT:(N.jn.map cu).length=N.jn.length:=bW;have aqG:=hp.OD
  (conv=>whnf)
  repeat' (first|(refine aK (wv Q bi bN 2 gk ag ag) ?_;rintro v A ⟨⟨N0,rfl⟩,a2,fU,rfl⟩)|refine bn ?_|refine aN ?_|refine s2 ?_ ?_<;>intros|fail)<;>(conv=>whnf)
  .refine aK (fR Q bi a2 (N.jn.map cu).length fU Y Y) ?_;rintro v A ⟨⟨r,rfl,ad⟩,a3,eA,rfl⟩;have⟨NH,aeX,pn⟩:=nW cu ad;have asM:=hp.NH NH aeX;unfold cu at pn
   (conv=>whnf)
   repeat(first|refine⟨ad,⟨_,pn,?_⟩⟩|refine jM.mk _ pn ?_|refine gz.mk ad ?_|refine bn ?_);(conv=>whnf)
   refine aK (fR Q bi a3 4 eA ag ag) ?_;rintro v A ⟨⟨cl,rfl,eM⟩,a4,ik,rfl⟩;refine aG ?_;refine aK (bR N V iG t zd ef df next a4 ik Y) ?_;rintro v A ⟨⟨e,rfl,ar⟩,a5,fP,l3,nK,Qo,rfl⟩;refine aG ?_;refine aK (bR N V iG t zd ef fP l3 a5 nK Y) ?_;rintro v A ⟨⟨aN,rfl,eu⟩,dR,ty,me,ra,QS,rfl⟩;refine b8 ?_;exact⟨⟨_,aj.agg o7 mv l9 (Xa (aj.flat 20 NH (1+cl)) e aN),kl ag ag ag ag jc.nil jT.nil j5.nil (jW.three ag ((wa ag Y Y).mono Y) ar eu)⟩,dR,ty,me,ra,Y,rfl⟩
  all_goals
   refine aK (vo Q bi N V ck L d m f2 aw gr cn aJ fZ hm kp bR t al ef df next _ (by assumption) Y) ?_
   rintro v A ⟨⟨e,rfl,ar⟩,a9,mK,n8,iQ,vb,rfl⟩
   refine b8 ?_
   exact⟨⟨e,rfl,ar⟩,a9,mK,n8,iQ,Y,rfl⟩
 .refine aK (vo Q bi N V ck L d m f2 aw gr cn aJ fZ hm kp bR t al ef df next bN gk Y) ?_;rintro v A ⟨⟨e,rfl,ar⟩,a9,mK,n8,iQ,vb,rfl⟩;refine b8 ?_;exact⟨⟨e,rfl,ar⟩,a9,mK,n8,iQ,Y,rfl⟩
def acZ:∀d,d<=5->∀ck L,ck+10*d<=300->L+10*d<=1000->sO C g ab d (400 ^ d) ck L (4+d):=by
 intro d;induction d using Nat.strongRecOn with
 |ind d bB=>
  intro aJ ck L gr cn;cases d with
  |zero=>exact Z5 Q bi 0 (.inl rfl) ck L Y Y
  |succ d=>
   rw[Nat.pow_succ,Nat.mul_comm];have hm:0<400 ^ d:=Nat.pow_pos ag;have B:=bB d Y Y (ck+10) (L+10) Y Y;refine aiT Q bi (d+1) (400 ^ d) ck L (4+d) Y Y hm Y Y Y B ?_;have up:∀(za:Nat)(m f2:Nat),m<=400 ^ d->f2<=4+d->sO C g ab za m (ck+10) (L+10) f2->sO C g ab za (400 ^ d) (ck+10) (L+10) (4+d):=λza m f2 B F h N V aw t al ef left next a aD aB=>(h N V aw t al ef left next a aD Y).imp λv A=>by rintro⟨⟨e,rfl,ar⟩,a3,dh,dV,eA,l4,rfl⟩;exact⟨⟨e,rfl,ar.mono F⟩,a3,dh,dV,eA,Y,rfl⟩
   cases d with
   |zero=>exact up _ 1 4 ag ag (Z5 Q bi _ (.inr rfl) (ck+10) (L+10) Y Y)
   |succ d=>rw[bA Y];exact up _ (400 ^ d) (4+d) (Nat.pow_le_pow_right ag Y) Y (bB d Y Y (ck+10) (L+10) Y Y)
end
def OM(X:aO):be->Prop
 |[]=>True
 |(_,.box _ _ _)::r=>OM X r
 |(_,.arr _ _ ab _)::r=>hy X ab=false/\OM X r
def mh(X:aO):eS->eS
 |.box el z (.cc l)=>.box el z (.cc (l.map (i7 X)))
 |.box el z (.bE l)=>.box el z (.bE (l.map (ip X)))
 |.arr el z ab u=>.arr el z ab u
def lA(X:aO):be->be
 |[]=>[]
 |(s,D)::l=>(s,mh X D)::lA X l
def L3{X}:∀{A}{k},OM X A->k (lA X A)->xf X A k
 |[],k,_,h=>h
 |(s,.box el z (.cc l))::r,k,aB,h=>by unfold xf;exact Qx (L3 (k:=λr=>k ((s,.box el z (.cc _))::r)) aB h)
 |(s,.box el z (.bE l))::r,k,aB,h=>by unfold xf;exact Fy (L3 (k:=λr=>k ((s,.box el z (.bE _))::r)) aB h)
 |(s,.arr el z ab u)::r,k,aB,h=>by unfold xf;exact⟨aB.1,L3 (k:=λr=>k ((s,.arr el z ab u)::r)) aB.2 h⟩
def mP{a}{X:aO}{L E}{A}{k}(aB:OM (a::X) A)(h:k (L.map (dJ (ip (a::X)))) (E.map (dJ (ip (a::X)))) (lA (a::X) A)):jt (a::X) L E A k:=
 Jl (Jl (L3 aB h))
def mu{X}{s}:ip X (.bQ s)=.bQ s:=rfl
def oZ{X}{g}:ip X (.J (.aQ g []))=.J (.aQ g []):=iD (by simp only[cA])
def aoH{ab el}(h:ab≠[]):cA [el] (.aQ (2*el+1) ab):=by
 cases ab with
 |nil=>exact absurd rfl h
 |cons a l=>have:(2*el+1) / 2=el:=Y;simp only[cA,this,cr,fY rfl,JV]
def s3{α:Type}(el g:Nat)(l:List α):Prop:=l=[]/\g % 2=1\/g=2*el+1
def s3.A{el g z}{α}{aF:α->di}{l:List α}(h:s3 el g l)(ad:∀x,fQ (aF x) z):l.map aF=[]/\g % 2=1\/g=2*el+1/\l.map aF≠[]/\fQ (ib (l.map aF) 0) z:=by
 cases l with
 |nil=>exact .inl ⟨rfl,by rcases h with h|h<;>omega⟩
 |cons a l=>
  rcases h with⟨h,_⟩|h
  .cases h
  .exact .inr ⟨h,by simp,ad a⟩
def s3.G{α}{el g}{l:List α}(h:s3 el g l):gV el g l:=by
 rcases h with h|h
 .exact .inl h.1
 .exact .inr Y
def s3.full{α}{el g}{l:List α}{aF:α->di}(h:s3 el g l)(K:l.map aF≠[]):cA [el] (.aQ g (l.map aF)):=by
 rcases h with h|rfl
 .exact absurd (by rw[h.1];rfl) K
 .exact aoH K
def ys{X}{g e z b n}{ab:gF}{x y}(h:ab=[]/\g % 2=1\/g=2*e+1/\ab≠[]/\fQ (ib ab 0) z)(bO:0<z)(ch:cr e (ev X))(av:(ab.length+n)*b<=2147483647)(I:ab≠[]->x)(ap:ab=[]->y):FI X g e z b n ab x y:=by
 rcases h with⟨rfl,h⟩|⟨rfl,B,F⟩
 .exact .fresh (.inr (by simp only[ib,fQ];cases z with|zero=>omega|succ z=>rfl)) h rfl (by simpa using av) (ap rfl)
 .exact .aan rfl F ch av (I B)
def tZ{X}:∀{l m:gF},hy X l=false->hy X m=false->hy X (l++m)=false
 |[],m,_,h=>h
 |a::l,m,B,F=>by simp only[hy,Cd,jF] at B ⊢;exact⟨B.1,tZ B.2 F⟩
def mG{X}{r:di}(h:dw X r=false):hy X [r]=false:=by simp only[hy,h,k5]
def Dw.cm{X}(ch:Tx.cm X [54]){k}{t}(h:GT k t):dw X t.cells=false:=by have:=h.El ch;rwa [ai.dF] at this
def iC.kq{X}{x}(h:iC x):cA X (.aQ x.g1 (x.lf.map kx.row))=false:=by rw[h.qp];rfl
def iC.cz{X}(ch:Tx.cm X [54,9,84,44]){x}(h:iC x):cA X (.aQ x.g2 (x.ea.map ec.row))=false:=j6 h.m1 (ch 44 ag) λf aI=>(h.dr f aI).cm (ch.sub ag)
def iC.vm{X}(ch:Tx.cm X [54,9,87,47]){x}(h:iC x):cA X (.aQ x.g3 (x.dW.map eg.row))=false:=j6 h.m2 (ch 47 ag) λf aI=>(h.c3 f aI).cm (ch.sub ag)
def iC.jZ{X}(ch:Tx.cm X [54,102,50]){x}(h:iC x):cA X (.aQ x.g4 (x.e7.map eX.row))=false:=j6 h.m3 (ch 50 ag) λf aI=>(h.dY f aI).cm (ch.sub ag)
def iC.xS{X}(ch:Tx.cm X [54,9,104,143,57]){x}(h:iC x):cA X (.aQ x.g5 (x.ed.map fc.row))=false:=j6 h.m4 (ch 57 ag) λf aI=>(h.e9 f aI).cm (ch.sub ag)
def iC.jw{X}(ch:Tx.cm X [54,9,231,61,104,106,109]){x}(h:iC x):cA X (.aQ x.g6 (x.funcs.map dI.row))=false:=j6 h.m5 (ch 109 ag) λf aI=>(h.f9 f aI).cm (ch.sub ag)
def iC.xs{X}(ch:Tx.cm X [54,9,84]){x}(h:iC x):hy X (x.ea.map ec.row)=false:=Br λf aI=>(h.dr f aI).cm (ch.sub ag)
def iC.al7{X}(ch:Tx.cm X [54,9,87]){x}(h:iC x):hy X (x.dW.map eg.row)=false:=Br λf aI=>(h.c3 f aI).cm (ch.sub ag)
def iC.NA{X}(ch:Tx.cm X [54,102]){x}(h:iC x):hy X (x.e7.map eX.row)=false:=Br λf aI=>(h.dY f aI).cm (ch.sub ag)
def iC.VY{X}(ch:Tx.cm X [54,9,104,143]){x}(h:iC x):hy X (x.ed.map fc.row)=false:=Br λf aI=>(h.e9 f aI).cm (ch.sub ag)
def iC.iY{X}(ch:Tx.cm X [54,9,231,61,104,106]){x}(h:iC x):hy X (x.funcs.map dI.row)=false:=Br λf aI=>(h.f9 f aI).cm (ch.sub ag)
def ux{X}{gZ}{G}(h:gV 104 gZ G)(Q:∀x∈G,mY x)(ch:Tx.cm X [9,104]):cA X (.aQ gZ (G.map cX.row))=false:=j6 h (ch 104 ag) λf aI=>(Q f aI).cm (ch.sub ag)
abbrev iP(x:cV):eS:=.box 70 12 (.bE ([.bH 1001 0,.J (.aQ 1 []),.J (.aQ 1 [])]++x.cells.map .J))
def l6.cm{ab}(bi:l6 ab){g}(br:g / 2=3){X}(ch:cr 3 X=false):cA X (.op g ab.W)=false:=rfl
def Wf{X}{g}{r:di}(B:cr (g / 2) X=false)(F:dw X r=false):cA X (.aQ g [r])=false:=by simp only[cA,hy,B,F,k5]
def J6{X}:dw X []=false:=rfl
def DB{X}{a}{l:di}(B:cA X a=false)(F:dw X l=false):dw X (a::l)=false:=by simp only[dw,B,F,k5]
def z7{X}{g}:cA X (.aQ g [])=false:=by simp only[cA]
def ER{X}{l:di}(h:dw X l=false):cA X (.agg l)=false:=by simp only[cA];exact h
def mX{X}{t}(h:cA X t=false):i7 X t=t:=by simp only[i7,h]
def ac1{X}{r:di}{l:gF}(h:dw X r=false)(F:hy X l=false):hy X (r::l)=false:=by simp only[hy,h,F,k5]
def GT.S{k}(s:bM)(h:s.length<=300)(aD:s≠[65,114,114,97,121]):GT (k+1) (ai.mk s 1 []):=GT.nil h aD Y
def nC{X}{g}{W}:ip X (.J (.op g W))=.J (.op g W):=iD (by simp only[cA])
structure io(x:cV):Prop where
 cf:iC x
 ej:s3 44 x.g2 x.ea
 gv:s3 47 x.g3 x.dW
 kQ:s3 50 x.g4 x.e7
 n4:s3 57 x.g5 x.ed
 l5:s3 109 x.g6 x.funcs
 mH:x.kind=1->0<x.rel
def p8{α:Type}{N:α->Prop}{l:List α}{a}(h:∀x∈l,N x)(aD:N a):∀x∈l++[a],N x:=λx I=>by
 rcases jD.1 I with I|I
 .exact h x I
 .rw[iF.1 I];exact aD
def GP{α:Type}{l:List α}{a}{n}(h:l.length<n):(l++[a]).length<=n:=by rw[gP];exact h
def io.lj{x}(h:io x){s}(ak:FJ s)(K:x.ea.length<10):io {x with g2:=89,ea:=x.ea++[s]}:=
 ⟨⟨h.cf.kind,h.cf.rel,h.cf.aR,h.cf.qp,GP K,p8 h.cf.dr ak,.inr (ag:89 / 2=44),h.cf.cH,h.cf.c3,h.cf.m2,h.cf.dh,h.cf.dY,h.cf.m3,h.cf.fj,h.cf.e9,h.cf.m4,h.cf.fP,h.cf.f9,h.cf.m5⟩,.inr rfl,h.gv,h.kQ,h.n4,h.l5,h.mH⟩
def io.un{x}(h:io x){s}(ak:yB s)(K:x.dW.length<10):io {x with g3:=95,dW:=x.dW++[s]}:=
 ⟨⟨h.cf.kind,h.cf.rel,h.cf.aR,h.cf.qp,h.cf.df,h.cf.dr,h.cf.m1,GP K,p8 h.cf.c3 ak,.inr (ag:95 / 2=47),h.cf.dh,h.cf.dY,h.cf.m3,h.cf.fj,h.cf.e9,h.cf.m4,h.cf.fP,h.cf.f9,h.cf.m5⟩,h.ej,.inr rfl,h.kQ,h.n4,h.l5,h.mH⟩
def io.dZ{x}(h:io x){s}(ak:N9 s)(K:x.e7.length<3):io {x with g4:=101,e7:=x.e7++[s]}:=
 ⟨⟨h.cf.kind,h.cf.rel,h.cf.aR,h.cf.qp,h.cf.df,h.cf.dr,h.cf.m1,h.cf.cH,h.cf.c3,h.cf.m2,GP K,p8 h.cf.dY ak,.inr (ag:101 / 2=50),h.cf.fj,h.cf.e9,h.cf.m4,h.cf.fP,h.cf.f9,h.cf.m5⟩,h.ej,h.gv,.inr rfl,h.n4,h.l5,h.mH⟩
def io.co{x}(h:io x){s}(ak:J1 s)(K:x.ed.length<30):io {x with g5:=115,ed:=x.ed++[s]}:=
 ⟨⟨h.cf.kind,h.cf.rel,h.cf.aR,h.cf.qp,h.cf.df,h.cf.dr,h.cf.m1,h.cf.cH,h.cf.c3,h.cf.m2,h.cf.dh,h.cf.dY,h.cf.m3,GP K,p8 h.cf.e9 ak,.inr (ag:115 / 2=57),h.cf.fP,h.cf.f9,h.cf.m5⟩,h.ej,h.gv,h.kQ,.inr rfl,h.l5,h.mH⟩
def io.fn{x}(h:io x){s}(ak:mV s)(K:x.funcs.length<30):io {x with g6:=219,funcs:=x.funcs++[s]}:=
 ⟨⟨h.cf.kind,h.cf.rel,h.cf.aR,h.cf.qp,h.cf.df,h.cf.dr,h.cf.m1,h.cf.cH,h.cf.c3,h.cf.m2,h.cf.dh,h.cf.dY,h.cf.m3,h.cf.fj,h.cf.e9,h.cf.m4,GP K,p8 h.cf.f9 ak,.inr (ag:219 / 2=109)⟩,h.ej,h.gv,h.kQ,h.n4,.inr rfl,h.mH⟩
def yQ{c4 bS aU}{acc}{bc:(bG->be->Prop)->bG->be->Prop}{eb:bG}{gI}{α:Type}(dU:α->List (Nat×a1))(T:α->be)(pk:α->Nat)(eo:α->Prop)(cb:∃a,eo a/\wy bS acc aU (forget eb c4) gI=some (forget (gU eb (dU a)) c4,T a))(ak:∀a (ba),eo a->(∀bF d9 bw,pk bF<pk a->eo bF->wy bS acc aU (forget d9 c4) bw=some (forget (gU eb (dU bF)) c4,T bF)->ba d9 bw)->tN eb (dU a) λE=>tD E c4 λE=>jK id E λE=>ky (T a) λA=>bc ba E A):qK (λba E A=>np (some ⟨c4,bS,acc,aU⟩) E A λE A=>bc ba E A) eb gI:=
 VP dU T pk eo cb λa ba B F=>AJ (ak a ba B F)
end Go.Tx
namespace Go.Tx
open Go.Ev Go
def G3(x y:cV):Prop:=∃g l,y={x with g2:=g,ea:=l}
def GV(x y:cV):Prop:=∃g l,y={x with g3:=g,dW:=l}
def zg(x y:cV):Prop:=∃g l,y={x with g6:=g,funcs:=l}
variable{g:Nat}{x y:cV}
def G3.lj{l}(h:G3 x y):G3 x {y with g2:=g,ea:=l}:=by obtain⟨_,_,rfl⟩:=h;exact⟨_,_,rfl⟩
def GV.un{l}(h:GV x y):GV x {y with g3:=g,dW:=l}:=by obtain⟨_,_,rfl⟩:=h;exact⟨_,_,rfl⟩
def zg.fn{l}(h:zg x y):zg x {y with g6:=g,funcs:=l}:=by obtain⟨_,_,rfl⟩:=h;exact⟨_,_,rfl⟩
end Go.Tx
namespace Go.Tx
open Go.Ev Go
def vH(x y:cV):Prop:=∃g5 fP g6 ty,y={x with g5:=g5,ed:=fP,g6:=g6,funcs:=ty}
def vH.trans{x y z}(h:vH x y)(b5:vH y z):vH x z:=by obtain⟨_,_,_,_,rfl⟩:=h;obtain⟨_,_,_,_,rfl⟩:=b5;exact⟨_,_,_,_,rfl⟩
def vH.refl(x):vH x x:=⟨_,_,_,_,rfl⟩
end Go.Tx
