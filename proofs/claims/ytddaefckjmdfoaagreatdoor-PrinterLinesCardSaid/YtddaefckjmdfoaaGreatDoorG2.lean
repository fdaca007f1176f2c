/- Part of the proof of PrinterLines. -/
import Derived.Test.YtddaefckjmdfoaaGreatDoorG1
set_option linter.all false
namespace Go.Tx
open Go Go.Ev
set_option maxRecDepth 100000
set_option maxHeartbeats 8000000
attribute [local irreducible] jJ mb bj lQ kS nj ie fe
section
variable{C:Nat->cG}{ext:Nat->Option e0}{ab:fD}(Q:Env C ext ab)
include Q
variable{g:Nat}(bi:l6 ab)(N:rY)(hp:FG N)
include bi hp
abbrev ms:eS:=.box 61 11 (.bE [.J (.int 3 0),.J (.str []),.J (.str []),.J (.int 3 0),.bT,.bT,.bT,.bT,.J (.str []),.bT,.J (.int 3 0)])
variable{ck:Nat}{t:ai}
omit Q bi hp in
omit Q in
def GJ(al:GT ck t)(h:t.aR=[65,114,114,97,121]):0<(t.l.map ai.row).length/\∀x∈t.l,GT ck x:=by
 cases ck with
 |zero=>exact al.elim
 |succ ck=>refine⟨?_,λx I=>(al.2.2.2.2 x I).mono Y⟩;rw[dt];exact List.length_pos_iff.2 (al.2.2.2.1 h)
omit Q bi hp in
omit Q in
def GT.sub(al:GT ck t):∀x∈t.l,GT ck x:=by
 cases ck with
 |zero=>exact al.elim
 |succ ck=>exact λx I=>(al.2.2.2.2 x I).mono Y
omit Q bi hp in
omit Q in
def GT.aR(al:GT ck t):t.aR.length<=300:=by
 cases ck with
 |zero=>exact al.elim
 |succ ck=>exact al.1
omit Q bi hp in
omit Q in
def GT.Fi(al:GT ck t):t.l.length<=1:=by
 cases ck with
 |zero=>exact al.elim
 |succ ck=>exact al.2.1
omit Q bi hp in
omit Q in
def jc.of(al:GT ck t)(gr:ck<=400):jc t.g t.l:=⟨by have:=GT.Fi al;omega,λx I=>(GT.sub al x I).mono gr,by
 cases ck with
 |zero=>exact al.elim
 |succ ck=>exact al.2.2.1⟩
theorem Ri(ef)(V:List cD)(eZ:V.length<10000)(PB)(B:∀x∈V,GT PB x.bK)(F:∀x∈V,x.aR.length<=100):∀(d),d<=2->∀(ck),ck+10*d<=380->∀(t),GT ck t->∀(left next a),a<=ab.length->bj C [] 113 [.bH 1000 0,.J (.agg t.cells),.J (.aQ ef (V.map cD.row)),.J (.int 3 d)] [(1000,iA N left next),(1001,dH g ab a)] (Made N g ab next λv=>∃e,v=.agg (aj.cells e)/\GE (d+2) e):=by
 intro d;induction d using Nat.strongRecOn with
 |ind d bB=>
  intro aJ ck gr t al left next a aD
  have Bb:t.aR.length<=300:=by cases ck with|zero=>exact al.elim|succ ck=>exact al.1
  refine Q.z 113 (ia [(1,[10,27,28],[],[5,8,11,1000,1001]),(3,[14,33],[⟨true,17,5,900,9,1⟩,⟨true,17,7,901,61,11⟩],[5,8,15,17,900,901,1000,1001])]) rfl rfl ?_
  (conv=>whnf)
  repeat(refine bn ?_;conv=>whnf)
  refine aK (Qm Q bi N left next a aD PB ef V eZ B F ck t al) ?_;rintro v A ⟨⟨x,ok,rfl,I⟩,bN,wT,wg,gk,qt,rfl⟩
  (conv=>whnf)
  repeat(refine bn ?_;conv=>whnf)
  refine eD (λaW=>?_) (λaW=>?_);case' refine_1=>
   (conv=>whnf)
   repeat(refine bn ?_;conv=>whnf)
   refine aK (fR Q bi bN 4 gk ag ag) ?_;rintro v A ⟨⟨r,rfl,ad⟩,bN,gk,rfl⟩
   (conv=>whnf)
   repeat(refine bn ?_;conv=>whnf)
   refine eT (λah=>?_) (λah=>?_)
   ·(conv=>whnf)
    repeat(refine b9 ?_;conv=>whnf)
    exact⟨⟨x,rfl,I.mono Y⟩,bN,wT,wg,gk,qt,rfl⟩
  all_goals
   (conv=>whnf)
   repeat(refine b9 ?_;conv=>whnf)
   refine cC (λh=>?_) (λh=>?_)
   ·(conv=>whnf)
    repeat(refine bn ?_;conv=>whnf)
    refine aK (N2 Q bi _ gk) ?_;rintro v A ⟨⟨n,rfl,aB⟩,a2,fU,rfl⟩
    (conv=>whnf)
    repeat(refine bn ?_;conv=>whnf)
    refine aK (Lb Q _) ?_;rintro v A ⟨rfl,rfl⟩
    (conv=>whnf)
    repeat(refine b9 ?_;conv=>whnf)
    exact⟨⟨aj.flat 1 [] n,rfl,(wa ag ag aB).mono Y⟩,a2,wT,wg,fU,qt,rfl⟩
   (conv=>whnf)
   repeat(refine bn ?_;conv=>whnf)
   refine cC (λh=>?_) (λh=>?_)
   ·(conv=>whnf)
    repeat(refine bn ?_;conv=>whnf)
    refine aK (fR Q bi _ 2 gk ag ag) ?_;rintro v A ⟨⟨n,rfl,aB⟩,a2,fU,rfl⟩
    (conv=>whnf)
    repeat(refine b9 ?_;conv=>whnf)
    exact⟨⟨aj.flat 2 [] n,rfl,(wa ag ag Y).mono Y⟩,a2,wT,wg,fU,qt,rfl⟩
   (conv=>whnf)
   repeat(refine bn ?_;conv=>whnf)
   refine cC (λh=>?_) (λh=>?_)
   ·(conv=>whnf)
    repeat(refine bn ?_;conv=>whnf)
    refine aK (N2 Q bi _ gk) ?_;rintro v A ⟨⟨n,rfl,aB⟩,a2,fU,rfl⟩
    (conv=>whnf)
    repeat(refine bn ?_;conv=>whnf)
    refine aK (Lb Q _) ?_;rintro v A ⟨rfl,rfl⟩
    (conv=>whnf)
    repeat(refine b9 ?_;conv=>whnf)
    exact⟨⟨_,aj.agg o7 mv l9 (pS (aj.flat 1 [] n)),(kl ag ag ag ag jc.nil jT.nil j5.nil (jW.one ag (wa ag ag aB))).mono Y⟩,a2,wT,wg,fU,qt,rfl⟩
   (conv=>whnf)
   repeat(refine bn ?_;conv=>whnf)
   refine cC (λh=>?_) (λh=>?_)
   .have⟨dS,fw⟩:=GJ al h;have⟨y,ap,ad⟩:=nW ai.row dS;rw[ai.dF] at ad
    (conv=>whnf)
    repeat((first|refine⟨dS,⟨_,ad,?_⟩⟩|refine b9 ?_);(conv=>whnf))
    exact⟨⟨_,aj.agg (mj y) mv l9 Wj,(kl ag ag ag ag (jc.one ag (fw y ap) Y) jT.nil j5.nil (jW.nil 0)).mono Y⟩,_,wT,wg,gk,qt,rfl⟩
   (conv=>whnf)
   repeat(refine bn ?_;conv=>whnf)
   refine aK (NZ Q N.W hp.cf hp.dg N.ig t.aR Y) ?_
   rintro v A ⟨rfl,u,Ja,rfl,hu⟩
   (conv=>whnf)
   repeat(refine bn ?_;conv=>whnf)
   have Zz:(u.cases.map eP.row).length=u.cases.length:=bW
   have WZ:=hu.lp
   refine eD (λav=>?_) (λav=>?_)
   case' refine_1=>
    (conv=>whnf)
    repeat(refine bn ?_;conv=>whnf)
    refine gG eP.row u.cases 26 (λ_ (_:Unit)=>[]) (λ_ _=>[(5,.box 54 2 (.cc t.cells)),(8,ms),(11,.box 47 6 (.cc (eg.row u))),(1000,iA N wT wg),(1001,dH g ab bN)]) (λ_ _=>True) ⟨(),trivial,by kernel_rfl⟩ (λd2 b c r ba ar aV ad bo bC=>?_) (λb ba bo=>?_)
    .have fZ:d2.length<u.cases.length:=Y;have aw:=hu.ub c (by simp [ar]);have dz:=aw.aR;have dV:(c.f8.map ai.row).length=c.f8.length:=bW;have gg:=aw.pl;unfold eP.row at ad
     (conv=>whnf)
     repeat((first|refine .yes (cZ.2 aV) ?_|refine⟨aV,⟨_,ad,?_⟩⟩|refine b9 ?_);(conv=>whnf))
     refine fK (λh=>?_) (λh=>?_)
     ·(conv=>whnf)
      repeat(refine b9 ?_;conv=>whnf)
      exact⟨⟨_,aj.agg (mj t) mv l9 Wj,(kl ag ag Y ag (jc.one ag al Y) jT.nil j5.nil (jW.nil 0)).mono Y⟩,_,wT,wg,gk,qt,rfl⟩
     ·(conv=>whnf)
      repeat(refine b9 ?_;conv=>whnf)
      exact bC () _ _ trivial (by kernel_rfl)
    (conv=>whnf)
    repeat((first|refine .no (lZ _) ?_|refine bn ?_);(conv=>whnf))
   all_goals
    (conv=>whnf)
    repeat(refine bn ?_;conv=>whnf)
    refine aK (MR Q N.W hp.cf hp.dg N.ig t.aR Y) ?_
    rintro v A ⟨rfl,s,TW,rfl,ak⟩
    have bQ:(s.fields.map eF.row).length=s.fields.length:=bW
    have Sc:=ak.f6
    (conv=>whnf)
    repeat' ((first|(refine aK (EH Q bi N wT wg bN gk t.aR Y) ?_;rintro v A ⟨rfl,b,rfl⟩)|refine b9 ?_|((with_reducible first|apply eT|apply iN|apply fK|apply cC|apply f4|apply kC|apply kB|apply eD)<;>intros))<;>(conv=>whnf))
    all_goals try
     refine aK (Qm Q bi N wT wg bN gk PB ef V eZ B F ck t al) ?_
     rintro v A ⟨⟨fw,Nt,rfl,lq⟩,a2,acw,XG,fU,kY,rfl⟩
     (conv=>whnf)
     repeat(refine bn ?_;conv=>whnf)
     refine eD (λaW=>?_) (λaW=>?_)
     ·(conv=>whnf)
      repeat(refine b9 ?_;conv=>whnf)
      exact⟨⟨fw,rfl,lq.mono Y⟩,a2,acw,XG,fU,Y,rfl⟩
     ·(conv=>whnf)
      repeat(refine b9 ?_;conv=>whnf)
      refine aK (Yg Q t 7) ?_;rintro v A ⟨rfl,rfl⟩
      (conv=>whnf)
      repeat(refine b9 ?_;conv=>whnf)
      exact⟨⟨_,rfl,(kl ag ag ag ag (jc.one ag al Y) jT.nil j5.nil (jW.one ag (wa ag ag ag))).mono Y⟩,a2,acw,XG,fU,Y,rfl⟩
    all_goals
     have zt:0<d:=by assumption
     refine gG eF.row s.fields 32 (λ_ (_:List bM×List aj×Nat×Nat×Nat)=>[]) (λ_ b=>[(5,.box 54 2 (.cc t.cells)),(8,ms),(15,.box 44 6 (.cc (ec.row s))),(17,.box 61 11 (.bE [.J (.int 3 11),.J (.str t.aR),.J (.str []),.J (.int 3 0),.J (.aQ t.g (t.l.map ai.row)),.bQ 900,.bT,.bQ 901,.J (.str []),.bT,.J (.int 3 0)])),(900,.arr 9 1 (b.1.map cu) true),(901,.arr 61 11 (b.2.1.map aj.row) true),(1000,iA N b.2.2.1 b.2.2.2.1),(1001,dH g ab b.2.2.2.2)]) (λaG b=>b.1.length=aG.length/\(∀s∈b.1,s.length<=100)/\b.2.1.length=aG.length/\(∀k∈b.2.1,GE (d+1) k)/\b.2.2.2.1<=next/\b.2.2.2.2<=ab.length) ⟨([],[],wT,wg,bN),⟨rfl,(λ_ h=>by cases h),rfl,(λ_ h=>by cases h),qt,gk⟩,by kernel_rfl⟩ (λaG b f r ba ar aV ad bo bC=>?_) (λb ba bo=>?_)
     .have⟨dD,dQ,fi,fr,lY,tW⟩:=bo;have bq:(b.1.map cu).length=b.1.length:=bW;have aS:(b.2.1.map aj.row).length=b.2.1.length:=bW;have jE:aG.length<s.fields.length:=Y;have aI:=ak.kq f (by simp [ar]);have gN:=aI.aR;unfold eF.row at ad
      (conv=>whnf)
      repeat((first|refine .yes (cZ.2 aV) ?_|refine⟨aV,⟨_,ad,?_⟩⟩|refine b9 ?_);(conv=>whnf))
      refine aK (wS Q ck 5 Y ag f.bK aI.bK s.g1 t.g s.params t.l (by have:=ak.pl;omega) (by have:=GT.Fi al;omega) (GT.sub al)) ?_;rintro v A ⟨rfl,jZ,rfl,o3⟩
      (conv=>whnf)
      repeat(refine b9 ?_;conv=>whnf)
      refine aK (bB (d - 1) Y Y (5+ck+1) Y jZ o3 b.2.2.1 b.2.2.2.1 b.2.2.2.2 tW) ?_;rintro v A ⟨⟨e,rfl,jd⟩,a4,fj,uw,ik,qs,rfl⟩
      (conv=>whnf)
      repeat(refine b9 ?_;conv=>whnf)
      exact bC (b.1++[f.aR],b.2.1++[e],fj,uw,a4) _ _ ⟨by simp [dD],λy ap=>by
       rcases List.mem_append.1 ap with ap|ap
       .exact dQ y ap
       .rw[List.mem_singleton.1 ap];exact gN,by simp [fi],λy ap=>by
       rcases List.mem_append.1 ap with ap|ap
       .exact fr y ap
       .rw[List.mem_singleton.1 ap];exact jd.mono Y,by show uw<=next;omega,ik⟩ (by rw[List.map_append,List.map_append,List.map_singleton,List.map_singleton,aj.dF];kernel_rfl)
     .have⟨dD,dQ,fi,fr,lY,tW⟩:=bo;have dD:b.1.length=s.fields.length:=dD;have fi:b.2.1.length=s.fields.length:=fi
      (conv=>whnf)
      repeat((first|refine .no (lZ _) ?_|refine bn ?_);(conv=>whnf))
      exact⟨⟨_,aj.agg rfl rfl l9 rfl,(kl ag Bb ag ag (jc.of al Y) ⟨Y,λs h=>by have:=dQ s h;omega,.inr ag⟩ j5.nil ⟨Y,fr,.inr ag⟩).mono Y⟩,b.2.2.2.2,b.2.2.1,b.2.2.2.1,tW,lY,rfl⟩
end
section
variable{C:Nat->cG}{ext:Nat->Option e0}{ab:fD}(Q:Env C ext ab)
include Q
variable{g:Nat}
structure sg(N:rY)(V:List cD)(ck L:Nat):Prop where
 ok:FG N
 tx:V.length<=L
 v1:∀x∈V,GT ck x.bK
 v2:∀x∈V,x.aR.length<=100
omit Q in
omit Q in
def sg.up{N V ck L xF fX}(h:sg N V ck L)(az:ck<=xF)(K:L<=fX):sg N V xF fX:=⟨h.ok,by have:=h.tx;omega,λx I=>(h.v1 x I).mono az,h.v2⟩
def sO(C:Nat->cG)(g:Nat)(ab:fD)(za m ck L f2:Nat):Prop:=∀N V,sg N V ck L->∀t,GT ck t->∀ef left next a,a<=ab.length->next+2*m<=1000000000000000->bj C [] 47 [.bH 1000 0,.J (.agg (ai.cells t)),.J (.aQ ef (V.map cD.row)),.J (.int 3 za)] [(1000,iA N left next),(1001,dH g ab a)] (Made N g ab (next+m) λv=>∃e,v=.agg (aj.cells e)/\GE f2 e)
variable(bi:l6 ab)(N:rY)(V:List cD)(ck L d m f2:Nat)(aw:sg N V ck L)(gr:ck<=300)(cn:L<=1000)(aJ:0<d)(fZ:d<=100)(hm:0<m)(kp:4<=f2)(bR:sO C g ab (d - 1) m (ck+10) (L+10) f2)
include bi aw gr cn aJ fZ hm kp bR
theorem ah8(ef left next a)(aD:a<=ab.length)(aB:next+400*m<=1000000000000000):bj C [] 228 [.bH 1000 0,.J (.aQ ef (V.map cD.row)),.J (.int 3 d)] [(1000,iA N left next),(1001,dH g ab a)] (Made N g ab (next+190*m) λv=>∃e,v=.agg (aj.cells e)/\GE (f2+1) e):=by
 refine Q.z 228 cY rfl rfl ?_;have hp:=aw.ok;have iG:=aw.up (xF:=ck+10) (fX:=L+10) Y Y;have wG:GT (ck+10) (ai.mk [73,110,116] 1 []):=GT.nil ag ag Y;have Mo:GT (ck+10) (ai.mk [66,121,116,101] 1 []):=GT.nil ag ag Y;refine aG ?_;refine aK (fR Q bi a 9 aD ag ag) ?_;rintro v A ⟨⟨r,rfl,ad⟩,bN,gk,rfl⟩;refine aG ?_;refine fK (λh=>?_) (λh=>?_)
 .refine aG ?_;refine aK (N2 Q bi _ gk) ?_;rintro v A ⟨⟨n,rfl,aB⟩,a2,fU,rfl⟩;refine aG ?_;refine jL (Lb Q _) ?_;exact⟨⟨aj.flat 1 [] n,rfl,(wa ag ag aB).mono Y⟩,a2,left,next,fU,Y,rfl⟩
 refine aG ?_;refine fK (λh=>?_) (λh=>?_)
 .refine aG ?_;refine aK (Ay Q bi N hp left next bN gk) ?_;rintro v A ⟨⟨t,rfl,al⟩,a2,cH,cB,fU,kY,rfl⟩;refine aG ?_;refine cT (R5 Q _ _ _) ?_;have q5:=bR N V iG (ai.mk [65,114,114,97,121] 108 [t]) (GT.one ag ag (al.mono Y:GT (ck+9) t)) ef cH cB a2 fU Y;refine b8 ?_;rw[mj t];refine aK q5 ?_;rintro v A ⟨⟨e,rfl,ar⟩,a3,dh,dV,eA,l4,rfl⟩;refine b8 ?_;exact⟨⟨_,aj.agg o7 mv l9 (pS e),kl ag ag ag ag jc.nil jT.nil j5.nil (jW.one ag ar)⟩,a3,dh,dV,eA,Y,rfl⟩
 refine aG ?_;refine fK (λh=>?_) (λh=>?_)
 .refine aG ?_;refine jL (ou Q _) ?_;refine aK (bR N V iG _ Mo ef left next bN gk Y) ?_;rintro v A ⟨⟨e,rfl,ar⟩,a3,dh,dV,eA,l4,rfl⟩;refine b8 ?_;exact⟨⟨_,aj.agg o7 mv l9 (pS e),kl ag ag ag ag jc.nil jT.nil j5.nil (jW.one ag ar)⟩,a3,dh,dV,eA,Y,rfl⟩
 refine b8 ?_;refine aK (fR Q bi bN 7 gk ag ag) ?_;rintro v A ⟨⟨cl,rfl,eM⟩,a2,fU,rfl⟩;obtain⟨op,dT,ad⟩:∃op:bM,op.length=1/\ib [[b2.str [43]],[b2.str [45]],[b2.str [42]],[b2.str [47]],[b2.str [37]],[b2.str [43]],[b2.str [45]]] cl=[.str op]:=by have:cl=0\/cl=1\/cl=2\/cl=3\/cl=4\/cl=5\/cl=6:=Y;rcases this with rfl|rfl|rfl|rfl|rfl|rfl|rfl<;>exact⟨_,rfl,rfl⟩
 (conv=>whnf)
 repeat((first|refine gz.mk (show cl<7 from eM) ?_|refine jM.mk _ ad ?_|(refine aK (ou Q _) ?_;rintro v A ⟨rfl,rfl⟩)|refine b9 ?_);(conv=>whnf))
 refine aK (bR N V iG _ wG ef left next a2 fU Y) ?_;rintro v A ⟨⟨e,rfl,ar⟩,a3,dh,dV,eA,l4,rfl⟩
 (conv=>whnf)
 repeat((first|(refine aK (ou Q _) ?_;rintro v A ⟨rfl,rfl⟩)|refine b9 ?_);(conv=>whnf))
 refine aK (bR N V iG _ wG ef dh dV a3 eA Y) ?_;rintro v A ⟨⟨aN,rfl,eu⟩,a4,fj,gO,ik,qs,rfl⟩;refine b8 ?_;exact⟨⟨_,aj.agg o7 mv l9 (mQ e aN),kl ag Y ag ag jc.nil jT.nil j5.nil (jW.two ag ar eu)⟩,a4,fj,gO,ik,Y,rfl⟩
theorem alR(LL)(bP:List cD)(cM:bP.length<=5)(aiI:∀x∈bP,rl x)(Mp)(cg:List bM)(m6:cg.length<500)(Ko)(mL:List ai)(av:mL.length<500)(zq:∀t∈mL,GT (ck+4) t)(ef left next a)(aD:a<=ab.length)(aB:next+400*m<=1000000000000000):bj C [] 227 [.bH 1000 0,.J (.aQ LL (bP.map cD.row)),.J (.aQ Mp (cg.map cu)),.J (.aQ Ko (mL.map ai.row)),.J (.aQ ef (V.map cD.row)),.J (.int 3 d)] [(1000,iA N left next),(1001,dH g ab a)] (Made N g ab (next+5*m) λv=>∃(Rf:Nat)(kT:List aj),v=.aQ Rf (kT.map aj.row)/\jW f2 Rf kT):=by
 refine Q.z 227 (ia [(0,[8,9,10,11,15,16,17,18,19,20],[⟨false,7,0,900,61,11⟩],[900,1000,1001]),(2,[11,19],[⟨false,7,0,900,61,11⟩],[15,900,1000,1001])]) rfl rfl ?_;have hp:=aw.ok;have iG:=aw.up (xF:=ck+10) (fX:=L+10) Y Y;have m1:(bP.map cD.row).length=bP.length:=bW;refine aG ?_;refine gG cD.row bP 14 (λ_ (_:List aj×Nat×Nat×Nat)=>[(7,.bQ 900)]) (λ_ b=>[(900,.arr 61 11 (b.1.map aj.row) true),(1000,iA N b.2.1 b.2.2.1),(1001,dH g ab b.2.2.2)]) (λaG b=>b.1.length=aG.length/\(∀k∈b.1,GE f2 k)/\b.2.2.1<=next+aG.length*m/\b.2.2.2<=ab.length) ⟨([],left,next,a),⟨rfl,(λ_ h=>by cases h),by simp,aD⟩,by kernel_rfl⟩ (λaG b x r ba ar aV ad bo bC=>?_) (λb ba bo=>?_)
 .have⟨dD,dQ,fi,fr⟩:=bo;have I:=aiI x (by simp [ar]);have jE:aG.length<bP.length:=Y;have bq:(b.1.map aj.row).length=b.1.length:=bW;have aS:aG.length*m<=4*m:=p0 _ Y;unfold cD.row at ad;simp only[jF,kv] at ad;have⟨y,ap,yg⟩:=nW cD.row (l:=bP) (i:=0) Y;unfold cD.row at yg;simp only[jF,kv] at yg;have ks:((bP.map cD.row).drop aG.length).take ((bP.map cD.row).length - aG.length)=(x::r).map cD.row:=by rw[<-lu,H5,ar,<-List.map_drop,List.drop_left]
  have m2:((x::r).map cD.row).length=(x::r).length:=bW;have m3:(x::r).length<=5:=by rw[ar] at cM;simp at cM ⊢;omega
  (conv=>whnf)
  repeat(first|refine jM.mk _ yg ?_|refine u0.some Y Y ?_|refine .yes (cZ.2 aV) ?_|refine⟨aV,⟨_,ad,?_⟩⟩|refine b9 ?_);(conv=>whnf)
  rw[ks];refine gG cD.row (x::r) 18 (λ_ (q:Bool)=>[(10,.J (.bool q))]) (λ_ _=>[(15,.box 106 15 (.cc (b2.str x.aR::b2.str x.bK.aR::b2.aQ x.bK.g (x.bK.l.map ai.row)::b2.bool x.has::x.gM.cells))),(900,.arr 61 11 (b.1.map aj.row) true),(1000,iA N b.2.1 b.2.2.1),(1001,dH g ab b.2.2.2)]) (λ_ _=>True) ⟨true,trivial,by kernel_rfl⟩ (λd2 q z cl fJ eu fv eM dp eG=>?_) (λq fJ dp=>?_)
  .have fZ:d2.length<(x::r).length:=Y;unfold cD.row at eM;simp only[jF,kv] at eM;have aV:=fv;have ad:=eM
   (conv=>whnf)
   repeat' (first|refine .yes (cZ.2 aV) ?_|refine⟨aV,⟨_,ad,?_⟩⟩|refine b9 ?_|refine aN ?_|refine s2 ?_ ?_<;>intros|fail)<;>(conv=>whnf)
   .exact eG z.has _ _ trivial (by kernel_rfl)
   .exact eG false _ _ trivial (by kernel_rfl)
  .refine de ?_;refine eD (λax=>?_) (λax=>?_);case' refine_1=>
    (conv=>whnf)
    repeat refine bn ?_;(conv=>whnf)
    refine aK (fR Q bi _ 2 fr ag ag) ?_;rintro v A ⟨⟨hD,rfl,wl⟩,a3,eA,rfl⟩
    (conv=>whnf)
    repeat(refine bn ?_;conv=>whnf)
    refine fK (λh=>?_) (λh=>?_)
    ·(conv=>whnf)
     repeat refine bn ?_;(conv=>whnf)
     exact⟨⟨_,b.1,rfl,Y,dQ,.inr ag⟩,a3,b.2.1,b.2.2.1,eA,Y,rfl⟩
   case' refine_2=>have eA:=fr
   all_goals
    (conv=>whnf)
    repeat refine bn ?_;(conv=>whnf)
    refine aK (wS Q (ck+4) 5 Y ag x.bK I.bK Mp Ko cg mL Y Y zq) ?_
    rintro v A ⟨rfl,jZ,rfl,o3⟩
    (conv=>whnf)
    repeat refine bn ?_;(conv=>whnf)
    refine aK (bR N V iG jZ (o3.mono Y) ef _ _ _ eA Y) ?_
    rintro v A ⟨⟨e,rfl,jd⟩,a4,fj,gO,ik,qs,rfl⟩
    have bU:(aG.length+1)*m=aG.length*m+m:=Zq ..
    refine b8 ?_
    exact bC (b.1++[e],fj,gO,a4) _ _ ⟨by simp [dD],λy ap=>by
     rcases jD.1 ap with ap|ap
     .exact dQ y ap
     .rw[iF.1 ap];exact jd,by simp only[gP,EQ];omega,ik⟩ (by rw[qn,y6,aj.dF];kernel_rfl)
 .have⟨dD,dQ,fi,fr⟩:=bo;have dD:b.1.length=bP.length:=dD;have aS:bP.length*m<=5*m:=p0 _ Y;refine de ?_;exact⟨⟨_,b.1,rfl,Y,dQ,.inr ag⟩,b.2.2.2,b.2.1,b.2.2.1,fr,Y,rfl⟩
end
section
variable{C:Nat->cG}{ext:Nat->Option e0}{ab:fD}(Q:Env C ext ab)
include Q
variable{g:Nat}
variable(bi:l6 ab)(N:rY)(V:List cD)(ck L d m f2:Nat)(aw:sg N V ck L)(gr:ck<=300)(cn:L<=1000)(aJ:0<d)(fZ:d<=100)(hm:0<m)(kp:4<=f2)(bR:sO C g ab (d - 1) m (ck+10) (L+10) f2)
include bi aw gr cn aJ fZ hm kp bR
theorem aiG(t)(al:GT ck t)(ef left next a)(aD:a<=ab.length)(aB:next+400*m<=1000000000000000):bj C [] 122 [.bH 1000 0,.J (.agg t.cells),.J (.aQ ef (V.map cD.row)),.J (.int 3 d)] [(1000,iA N left next),(1001,dH g ab a)] (Made N g ab (next+190*m) λv=>∃e ok,v=.eJ [.agg (aj.cells e),.bool ok]/\GE (f2+1) e):=by
 refine Q.z 122 (ia [(0,[7,8,9,10,18,19,20,21,22,23],[],[5,8,1000,1001]),(2,[10,22,23],[],[5,8,11,12,1000,1001]),(4,[14,27,28],[],[5,8,16,17,1000,1001])]) rfl rfl ?_;have hp:=aw.ok;have iG:=aw.up (xF:=ck+10) (fX:=L+10) Y Y;have m1:(V.map cD.row).length=V.length:=bW;have tx:=aw.tx;refine aG ?_;refine gG cD.row V 17 (λ_ (_:Nat)=>[]) (λ_ a=>[(5,.box 54 2 (.cc t.cells)),(8,ms),(1000,iA N left next),(1001,dH g ab a)]) (λaG a=>a<=ab.length) ⟨a,aD,by kernel_rfl⟩ (λaG b x r ba ar aV ad bo bC=>?_) (λb ba bo=>?_)
 .have I:x∈V:=by simp [ar]
  have jE:aG.length<V.length:=Y;have dS:=aw.v1 x I;have fw:=aw.v2 x I;have lB:x.bK.aR.length<=300:=dS.aR;unfold cD.row at ad;simp only[jF,kv] at ad;refine tl ?_;refine aK (MR Q N.W hp.cf hp.dg N.ig x.bK.aR Y) ?_;rintro v A ⟨rfl,s,TW,rfl,ak⟩;have bQ:(s.fields.map eF.row).length=s.fields.length:=bW;have Sc:=ak.f6;refine b8 ?_;refine gG eF.row s.fields 21 (λ_ (_:Nat)=>[]) (λ_ a=>[(5,.box 54 2 (.cc t.cells)),(8,ms),(11,.box 106 15 (.cc (cD.row x))),(12,.box 44 6 (.cc (ec.row s))),(1000,iA N left next),(1001,dH g ab a)]) (λaG a=>a<=ab.length) ⟨b,bo,by kernel_rfl⟩ (λd2 c7 f r fJ eu fv eM dp eG=>?_) (λc7 fJ dp=>?_)
  .have fZ:d2.length<s.fields.length:=Y;have aI:=ak.kq f (by simp [eu]);have gN:=aI.aR;unfold eF.row at eM;have aV:=fv;have ad:=eM
   (conv=>whnf)
   repeat' ((first|refine .yes (cZ.2 aV) ?_|refine⟨aV,⟨_,ad,?_⟩⟩|(refine aK (EH Q bi N left next _ dp x.bK.aR Y) ?_;rintro v A ⟨rfl,b,rfl⟩)|refine b9 ?_|((with_reducible first|apply eT|apply iN|apply fK|apply cC|apply f4|apply kC|apply kB|apply eD)<;>intros))<;>(conv=>whnf))
   all_goals try exact eG c7 _ _ dp (by kernel_rfl)
   all_goals
    refine aK (wS Q ck 5 Y ag f.bK aI.bK s.g1 x.bK.g s.params x.bK.l (by have:=ak.pl;omega) (by have:=GT.Fi dS;omega) (GT.sub dS)) ?_
    rintro v A ⟨rfl,jZ,rfl,o3⟩
    (conv=>whnf)
    repeat(refine bn ?_;conv=>whnf)
    refine aK (JM Q _ ck jZ t o3 al) ?_
    rintro v A ⟨rfl,cC,rfl⟩
    (conv=>whnf)
    repeat(refine bn ?_;conv=>whnf)
    refine eD (λax=>?_) (λax=>?_)
    ·(conv=>whnf)
     repeat(refine bn ?_;conv=>whnf)
     refine aK (fR Q bi _ 3 dp ag ag) ?_;rintro v A ⟨⟨hD,rfl,wl⟩,a3,eA,rfl⟩
     (conv=>whnf)
     repeat refine bn ?_;(conv=>whnf)
     refine eT (λh=>?_) (λh=>?_)
     .refine b8 ?_;exact⟨⟨_,true,aj.Fc o7 mv l9 (pS (aj.flat 3 x.aR 0)),kl ag ag Y ag jc.nil jT.nil j5.nil (jW.one ag ((wa ag Y ag).mono Y))⟩,a3,left,next,eA,Y,rfl⟩
     ·(conv=>whnf)
      repeat refine b9 ?_;(conv=>whnf)
      exact eG a3 _ _ eA (by kernel_rfl)
    ·(conv=>whnf)
     repeat refine bn ?_;(conv=>whnf)
     exact eG c7 _ _ dp (by kernel_rfl)
  .refine de ?_;exact bC c7 _ _ dp (by kernel_rfl)
 .refine de ?_;refine aK (Ay Q bi N hp left next b bo) ?_;rintro v A ⟨⟨on,rfl,lM⟩,a2,cH,cB,fU,kY,rfl⟩;refine aG ?_;refine aK (MR Q N.W hp.cf hp.dg N.ig on.aR (by have:=lM.aR;omega)) ?_;rintro v A ⟨rfl,s,TW,rfl,ak⟩;have bQ:(s.fields.map eF.row).length=s.fields.length:=bW;have Sc:=ak.f6;refine b8 ?_;refine gG eF.row s.fields 26 (λ_ (_:Unit)=>[]) (λ_ _=>[(5,.box 54 2 (.cc t.cells)),(8,ms),(16,.box 54 2 (.cc on.cells)),(17,.box 44 6 (.cc (ec.row s))),(1000,iA N cH cB),(1001,dH g ab a2)]) (λaG _=>True) ⟨(),trivial,by kernel_rfl⟩ (λd2 c7 f r fJ eu fv eM dp eG=>?_) (λc7 fJ dp=>?_)
  .have fZ:d2.length<s.fields.length:=Y;have aI:=ak.kq f (by simp [eu]);have gN:=aI.aR;unfold eF.row at eM;have aV:=fv;have ad:=eM
   (conv=>whnf)
   repeat' (first|refine .yes (cZ.2 aV) ?_|refine⟨aV,⟨_,ad,?_⟩⟩|(refine aK (EH Q bi N cH cB _ fU on.aR (by have:=lM.aR;omega)) ?_;rintro v A ⟨rfl,b,rfl⟩)|refine b9 ?_|refine aN ?_|refine s2 ?_ ?_<;>intros|fail)<;>(conv=>whnf)
   all_goals try exact eG () _ _ trivial (by kernel_rfl)
   all_goals
    refine aK (wS Q 4 5 Y ag f.bK aI.bK s.g1 on.g s.params on.l (by have:=ak.pl;omega) (by have:=GT.Fi lM;omega) (GT.sub lM)) ?_
    rintro v A ⟨rfl,jZ,rfl,o3⟩
    refine aG ?_
    refine aK (JM Q _ ck jZ t o3 al) ?_
    rintro v A ⟨rfl,cC,rfl⟩
    refine aG ?_
    refine eD (λax=>?_) (λax=>?_)
    .refine aG ?_;refine aK (bR N V iG on (lM.mono Y) ef cH cB a2 fU Y) ?_;rintro v A ⟨⟨e,rfl,jd⟩,a4,fj,gO,ik,qs,rfl⟩;refine b8 ?_;exact⟨⟨_,true,aj.Fc o7 mv l9 (pS e),kl ag ag Y ag jc.nil jT.nil j5.nil (jW.one ag jd)⟩,a4,fj,gO,ik,Y,rfl⟩
    .refine aG ?_;exact eG () _ _ trivial (by kernel_rfl)
  .refine de ?_;exact⟨⟨aj.nil,false,rfl,q7.mono Y⟩,a2,cH,cB,fU,Y,rfl⟩
end
section
variable{C:Nat->cG}{ext:Nat->Option e0}{ab:fD}(Q:Env C ext ab)
include Q
variable{g:Nat}
variable(bi:l6 ab)(N:rY)(V:List cD)(ck L d m f2:Nat)(aw:sg N V ck L)(gr:ck<=300)(cn:L<=1000)(aJ:0<d)(fZ:d<=100)(hm:0<m)(kp:4<=f2)(bR:sO C g ab (d - 1) m (ck+10) (L+10) f2)
include bi aw gr cn aJ fZ hm kp bR
theorem ain(t)(al:GT ck t)(ef left next a)(aD:a<=ab.length)(aB:next+400*m<=1000000000000000):bj C [] 123 [.bH 1000 0,.J (.agg t.cells),.J (.aQ ef (V.map cD.row)),.J (.int 3 d)] [(1000,iA N left next),(1001,dH g ab a)] (Made N g ab (next+190*m) λv=>∃e ok,v=.eJ [.agg (aj.cells e),.bool ok]/\GE (f2+1) e):=by
 refine Q.z 123 (ia [(0,[7,8,9,10,11,12,16,17,18,19,20,21,22,23,24,25,26,27,28,29,30,31,32],[],[5,8,1000,1001]),(2,[8,9,10,11,12,21,22,23,24,25,26,27,28,29,30,31,32],[],[5,8,11,1000,1001]),(4,[9,10,11,12,25,26,27,28,29,30,31,32],[],[5,8,11,13,1000,1001]),(6,[12,32],[⟨true,17,7,900,61,11⟩],[8,16,17,900,1000,1001])]) rfl rfl ?_;have hp:=aw.ok;have iG:=aw.up (xF:=ck+10) (fX:=L+10) Y Y;have m1:(N.W.map cV.cells).length=N.W.length:=bW;have anx:=hp.dg;have agP:=hp.OD;have alv:=hp.gl;refine aG ?_;refine gG cV.cells N.W 15 (λ_ (_:Nat×Nat×Nat)=>[]) (λ_ b=>[(5,.box 54 2 (.cc t.cells)),(8,ms),(1000,iA N b.1 b.2.1),(1001,dH g ab b.2.2)]) (λaG b=>b.2.1<=next/\b.2.2<=ab.length) ⟨(left,next,a),⟨ez _,aD⟩,by kernel_rfl⟩ (λaG b y r ba ar aV ad bo bC=>?_) (λb ba bo=>?_)
 .have ap:=hp.cf y (by simp [ar]);have jE:aG.length<N.W.length:=Y;have dl:(y.e7.map eX.row).length=y.e7.length:=bW;have dh:=ap.dh;have yM:=ap.aR
  (conv=>whnf)
  repeat(first|refine .yes (cZ.2 aV) ?_|refine⟨aV,⟨_,ad,?_⟩⟩|refine bn ?_);(conv=>whnf)
  refine f4 (cC (λB=>?_) (λB=>?_));case' refine_1.refine_2=>
   (conv=>whnf)
   repeat(refine bn ?_;conv=>whnf)
   refine aK (GD Q N.gl N.jn y.aR Y) ?_;rintro v A ⟨rfl,SL,rfl⟩
   (conv=>whnf)
   repeat(refine bn ?_;conv=>whnf)
   refine f4 (eD (λF=>?_) (λF=>?_))
  case' refine_1.refine_2.refine_2=>
   (conv=>whnf)
   repeat(refine bn ?_;conv=>whnf)
   exact bC b _ _ bo (by kernel_rfl)
  all_goals
   (conv=>whnf)
   repeat refine bn ?_;(conv=>whnf)
   refine gG eX.row y.e7 20 (λ_ (_:Nat×Nat×Nat)=>[]) (λ_ b=>[(5,.box 54 2 (.cc t.cells)),(8,ms),(11,.box 34 9 (.cc y.cells)),(1000,iA N b.1 b.2.1),(1001,dH g ab b.2.2)]) (λaG b=>b.2.1<=next/\b.2.2<=ab.length) ⟨b,bo,by kernel_rfl⟩ (λd2 c7 q cl fJ eu fv eM dp eG=>?_) (λc7 fJ dp=>?_)
   .have ax:=ap.dY q (by simp [eu]);have ahO:d2.length<y.e7.length:=Y;have cB:(q.fT.map fW.row).length=q.fT.length:=bW;have fj:=ax.zw;have art:=ax.aR;have aV:=fv;have ad:=eM;unfold eX.row at ad;refine dx ?_;refine gG fW.row q.fT 24 (λ_ (_:Nat×Nat×Nat)=>[]) (λ_ b=>[(5,.box 54 2 (.cc t.cells)),(8,ms),(11,.box 34 9 (.cc y.cells)),(13,.box 50 5 (.cc q.row)),(1000,iA N b.1 b.2.1),(1001,dH g ab b.2.2)]) (λaG b=>b.2.1<=next/\b.2.2<=ab.length) ⟨c7,dp,by kernel_rfl⟩ (λd3 fu x hD AT tr Hr wl nc qr=>?_) (λfu AT nc=>?_)
    .have I:=ax.ua x (by simp [tr]);have aq3:d3.length<q.fT.length:=Y;have aq8:=I.aR;have aV:=Hr;have ad:=wl;unfold fW.row at ad;have⟨dD,dQ⟩:=nc
     (conv=>whnf)
     repeat' (first|refine .yes (cZ.2 aV) ?_|refine⟨aV,⟨_,ad,?_⟩⟩|(refine aK (JM Q 5 ck x.fk t I.fk al) ?_;rintro v A ⟨rfl,cC,rfl⟩)|(refine aK (wv Q bi fu.2.2 3 dQ ag ag) ?_;rintro v A ⟨⟨N0,rfl⟩,a4,ik,rfl⟩)|refine b9 ?_|refine aN ?_|refine s2 ?_ ?_<;>intros|fail)<;>(conv=>whnf)
     all_goals try first|exact qr (fu.1,fu.2.1,a4) _ _ ⟨dD,ik⟩ (by kernel_rfl)|exact qr fu _ _ ⟨dD,dQ⟩ (by kernel_rfl)
     all_goals
      refine aK (Ay Q bi N hp fu.1 fu.2.1 a4 ik) ?_
      rintro v A ⟨⟨on,rfl,lM⟩,a5,fP,FA,nK,Qo,rfl⟩
      refine b8 ?_
      refine aK (SY Q N.W hp.cf hp.dg N.ig N.gZ N.G Y hp.ge 4 ag (y.aR++[46]++q.aR) on lM) ?_
      rintro v A ⟨rfl,aa0,rfl⟩
      (conv=>whnf)
      repeat refine b9 ?_;(conv=>whnf)
      refine f4 (eD (λh=>?_) (λh=>?_))
      case' refine_1=>obtain⟨ug,L1,rfl⟩:∃ug:ai,GT 4 ug/\ug=on:=⟨on,lM,rfl⟩
      case' refine_2=>
       (conv=>whnf)
       repeat refine bn ?_;(conv=>whnf)
       refine aK (ou Q _) ?_;rintro v A ⟨rfl,h⟩;obtain⟨ug,L1,aN⟩:∃ug:ai,GT 4 ug/\(ai.mk [73,110,116] 1 []).cells=ug.cells:=⟨_,GT.nil ag ag ag,rfl⟩;rw[aN] at h;subst h
      all_goals
       (conv=>whnf)
       repeat(refine b9 ?_;conv=>whnf)
       refine aK (SY Q N.W hp.cf hp.dg N.ig N.gZ N.G Y hp.ge 4 ag (y.aR++[46]++q.aR) ug L1) ?_
       rintro v A ⟨rfl,asJ,rfl⟩
       (conv=>whnf)
       repeat(refine bn ?_;conv=>whnf)
       refine f4 (eD (λh=>?_) (λh=>?_))
       case' refine_2=>
        (conv=>whnf)
        repeat refine bn ?_;(conv=>whnf)
        exact qr (fP,FA,a5) _ _ ⟨by show FA<=next;omega,nK⟩ (by kernel_rfl)
       refine b8 ?_
       have l3:(x.args.map ai.row).length=x.args.length:=bW
       have agQ:=I.iE
       refine gG ai.row x.args 31 (λ_ (_:List aj×Nat×Nat×Nat)=>[]) (λ_ b=>[(8,ms),(16,.box 54 2 (.cc ug.cells)),(17,.box 61 11 (.bE [.J (.int 3 10),.J (.str (y.aR++[46]++q.aR)),.J (.str x.aR),.J (.int 3 0),.J (.aQ 108 [ug.cells]),.bT,.bT,.bQ 900,.J (.str []),.bT,.J (.int 3 0)])),(900,.arr 61 11 (b.1.map aj.row) true),(1000,iA N b.2.1 b.2.2.1),(1001,dH g ab b.2.2.2)]) (λaG b=>b.1.length=aG.length/\(∀k∈b.1,GE f2 k)/\b.2.2.1<=next+aG.length*m/\b.2.2.2<=ab.length) ⟨([],fP,FA,a5),⟨rfl,(λ_ h=>by cases h),by show FA<=next+0*m;omega,nK⟩,by kernel_rfl⟩ (λd4 fh z lS xl CR yE tG oj qo=>?_) (λfh xl oj=>?_)
       .have⟨dr,c3,dY,e9⟩:=oj;have bO:=I.lb z (by simp [CR]);have U3:d4.length<x.args.length:=Y;have bq:(fh.1.map aj.row).length=fh.1.length:=bW;have aS:d4.length*m<=4*m:=p0 _ Y;have bU:(d4.length+1)*m=d4.length*m+m:=Zq ..;have aV:=yE;have ad:=tG;rw[ai.dF] at ad;have aa5:=wS Q 4 5 ag ag z bO 18 108 [[83,101,108,102]] [ug] ag (by simp) (λt h=>by rw[iF.1 h];exact L1);simp only[fA,je,ai.dF] at aa5;refine tl ?_;refine aK aa5 ?_;rintro v A ⟨rfl,jZ,rfl,o3⟩;refine b8 ?_;refine aK (bR N V iG jZ (o3.mono Y) ef _ _ _ e9 Y) ?_;rintro v A ⟨⟨e,rfl,jd⟩,dR,ty,me,ra,QS,rfl⟩;refine b8 ?_;exact qo (fh.1++[e],ty,me,dR) _ _ ⟨by simp [dr],λy ap=>by
         rcases jD.1 ap with ap|ap
         .exact c3 y ap
         .rw[iF.1 ap];exact jd,by simp only[gP,EQ];omega,ra⟩ (by rw[qn,y6,aj.dF];kernel_rfl)
       .have⟨dr,c3,dY,e9⟩:=oj;have dr:fh.1.length=x.args.length:=dr;have aS:x.args.length*m<=5*m:=p0 _ agQ;refine de ?_;exact⟨⟨_,true,aj.Fc (mj ug) mv l9 rfl,kl ag (by simp only[gP,EQ];omega) Y ag (jc.one ag L1 ag) jT.nil j5.nil ⟨Y,c3,.inr ag⟩⟩,fh.2.2.2,fh.2.1,fh.2.2.1,e9,Y,rfl⟩
    .refine de ?_;exact eG fu _ _ nc (by kernel_rfl)
   .refine de ?_;exact bC c7 _ _ dp (by kernel_rfl)
 .refine de ?_;exact⟨⟨aj.nil,false,rfl,q7.mono Y⟩,b.2.2,b.1,b.2.1,bo.2,Y,rfl⟩
end
end Go.Tx
