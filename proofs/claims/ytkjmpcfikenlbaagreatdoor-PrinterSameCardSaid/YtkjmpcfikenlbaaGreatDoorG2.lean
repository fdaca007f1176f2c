/- A part. -/
import Derived.Test.YtkjmpcfikenlbaaGreatDoorG1
set_option linter.all false
namespace Go.Tx
open Go Go.Ev
set_option maxRecDepth 100000
set_option maxHeartbeats 8000000
attribute [local irreducible] eo eA bU eE eJ eN cU eX
section
variable{C:Nat->cE}{ext:Nat->Option eS}{Q:e9}(aa:Env C ext Q)
include aa
variable{g:Nat}(aS:jW Q)(p:sj)(bq:Fe p)
include aS bq
abbrev mR:fB:=.box 45 11 (.bS [.J (.int 3 0),.J (.str []),.J (.str []),.J (.int 3 0),.bx,.bx,.bx,.bx,.J (.str []),.bx,.J (.int 3 0)])
variable{K:Nat}{t:al}
omit aa aS bq in
omit aa in
def Js(au:GT K t)(h:t.ay=[65,114,114,97,121]):0<(t.l.map al.row).length/\∀x∈t.l,GT K x:=by
 cases K with
 |zero=>exact au.elim|succ K=>refine⟨?_,λx M=>(au.2.2.2.2 x M).mono I⟩;rw[ex];exact List.length_pos_iff.2 (au.2.2.2.1 h)
omit aa aS bq in
omit aa in
def GT.sub(au:GT K t):∀x∈t.l,GT K x:=by
 cases K with
 |zero=>exact au.elim|succ K=>exact λx M=>(au.2.2.2.2 x M).mono I
omit aa aS bq in
omit aa in
def GT.ay(au:GT K t):t.ay.length<=300:=by
 cases K with
 |zero=>exact au.elim|succ K=>exact au.1
omit aa aS bq in
omit aa in
def GT.GU(au:GT K t):t.l.length<=1:=by
 cases K with
 |zero=>exact au.elim|succ K=>exact au.2.1
omit aa aS bq in
omit aa in
def jP.of(au:GT K t)(gP:K<=400):jP t.g t.l:=⟨by have:=GT.GU au;omega,λx M=>(GT.sub au x M).mono gP,by
 cases K with
 |zero=>exact au.elim
 |succ K=>exact au.2.2.1⟩
theorem TG(eL)(V:List cG)(gm:V.length<10000)(PG)(D:∀x∈V,GT PG x.bL)(F:∀x∈V,x.ay.length<=100):∀(d),d<=2->∀(K),K+10*d<=380->∀(t),GT K t->∀(left next a),a<=Q.length->bU C [] 141 [.bN 1000 0,.J (.agg t.cells),.J (.aH eL (V.map cG.row)),.J (.int 3 d)] [(1000,iU p left next),(1001,dD g Q a)] (Made p g Q next λv=>∃e,v=.agg (ai.cells e)/\GE (d+2) e):=by
 intro d;induction d using Nat.strongRecOn with
 |ind d bQ=>
  intro aY K gP t au left next a aC
  have t0:t.ay.length<=300:=by cases K with|zero=>exact au.elim|succ K=>exact au.1
  refine aa.z 141 (gK [(1,[10,27,28],[],[5,8,11,1000,1001]),(3,[14,33],[⟨true,17,5,900,9,1⟩,⟨true,17,7,901,45,11⟩],[5,8,15,17,900,901,1000,1001])]) rfl rfl ?_
  refine N ?_
  refine aW (Ux aa aS p left next a aC PG eL V gm D F K t au) ?_;rintro v A ⟨⟨x,ok,rfl,M⟩,bk,w6,w8,cY,rD,rfl⟩
  refine N ?_
  refine eO (λa4=>?_) (λa4=>?_);case' refine_1=>
   refine N ?_
   refine aW (dy aa aS bk 4 cY af af) ?_;rintro v A ⟨⟨r,rfl,ag⟩,bk,cY,rfl⟩
   refine N ?_
   refine eh (λaq=>?_) (λaq=>?_)
   ·refine bw ?_
    exact⟨⟨x,rfl,M.mono I⟩,bk,w6,w8,cY,rD,rfl⟩
  all_goals
   refine bw ?_
   refine cQ (λh=>?_) (λh=>?_)
   ·refine N ?_
    refine aW (NK aa aS _ cY) ?_;rintro v A ⟨⟨n,rfl,aD⟩,bu,cy,rfl⟩
    refine N ?_
    refine aW (AG aa _) ?_;rintro v A ⟨rfl,rfl⟩
    refine bw ?_
    exact⟨⟨ai.flat 1 [] n,rfl,(wn af af aD).mono I⟩,bu,w6,w8,cy,rD,rfl⟩
   refine N ?_
   refine cQ (λh=>?_) (λh=>?_)
   ·refine N ?_
    refine aW (dy aa aS _ 2 cY af af) ?_;rintro v A ⟨⟨n,rfl,aD⟩,bu,cy,rfl⟩
    refine bw ?_
    exact⟨⟨ai.flat 2 [] n,rfl,(wn af af I).mono I⟩,bu,w6,w8,cy,rD,rfl⟩
   refine N ?_
   refine cQ (λh=>?_) (λh=>?_)
   ·refine N ?_
    refine aW (NK aa aS _ cY) ?_;rintro v A ⟨⟨n,rfl,aD⟩,bu,cy,rfl⟩
    refine N ?_
    refine aW (AG aa _) ?_;rintro v A ⟨rfl,rfl⟩
    refine bw ?_
    exact⟨⟨_,ai.agg pm mG lm (pF (ai.flat 1 [] n)),(kY af af af af jP.nil km.nil kP.nil (ks.one af (wn af af aD))).mono I⟩,bu,w6,w8,cy,rD,rfl⟩
   refine N ?_
   refine cQ (λh=>?_) (λh=>?_)
   .have⟨fc,gv⟩:=Js au h;have⟨y,aE,ag⟩:=nU al.row fc;rw[al.dN]at ag
    (conv=>whnf)
    repeat((first|refine⟨fc,⟨_,ag,?_⟩⟩|refine da ?_);(conv=>whnf))
    exact⟨⟨_,ai.agg (mO y) mG lm Wj,(kY af af af af (jP.one af (gv y aE) I) km.nil kP.nil (ks.nil 0)).mono I⟩,_,w6,w8,cY,rD,rfl⟩
   refine N ?_
   refine aW (OR aa p.W bq.ck bq.ef p.iD t.ay I) ?_
   rintro v A ⟨rfl,u,IU,rfl,hu⟩
   refine N ?_
   have adm:(u.cases.map fl.row).length=u.cases.length:=bW
   have abB:=hu.ou
   refine eO (λaB=>?_) (λaB=>?_)
   case' refine_1=>
    refine N ?_
    refine hs fl.row u.cases 26 (λ_ (_:Unit)=>[]) (λ_ _=>[(5,.box 43 2 (.cb t.cells)),(8,mR),(11,.box 78 6 (.cb (dV.row u))),(1000,iU p w6 w8),(1001,dD g Q bk)]) (λ_ _=>True) ⟨(),trivial,by kernel_rfl⟩ (λd2 b c r ba aw be ag a7 bt=>?_) (λb ba a7=>?_)
    .have g1:d2.length<u.cases.length:=I;have aQ:=hu.A3 c (by simp[aw]);have en:=aQ.ay;have dm:(c.gL.map al.row).length=c.gL.length:=bW;have gI:=aQ.pl;unfold fl.row at ag
     (conv=>whnf)
     repeat((first|refine .yes (dg.2 be) ?_|refine⟨be,⟨_,ag,?_⟩⟩|refine da ?_);(conv=>whnf))
     refine ch (λh=>?_) (λh=>?_)
     ·refine bw ?_
      exact⟨⟨_,ai.agg (mO t) mG lm Wj,(kY af af I af (jP.one af au I) km.nil kP.nil (ks.nil 0)).mono I⟩,_,w6,w8,cY,rD,rfl⟩
     ·refine bw ?_
      exact bt () _ _ trivial (by kernel_rfl)
    (conv=>whnf)
    repeat((first|refine .no (pe _) ?_|refine bZ ?_);(conv=>whnf))
   all_goals
    refine N ?_
    refine aW (N9 aa p.W bq.ck bq.ef p.iD t.ay I) ?_
    rintro v A ⟨rfl,s,Uw,rfl,ap⟩
    have bD:(s.fields.map eT.row).length=s.fields.length:=bW
    have UA:=ap.hr
    (conv=>whnf)
    repeat' ((first|(refine aW (EO aa aS p w6 w8 bk cY t.ay I) ?_;rintro v A ⟨rfl,b,rfl⟩)|refine da ?_|((with_reducible first|apply eh|apply jQ|apply ch|apply cQ|apply eQ|apply mr|apply mD|apply eO)<;>intros))<;>(conv=>whnf))
    all_goals try
     refine aW (Ux aa aS p w6 w8 bk cY PG eL V gm D F K t au) ?_
     rintro v A ⟨⟨gv,FA,rfl,nN⟩,bu,aez,adB,cy,kr,rfl⟩
     refine N ?_
     refine eO (λa4=>?_) (λa4=>?_)
     ·refine bw ?_
      exact⟨⟨gv,rfl,nN.mono I⟩,bu,aez,adB,cy,I,rfl⟩
     ·refine bw ?_
      refine aW (aeA aa t 7) ?_;rintro v A ⟨rfl,rfl⟩
      refine bw ?_
      exact⟨⟨_,rfl,(kY af af af af (jP.one af au I) km.nil kP.nil (ks.one af (wn af af af))).mono I⟩,bu,aez,adB,cy,I,rfl⟩
    all_goals
     have Ae:0<d:=by assumption
     refine hs eT.row s.fields 32 (λ_ (_:List bj×List ai×Nat×Nat×Nat)=>[]) (λ_ b=>[(5,.box 43 2 (.cb t.cells)),(8,mR),(15,.box 74 6 (.cb (dX.row s))),(17,.box 45 11 (.bS [.J (.int 3 11),.J (.str t.ay),.J (.str []),.J (.int 3 0),.J (.aH t.g (t.l.map al.row)),.bD 900,.bx,.bD 901,.J (.str []),.bx,.J (.int 3 0)])),(900,.bF 9 1 (b.1.map b6) true),(901,.bF 45 11 (b.2.1.map ai.row) true),(1000,iU p b.2.2.1 b.2.2.2.1),(1001,dD g Q b.2.2.2.2)]) (λN b=>b.1.length=N.length/\(∀s∈b.1,s.length<=100)/\b.2.1.length=N.length/\(∀k∈b.2.1,GE (d+1) k)/\b.2.2.2.1<=next/\b.2.2.2.2<=Q.length) ⟨([],[],w6,w8,bk),⟨rfl,(λ_ h=>by cases h),rfl,(λ_ h=>by cases h),rD,cY⟩,by kernel_rfl⟩ (λN b f r ba aw be ag a7 bt=>?_) (λb ba a7=>?_)
     .have⟨dR,du,gq,fN,kF,ut⟩:=a7;have bC:(b.1.map b6).length=b.1.length:=bW;have aX:(b.2.1.map ai.row).length=b.2.1.length:=bW;have kG:N.length<s.fields.length:=I;have a1:=ap.nw f (by simp[aw]);have f1:=a1.ay;unfold eT.row at ag
      (conv=>whnf)
      repeat((first|refine .yes (dg.2 be) ?_|refine⟨be,⟨_,ag,?_⟩⟩|refine da ?_);(conv=>whnf))
      refine aW (xN aa K 5 I af f.bL a1.bL s.aj t.g s.params t.l (by have:=ap.pl;omega) (by have:=GT.GU au;omega) (GT.sub au)) ?_;rintro v A ⟨rfl,ka,rfl,o0⟩
      refine bw ?_
      refine aW (bQ (d - 1) I I (5+K+1) I ka o0 b.2.2.1 b.2.2.2.1 b.2.2.2.2 ut) ?_;rintro v A ⟨⟨e,rfl,kf⟩,cP,eg,uK,gz,qj,rfl⟩
      refine bw ?_
      exact bt (b.1++[f.ay],b.2.1++[e],eg,uK,cP) _ _ ⟨by simp[dR],λy aE=>by
       rcases List.mem_append.1 aE with aE|aE
       .exact du y aE
       .rw[List.mem_singleton.1 aE];exact f1,by simp[gq],λy aE=>by
       rcases List.mem_append.1 aE with aE|aE
       .exact fN y aE
       .rw[List.mem_singleton.1 aE];exact kf.mono I,by show uK<=next;omega,gz⟩ (by rw[List.map_append,List.map_append,List.map_singleton,List.map_singleton,ai.dN];kernel_rfl)
     .have⟨dR,du,gq,fN,kF,ut⟩:=a7;have dR:b.1.length=s.fields.length:=dR;have gq:b.2.1.length=s.fields.length:=gq
      (conv=>whnf)
      repeat((first|refine .no (pe _) ?_|refine bZ ?_);(conv=>whnf))
      exact⟨⟨_,ai.agg rfl rfl lm rfl,(kY af t0 af af (jP.of au I) ⟨I,λs h=>by have:=du s h;omega,.inr af⟩ kP.nil ⟨I,fN,.inr af⟩).mono I⟩,b.2.2.2.2,b.2.2.1,b.2.2.2.1,ut,kF,rfl⟩
end
section
variable{C:Nat->cE}{ext:Nat->Option eS}{Q:e9}(aa:Env C ext Q)
include aa
variable{g:Nat}
structure so(p:sj)(V:List cG)(K L:Nat):Prop where
 ok:Fe p
 tN:V.length<=L
 v1:∀x∈V,GT K x.bL
 v2:∀x∈V,x.ay.length<=100
omit aa in
omit aa in
def so.up{p V K L x9 gD}(h:so p V K L)(ar:K<=x9)(Y:L<=gD):so p V x9 gD:=⟨h.ok,by have:=h.tN;omega,λx M=>(h.v1 x M).mono ar,h.v2⟩
def tE(C:Nat->cE)(g:Nat)(Q:e9)(zl m K L gJ:Nat):Prop:=∀p V,so p V K L->∀t,GT K t->∀eL left next a,a<=Q.length->next+2*m<=1000000000000000->bU C [] 65 [.bN 1000 0,.J (.agg (al.cells t)),.J (.aH eL (V.map cG.row)),.J (.int 3 zl)] [(1000,iU p left next),(1001,dD g Q a)] (Made p g Q (next+m) λv=>∃e,v=.agg (ai.cells e)/\GE gJ e)
variable(aS:jW Q)(p:sj)(V:List cG)(K L d m gJ:Nat)(aQ:so p V K L)(gP:K<=300)(cB:L<=1000)(aY:0<d)(g1:d<=100)(hm:0<m)(kZ:4<=gJ)(bY:tE C g Q (d - 1) m (K+10) (L+10) gJ)
include aS aQ gP cB aY g1 hm kZ bY
theorem afn(eL left next a)(aC:a<=Q.length)(aD:next+400*m<=1000000000000000):bU C [] 216 [.bN 1000 0,.J (.aH eL (V.map cG.row)),.J (.int 3 d)] [(1000,iU p left next),(1001,dD g Q a)] (Made p g Q (next+190*m) λv=>∃e,v=.agg (ai.cells e)/\GE (gJ+1) e):=by
 refine aa.z 216 ff rfl rfl ?_;have bq:=aQ.ok;have iZ:=aQ.up (x9:=K+10) (gD:=L+10) I I;have q6:GT (K+10) (al.mk [73,110,116] 1 []):=GT.nil af af I;have M3:GT (K+10) (al.mk [66,121,116,101] 1 []):=GT.nil af af I;refine N ?_;refine aW (dy aa aS a 9 aC af af) ?_;rintro v A ⟨⟨r,rfl,ag⟩,bk,cY,rfl⟩;refine N ?_;refine ch (λh=>?_) (λh=>?_)
 .refine N ?_;refine aW (NK aa aS _ cY) ?_;rintro v A ⟨⟨n,rfl,aD⟩,bu,cy,rfl⟩;refine N ?_;refine dW (AG aa _) ?_;exact⟨⟨ai.flat 1 [] n,rfl,(wn af af aD).mono I⟩,bu,left,next,cy,I,rfl⟩
 refine N ?_;refine ch (λh=>?_) (λh=>?_)
 .refine N ?_;refine aW (Ah aa aS p bq left next bk cY) ?_;rintro v A ⟨⟨t,rfl,au⟩,bu,cq,cl,cy,kr,rfl⟩;refine N ?_;refine hZ (FI aa _ _ _) ?_;have rB:=bY p V iZ (al.mk [65,114,114,97,121] 86 [t]) (GT.one af af (au.mono I:GT (K+9) t)) eL cq cl bu cy I;refine bw ?_;rw[mO t];refine aW rB ?_;rintro v A ⟨⟨e,rfl,aw⟩,b1,c9,dm,dl,mu,rfl⟩;refine bw ?_;exact⟨⟨_,ai.agg pm mG lm (pF e),kY af af af af jP.nil km.nil kP.nil (ks.one af aw)⟩,b1,c9,dm,dl,I,rfl⟩
 refine N ?_;refine ch (λh=>?_) (λh=>?_)
 .refine N ?_;refine dW (ky aa _) ?_;refine aW (bY p V iZ _ M3 eL left next bk cY I) ?_;rintro v A ⟨⟨e,rfl,aw⟩,b1,c9,dm,dl,mu,rfl⟩;refine bw ?_;exact⟨⟨_,ai.agg pm mG lm (pF e),kY af af af af jP.nil km.nil kP.nil (ks.one af aw)⟩,b1,c9,dm,dl,I,rfl⟩
 refine bw ?_;refine aW (dy aa aS bk 7 cY af af) ?_;rintro v A ⟨⟨b3,rfl,ct⟩,bu,cy,rfl⟩;obtain⟨op,eI,ag⟩:∃op:bj,op.length=1/\fT [[b9.str [43]],[b9.str [45]],[b9.str [42]],[b9.str [47]],[b9.str [37]],[b9.str [43]],[b9.str [45]]] b3=[.str op]:=by have:b3=0\/b3=1\/b3=2\/b3=3\/b3=4\/b3=5\/b3=6:=I;rcases this with rfl|rfl|rfl|rfl|rfl|rfl|rfl<;>exact⟨_,rfl,rfl⟩
 (conv=>whnf)
 repeat((first|refine bV.mk (show b3<7 from ct) ?_|refine dU.mk _ ag ?_|(refine aW (ky aa _) ?_;rintro v A ⟨rfl,rfl⟩)|refine da ?_);(conv=>whnf))
 refine aW (bY p V iZ _ q6 eL left next bu cy I) ?_;rintro v A ⟨⟨e,rfl,aw⟩,b1,c9,dm,dl,mu,rfl⟩
 (conv=>whnf)
 repeat((first|(refine aW (ky aa _) ?_;rintro v A ⟨rfl,rfl⟩)|refine da ?_);(conv=>whnf))
 refine aW (bY p V iZ _ q6 eL c9 dm b1 dl I) ?_;rintro v A ⟨⟨a3,rfl,fb⟩,cP,eg,fp,gz,qj,rfl⟩;refine bw ?_;exact⟨⟨_,ai.agg pm mG lm (mM e a3),kY af I af af jP.nil km.nil kP.nil (ks.two af aw fb)⟩,cP,eg,fp,gz,I,rfl⟩
theorem art(apN)(bB:List cG)(eZ:bB.length<=5)(anj:∀x∈bB,rS x)(MQ)(c7:List bj)(o4:c7.length<500)(W4)(mZ:List al)(aB:mZ.length<500)(AS:∀t∈mZ,GT (K+4) t)(eL left next a)(aC:a<=Q.length)(aD:next+400*m<=1000000000000000):bU C [] 215 [.bN 1000 0,.J (.aH apN (bB.map cG.row)),.J (.aH MQ (c7.map b6)),.J (.aH W4 (mZ.map al.row)),.J (.aH eL (V.map cG.row)),.J (.int 3 d)] [(1000,iU p left next),(1001,dD g Q a)] (Made p g Q (next+5*m) λv=>∃(Rn:Nat)(g0:List ai),v=.aH Rn (g0.map ai.row)/\ks gJ Rn g0):=by
 refine aa.z 215 (gK [(0,[8,9,10,11,15,16,17,18,19,20],[⟨false,7,0,900,45,11⟩],[900,1000,1001]),(2,[11,19],[⟨false,7,0,900,45,11⟩],[15,900,1000,1001])]) rfl rfl ?_;have bq:=aQ.ok;have iZ:=aQ.up (x9:=K+10) (gD:=L+10) I I;have er:(bB.map cG.row).length=bB.length:=bW;refine N ?_;refine hs cG.row bB 14 (λ_ (_:List ai×Nat×Nat×Nat)=>[(7,.bD 900)]) (λ_ b=>[(900,.bF 45 11 (b.1.map ai.row) true),(1000,iU p b.2.1 b.2.2.1),(1001,dD g Q b.2.2.2)]) (λN b=>b.1.length=N.length/\(∀k∈b.1,GE gJ k)/\b.2.2.1<=next+N.length*m/\b.2.2.2<=Q.length) ⟨([],left,next,a),⟨rfl,(λ_ h=>by cases h),by simp,aC⟩,by kernel_rfl⟩ (λN b x r ba aw be ag a7 bt=>?_) (λb ba a7=>?_)
 .have⟨dR,du,gq,fN⟩:=a7;have M:=anj x (by simp[aw]);have kG:N.length<bB.length:=I;have bC:(b.1.map ai.row).length=b.1.length:=bW;have aX:N.length*m<=4*m:=q4 _ I;unfold cG.row at ag;simp only[lJ,ps]at ag;have⟨y,aE,x2⟩:=nU cG.row (l:=bB) (i:=0) I;unfold cG.row at x2;simp only[lJ,ps]at x2;have Ik:((bB.map cG.row).drop N.length).take ((bB.map cG.row).length - N.length)=(x::r).map cG.row:=by rw[<-qK,LF,aw,<-List.map_drop,List.drop_left]
  have f8:((x::r).map cG.row).length=(x::r).length:=bW;have jy:(x::r).length<=5:=by rw[aw]at eZ;simp at eZ ⊢;omega
  (conv=>whnf)
  repeat(first|refine dU.mk _ x2 ?_|refine mK.some I I ?_|refine .yes (dg.2 be) ?_|refine⟨be,⟨_,ag,?_⟩⟩|refine da ?_);(conv=>whnf)
  rw[Ik];refine hs cG.row (x::r) 18 (λ_ (q:Bool)=>[(10,.J (.bool q))]) (λ_ _=>[(15,.box 134 15 (.cb (b9.str x.ay::b9.str x.bL.ay::b9.aH x.bL.g (x.bL.l.map al.row)::b9.bool x.has::x.gk.cells))),(900,.bF 45 11 (b.1.map ai.row) true),(1000,iU p b.2.1 b.2.2.1),(1001,dD g Q b.2.2.2)]) (λ_ _=>True) ⟨true,trivial,by kernel_rfl⟩ (λd2 q z b3 gl fb ft ct dq fj=>?_) (λq gl dq=>?_)
  .have g1:d2.length<(x::r).length:=I;unfold cG.row at ct;simp only[lJ,ps]at ct;have be:=ft;have ag:=ct
   (conv=>whnf)
   repeat' (first|refine .yes (dg.2 be) ?_|refine⟨be,⟨_,ag,?_⟩⟩|refine da ?_|refine a3 ?_|refine s2 ?_ ?_<;>intros|fail)<;>(conv=>whnf)
   .exact fj z.has _ _ trivial (by kernel_rfl)
   .exact fj false _ _ trivial (by kernel_rfl)
  .refine dd ?_;refine eO (λa0=>?_) (λa0=>?_);case' refine_1=>
    (conv=>whnf)
    repeat refine bZ ?_;(conv=>whnf)
    refine aW (dy aa aS _ 2 fN af af) ?_;rintro v A ⟨⟨iQ,rfl,iv⟩,b1,dl,rfl⟩
    (conv=>whnf)
    repeat(refine bZ ?_;conv=>whnf)
    refine ch (λh=>?_) (λh=>?_)
    ·(conv=>whnf)
     repeat refine bZ ?_;(conv=>whnf)
     exact⟨⟨_,b.1,rfl,I,du,.inr af⟩,b1,b.2.1,b.2.2.1,dl,I,rfl⟩
   case' refine_2=>have dl:=fN
   all_goals
    (conv=>whnf)
    repeat refine bZ ?_;(conv=>whnf)
    refine aW (xN aa (K+4) 5 I af x.bL M.bL MQ W4 c7 mZ I I AS) ?_
    rintro v A ⟨rfl,ka,rfl,o0⟩
    (conv=>whnf)
    repeat refine bZ ?_;(conv=>whnf)
    refine aW (bY p V iZ ka (o0.mono I) eL _ _ _ dl I) ?_
    rintro v A ⟨⟨e,rfl,kf⟩,cP,eg,fp,gz,qj,rfl⟩
    have b4:(N.length+1)*m=N.length*m+m:=Z8 ..
    refine bw ?_
    exact bt (b.1++[e],eg,fp,cP) _ _ ⟨by simp[dR],λy aE=>by
     rcases l8.1 aE with aE|aE
     .exact du y aE
     .rw[ji.1 aE];exact kf,by simp only[fP,IA];omega,gz⟩ (by rw[jj,x5,ai.dN];kernel_rfl)
 .have⟨dR,du,gq,fN⟩:=a7;have dR:b.1.length=bB.length:=dR;have aX:bB.length*m<=5*m:=q4 _ I;refine dd ?_;exact⟨⟨_,b.1,rfl,I,du,.inr af⟩,b.2.2.2,b.2.1,b.2.2.1,fN,I,rfl⟩
end
section
variable{C:Nat->cE}{ext:Nat->Option eS}{Q:e9}(aa:Env C ext Q)
include aa
variable{g:Nat}
variable(aS:jW Q)(p:sj)(V:List cG)(K L d m gJ:Nat)(aQ:so p V K L)(gP:K<=300)(cB:L<=1000)(aY:0<d)(g1:d<=100)(hm:0<m)(kZ:4<=gJ)(bY:tE C g Q (d - 1) m (K+10) (L+10) gJ)
include aS aQ gP cB aY g1 hm kZ bY
theorem akQ(t)(au:GT K t)(eL left next a)(aC:a<=Q.length)(aD:next+400*m<=1000000000000000):bU C [] 150 [.bN 1000 0,.J (.agg t.cells),.J (.aH eL (V.map cG.row)),.J (.int 3 d)] [(1000,iU p left next),(1001,dD g Q a)] (Made p g Q (next+190*m) λv=>∃e ok,v=.gy [.agg (ai.cells e),.bool ok]/\GE (gJ+1) e):=by
 refine aa.z 150 (gK [(0,[7,8,9,10,18,19,20,21,22,23],[],[5,8,1000,1001]),(2,[10,22,23],[],[5,8,11,12,1000,1001]),(4,[14,27,28],[],[5,8,16,17,1000,1001])]) rfl rfl ?_;have bq:=aQ.ok;have iZ:=aQ.up (x9:=K+10) (gD:=L+10) I I;have er:(V.map cG.row).length=V.length:=bW;have tN:=aQ.tN;refine N ?_;refine hs cG.row V 17 (λ_ (_:Nat)=>[]) (λ_ a=>[(5,.box 43 2 (.cb t.cells)),(8,mR),(1000,iU p left next),(1001,dD g Q a)]) (λN a=>a<=Q.length) ⟨a,aC,by kernel_rfl⟩ (λN b x r ba aw be ag a7 bt=>?_) (λb ba a7=>?_)
 .have M:x∈V:=by simp[aw]
  have kG:N.length<V.length:=I;have fc:=aQ.v1 x M;have gv:=aQ.v2 x M;have n5:x.bL.ay.length<=300:=fc.ay;unfold cG.row at ag;simp only[lJ,ps]at ag;refine zL ?_;refine aW (N9 aa p.W bq.ck bq.ef p.iD x.bL.ay I) ?_;rintro v A ⟨rfl,s,Uw,rfl,ap⟩;have bD:(s.fields.map eT.row).length=s.fields.length:=bW;have UA:=ap.hr;refine bw ?_;refine hs eT.row s.fields 21 (λ_ (_:Nat)=>[]) (λ_ a=>[(5,.box 43 2 (.cb t.cells)),(8,mR),(11,.box 134 15 (.cb (cG.row x))),(12,.box 74 6 (.cb (dX.row s))),(1000,iU p left next),(1001,dD g Q a)]) (λN a=>a<=Q.length) ⟨b,a7,by kernel_rfl⟩ (λd2 dp f r gl fb ft ct dq fj=>?_) (λdp gl dq=>?_)
  .have g1:d2.length<s.fields.length:=I;have a1:=ap.nw f (by simp[fb]);have f1:=a1.ay;unfold eT.row at ct;have be:=ft;have ag:=ct
   (conv=>whnf)
   repeat' ((first|refine .yes (dg.2 be) ?_|refine⟨be,⟨_,ag,?_⟩⟩|(refine aW (EO aa aS p left next _ dq x.bL.ay I) ?_;rintro v A ⟨rfl,b,rfl⟩)|refine da ?_|((with_reducible first|apply eh|apply jQ|apply ch|apply cQ|apply eQ|apply mr|apply mD|apply eO)<;>intros))<;>(conv=>whnf))
   all_goals try exact fj dp _ _ dq (by kernel_rfl)
   all_goals
    refine aW (xN aa K 5 I af f.bL a1.bL s.aj x.bL.g s.params x.bL.l (by have:=ap.pl;omega) (by have:=GT.GU fc;omega) (GT.sub fc)) ?_
    rintro v A ⟨rfl,ka,rfl,o0⟩
    (conv=>whnf)
    repeat(refine bZ ?_;conv=>whnf)
    refine aW (Hd aa _ K ka t o0 au) ?_
    rintro v A ⟨rfl,cQ,rfl⟩
    (conv=>whnf)
    repeat(refine bZ ?_;conv=>whnf)
    refine eO (λa0=>?_) (λa0=>?_)
    ·(conv=>whnf)
     repeat(refine bZ ?_;conv=>whnf)
     refine aW (dy aa aS _ 3 dq af af) ?_;rintro v A ⟨⟨iQ,rfl,iv⟩,b1,dl,rfl⟩
     (conv=>whnf)
     repeat refine bZ ?_;(conv=>whnf)
     refine eh (λh=>?_) (λh=>?_)
     .refine bw ?_;exact⟨⟨_,true,ai.D1 pm mG lm (pF (ai.flat 3 x.ay 0)),kY af af I af jP.nil km.nil kP.nil (ks.one af ((wn af I af).mono I))⟩,b1,left,next,dl,I,rfl⟩
     ·(conv=>whnf)
      repeat refine da ?_;(conv=>whnf)
      exact fj b1 _ _ dl (by kernel_rfl)
    ·(conv=>whnf)
     repeat refine bZ ?_;(conv=>whnf)
     exact fj dp _ _ dq (by kernel_rfl)
  .refine dd ?_;exact bt dp _ _ dq (by kernel_rfl)
 .refine dd ?_;refine aW (Ah aa aS p bq left next b a7) ?_;rintro v A ⟨⟨on,rfl,mb⟩,bu,cq,cl,cy,kr,rfl⟩;refine N ?_;refine aW (N9 aa p.W bq.ck bq.ef p.iD on.ay (by have:=mb.ay;omega)) ?_;rintro v A ⟨rfl,s,Uw,rfl,ap⟩;have bD:(s.fields.map eT.row).length=s.fields.length:=bW;have UA:=ap.hr;refine bw ?_;refine hs eT.row s.fields 26 (λ_ (_:Unit)=>[]) (λ_ _=>[(5,.box 43 2 (.cb t.cells)),(8,mR),(16,.box 43 2 (.cb on.cells)),(17,.box 74 6 (.cb (dX.row s))),(1000,iU p cq cl),(1001,dD g Q bu)]) (λN _=>True) ⟨(),trivial,by kernel_rfl⟩ (λd2 dp f r gl fb ft ct dq fj=>?_) (λdp gl dq=>?_)
  .have g1:d2.length<s.fields.length:=I;have a1:=ap.nw f (by simp[fb]);have f1:=a1.ay;unfold eT.row at ct;have be:=ft;have ag:=ct
   (conv=>whnf)
   repeat' (first|refine .yes (dg.2 be) ?_|refine⟨be,⟨_,ag,?_⟩⟩|(refine aW (EO aa aS p cq cl _ cy on.ay (by have:=mb.ay;omega)) ?_;rintro v A ⟨rfl,b,rfl⟩)|refine da ?_|refine a3 ?_|refine s2 ?_ ?_<;>intros|fail)<;>(conv=>whnf)
   all_goals try exact fj () _ _ trivial (by kernel_rfl)
   all_goals
    refine aW (xN aa 4 5 I af f.bL a1.bL s.aj on.g s.params on.l (by have:=ap.pl;omega) (by have:=GT.GU mb;omega) (GT.sub mb)) ?_
    rintro v A ⟨rfl,ka,rfl,o0⟩
    refine N ?_
    refine aW (Hd aa _ K ka t o0 au) ?_
    rintro v A ⟨rfl,cQ,rfl⟩
    refine N ?_
    refine eO (λa0=>?_) (λa0=>?_)
    .refine N ?_;refine aW (bY p V iZ on (mb.mono I) eL cq cl bu cy I) ?_;rintro v A ⟨⟨e,rfl,kf⟩,cP,eg,fp,gz,qj,rfl⟩;refine bw ?_;exact⟨⟨_,true,ai.D1 pm mG lm (pF e),kY af af I af jP.nil km.nil kP.nil (ks.one af kf)⟩,cP,eg,fp,gz,I,rfl⟩
    .refine N ?_;exact fj () _ _ trivial (by kernel_rfl)
  .refine dd ?_;exact⟨⟨ai.nil,false,rfl,q5.mono I⟩,bu,cq,cl,cy,I,rfl⟩
end
section
variable{C:Nat->cE}{ext:Nat->Option eS}{Q:e9}(aa:Env C ext Q)
include aa
variable{g:Nat}
variable(aS:jW Q)(p:sj)(V:List cG)(K L d m gJ:Nat)(aQ:so p V K L)(gP:K<=300)(cB:L<=1000)(aY:0<d)(g1:d<=100)(hm:0<m)(kZ:4<=gJ)(bY:tE C g Q (d - 1) m (K+10) (L+10) gJ)
include aS aQ gP cB aY g1 hm kZ bY
theorem agy(t)(au:GT K t)(eL left next a)(aC:a<=Q.length)(aD:next+400*m<=1000000000000000):bU C [] 151 [.bN 1000 0,.J (.agg t.cells),.J (.aH eL (V.map cG.row)),.J (.int 3 d)] [(1000,iU p left next),(1001,dD g Q a)] (Made p g Q (next+190*m) λv=>∃e ok,v=.gy [.agg (ai.cells e),.bool ok]/\GE (gJ+1) e):=by
 refine aa.z 151 (gK [(0,[7,8,9,10,11,12,16,17,18,19,20,21,22,23,24,25,26,27,28,29,30,31,32],[],[5,8,1000,1001]),(2,[8,9,10,11,12,21,22,23,24,25,26,27,28,29,30,31,32],[],[5,8,11,1000,1001]),(4,[9,10,11,12,25,26,27,28,29,30,31,32],[],[5,8,11,13,1000,1001]),(6,[12,32],[⟨true,17,7,900,45,11⟩],[8,16,17,900,1000,1001])]) rfl rfl ?_;have bq:=aQ.ok;have iZ:=aQ.up (x9:=K+10) (gD:=L+10) I I;have er:(p.W.map cZ.cells).length=p.W.length:=bW;have aoM:=bq.ef;have agl:=bq.LN;have arM:=bq.hQ;refine N ?_;refine hs cZ.cells p.W 15 (λ_ (_:Nat×Nat×Nat)=>[]) (λ_ b=>[(5,.box 43 2 (.cb t.cells)),(8,mR),(1000,iU p b.1 b.2.1),(1001,dD g Q b.2.2)]) (λN b=>b.2.1<=next/\b.2.2<=Q.length) ⟨(left,next,a),⟨fI _,aC⟩,by kernel_rfl⟩ (λN b y r ba aw be ag a7 bt=>?_) (λb ba a7=>?_)
 .have aE:=bq.ck y (by simp[aw]);have kG:N.length<p.W.length:=I;have c4:(y.e2.map eG.row).length=y.e2.length:=bW;have c9:=aE.c9;have yi:=aE.ay
  (conv=>whnf)
  repeat(first|refine .yes (dg.2 be) ?_|refine⟨be,⟨_,ag,?_⟩⟩|refine bZ ?_);(conv=>whnf)
  refine eQ (cQ (λD=>?_) (λD=>?_));case' refine_1.refine_2=>
   (conv=>whnf)
   repeat(refine bZ ?_;conv=>whnf)
   refine aW (J6 aa p.hQ p.jY y.ay I) ?_;rintro v A ⟨rfl,V5,rfl⟩
   (conv=>whnf)
   repeat(refine bZ ?_;conv=>whnf)
   refine eQ (eO (λF=>?_) (λF=>?_))
  case' refine_1.refine_2.refine_2=>
   (conv=>whnf)
   repeat(refine bZ ?_;conv=>whnf)
   exact bt b _ _ a7 (by kernel_rfl)
  all_goals
   (conv=>whnf)
   repeat refine bZ ?_;(conv=>whnf)
   refine hs eG.row y.e2 20 (λ_ (_:Nat×Nat×Nat)=>[]) (λ_ b=>[(5,.box 43 2 (.cb t.cells)),(8,mR),(11,.box 34 9 (.cb y.cells)),(1000,iU p b.1 b.2.1),(1001,dD g Q b.2.2)]) (λN b=>b.2.1<=next/\b.2.2<=Q.length) ⟨b,a7,by kernel_rfl⟩ (λd2 dp q b3 gl fb ft ct dq fj=>?_) (λdp gl dq=>?_)
   .have a0:=aE.el q (by simp[fb]);have alF:d2.length<y.e2.length:=I;have cl:(q.eu.map fS.row).length=q.eu.length:=bW;have eg:=a0.xx;have asE:=a0.ay;have be:=ft;have ag:=ct;unfold eG.row at ag;refine dk ?_;refine hs fS.row q.eu 24 (λ_ (_:Nat×Nat×Nat)=>[]) (λ_ b=>[(5,.box 43 2 (.cb t.cells)),(8,mR),(11,.box 34 9 (.cb y.cells)),(13,.box 82 5 (.cb q.row)),(1000,iU p b.1 b.2.1),(1001,dD g Q b.2.2)]) (λN b=>b.2.1<=next/\b.2.2<=Q.length) ⟨dp,dq,by kernel_rfl⟩ (λd3 ga x iQ zK CH JQ iv ng qe=>?_) (λga zK ng=>?_)
    .have M:=a0.rN x (by simp[CH]);have at4:d3.length<q.eu.length:=I;have atA:=M.ay;have be:=JQ;have ag:=iv;unfold fS.row at ag;have⟨dR,du⟩:=ng
     (conv=>whnf)
     repeat' (first|refine .yes (dg.2 be) ?_|refine⟨be,⟨_,ag,?_⟩⟩|(refine aW (Hd aa 5 K x.eW t M.eW au) ?_;rintro v A ⟨rfl,cQ,rfl⟩)|(refine aW (wQ aa aS ga.2.2 3 du af af) ?_;rintro v A ⟨⟨sd,rfl⟩,cP,gz,rfl⟩)|refine da ?_|refine a3 ?_|refine s2 ?_ ?_<;>intros|fail)<;>(conv=>whnf)
     all_goals try first|exact qe (ga.1,ga.2.1,cP) _ _ ⟨dR,gz⟩ (by kernel_rfl)|exact qe ga _ _ ⟨dR,du⟩ (by kernel_rfl)
     all_goals
      refine aW (Ah aa aS p bq ga.1 ga.2.1 cP gz) ?_
      rintro v A ⟨⟨on,rfl,mb⟩,dO,fJ,Fb,np,Sa,rfl⟩
      refine bw ?_
      refine aW (QN aa p.W bq.ck bq.ef p.iD p.hN p.G I bq.ge 4 af (y.ay++[46]++q.ay) on mb) ?_
      rintro v A ⟨rfl,XH,rfl⟩
      (conv=>whnf)
      repeat refine da ?_;(conv=>whnf)
      refine eQ (eO (λh=>?_) (λh=>?_))
      case' refine_1=>obtain⟨uB,OP,rfl⟩:∃uB:al,GT 4 uB/\uB=on:=⟨on,mb,rfl⟩
      case' refine_2=>
       (conv=>whnf)
       repeat refine bZ ?_;(conv=>whnf)
       refine aW (ky aa _) ?_;rintro v A ⟨rfl,h⟩;obtain⟨uB,OP,a3⟩:∃uB:al,GT 4 uB/\(al.mk [73,110,116] 1 []).cells=uB.cells:=⟨_,GT.nil af af af,rfl⟩;rw[a3]at h;subst h
      all_goals
       (conv=>whnf)
       repeat(refine da ?_;conv=>whnf)
       refine aW (QN aa p.W bq.ck bq.ef p.iD p.hN p.G I bq.ge 4 af (y.ay++[46]++q.ay) uB OP) ?_
       rintro v A ⟨rfl,auM,rfl⟩
       (conv=>whnf)
       repeat(refine bZ ?_;conv=>whnf)
       refine eQ (eO (λh=>?_) (λh=>?_))
       case' refine_2=>
        (conv=>whnf)
        repeat refine bZ ?_;(conv=>whnf)
        exact qe (fJ,Fb,dO) _ _ ⟨by show Fb<=next;omega,np⟩ (by kernel_rfl)
       refine bw ?_
       have h5:(x.args.map al.row).length=x.args.length:=bW
       have akp:=M.jI
       refine hs al.row x.args 31 (λ_ (_:List ai×Nat×Nat×Nat)=>[]) (λ_ b=>[(8,mR),(16,.box 43 2 (.cb uB.cells)),(17,.box 45 11 (.bS [.J (.int 3 10),.J (.str (y.ay++[46]++q.ay)),.J (.str x.ay),.J (.int 3 0),.J (.aH 86 [uB.cells]),.bx,.bx,.bD 900,.J (.str []),.bx,.J (.int 3 0)])),(900,.bF 45 11 (b.1.map ai.row) true),(1000,iU p b.2.1 b.2.2.1),(1001,dD g Q b.2.2.2)]) (λN b=>b.1.length=N.length/\(∀k∈b.1,GE gJ k)/\b.2.2.1<=next+N.length*m/\b.2.2.2<=Q.length) ⟨([],fJ,Fb,dO),⟨rfl,(λ_ h=>by cases h),by show Fb<=next+0*m;omega,np⟩,by kernel_rfl⟩ (λd4 fX z my wR Dv ym qx n8 qC=>?_) (λfX wR n8=>?_)
       .have⟨cT,cN,el,e0⟩:=n8;have cA:=M.jO z (by simp[Dv]);have TE:d4.length<x.args.length:=I;have bC:(fX.1.map ai.row).length=fX.1.length:=bW;have aX:d4.length*m<=4*m:=q4 _ I;have b4:(d4.length+1)*m=d4.length*m+m:=Z8 ..;have be:=ym;have ag:=qx;rw[al.dN]at ag;have Z3:=xN aa 4 5 af af z cA 18 86 [[83,101,108,102]] [uB] af (by simp) (λt h=>by rw[ji.1 h];exact OP);simp only[gg,hq,al.dN]at Z3;refine zL ?_;refine aW Z3 ?_;rintro v A ⟨rfl,ka,rfl,o0⟩;refine bw ?_;refine aW (bY p V iZ ka (o0.mono I) eL _ _ _ e0 I) ?_;rintro v A ⟨⟨e,rfl,kf⟩,eb,v8,io,qS,SE,rfl⟩;refine bw ?_;exact qC (fX.1++[e],v8,io,eb) _ _ ⟨by simp[cT],λy aE=>by
         rcases l8.1 aE with aE|aE
         .exact cN y aE
         .rw[ji.1 aE];exact kf,by simp only[fP,IA];omega,qS⟩ (by rw[jj,x5,ai.dN];kernel_rfl)
       .have⟨cT,cN,el,e0⟩:=n8;have cT:fX.1.length=x.args.length:=cT;have aX:x.args.length*m<=5*m:=q4 _ akp;refine dd ?_;exact⟨⟨_,true,ai.D1 (mO uB) mG lm rfl,kY af (by simp only[fP,IA];omega) I af (jP.one af OP af) km.nil kP.nil ⟨I,cN,.inr af⟩⟩,fX.2.2.2,fX.2.1,fX.2.2.1,e0,I,rfl⟩
    .refine dd ?_;exact fj ga _ _ ng (by kernel_rfl)
   .refine dd ?_;exact bt dp _ _ dq (by kernel_rfl)
 .refine dd ?_;exact⟨⟨ai.nil,false,rfl,q5.mono I⟩,b.2.2,b.1,b.2.1,a7.2,I,rfl⟩
end
section
variable{C:Nat->cE}{ext:Nat->Option eS}{Q:e9}(aa:Env C ext Q)
include aa
variable{g:Nat}
variable(aS:jW Q)(p:sj)(V:List cG)(K L d m gJ:Nat)(aQ:so p V K L)(gP:K<=300)(cB:L<=1000)(aY:0<d)(g1:d<=100)(hm:0<m)(kZ:4<=gJ)(bY:tE C g Q (d - 1) m (K+10) (L+10) gJ)
include aS aQ gP cB aY g1 hm kZ bY
abbrev al9:Nat->Nat->Option qq:=gK [(0,[10,11,12,23,24],[],[5,8,10,12,1000,1001]),(2,[15,16,17,18,19,30,31,32,33,34,35],[⟨true,17,6,901,105,3⟩,⟨true,17,7,900,45,11⟩],[5,8,10,12,17,900,901,1000,1001]),(4,[18,19,35],[⟨true,17,6,901,105,3⟩,⟨true,17,7,900,45,11⟩,⟨true,21,2,902,9,1⟩],[5,8,10,12,17,20,21,900,901,902,1000,1001])]
def apa:Option (dV×al)->uq
 |none=>.bS [.J (.int 3 0),.J (.bool false),.J (.bool false),.J (.str []),.bx,.bx]|some (u,_)=>.cb (dV.row u)
def am6:Option (dV×al)->uq
 |none=>.bS [.J (.str []),.bx]|some (_,on)=>.cb on.cells
abbrev eV:a2:=.J .undef
abbrev am9(p:sj)(V:List cG)(K eL d next:Nat)(Q:e9)(g:Nat)(t:al)(E:bK)(A:bf):Prop:=∃(kx n1 Sq Wa NM:b9)(aeT:Bool)(u:dV)(on:al)(cH Gw bk:Nat),xy u/\GT (K+4) on/\Gw<=next/\bk<=Q.length/\E=[.bN 1000 0,.J (.agg t.cells),.J (.aH eL (V.map cG.row)),.J (.int 3 d),.bN 5 0,.bN 8 0,.J (.bool false),.bN 10 0,.J (.bool aeT),.bN 12 0,eV,eV,eV,eV,eV,eV,eV,eV,eV,eV,.J kx,.J n1,.J Sq,.J Wa,eV,.J NM,eV,eV,eV,eV,eV,eV,eV,eV,eV,eV,eV]/\A=[(5,.box 43 2 (.cb t.cells)),(8,mR),(10,.box 78 6 (.cb (dV.row u))),(12,.box 43 2 (.cb on.cells)),(1000,iU p cH Gw),(1001,dD g Q bk)]
theorem anU(t)(au:GT K t)(eL left next a)(aC:a<=Q.length)(aD:next+400*m<=1000000000000000):bU C [] 149 [.bN 1000 0,.J (.agg t.cells),.J (.aH eL (V.map cG.row)),.J (.int 3 d)] [(1000,iU p left next),(1001,dD g Q a)] (Made p g Q (next+190*m) λv=>∃e ok,v=.gy [.agg (ai.cells e),.bool ok]/\GE (gJ+1) e):=by
 refine aa.z 149 al9 rfl rfl ?_;have bq:=aQ.ok;have er:(V.map cG.row).length=V.length:=bW;have tN:=aQ.tN
 refine N ?_
 refine hs cG.row V 22 (λ_ (b:Option (dV×al))=>[(8,.J (.bool b.isSome))]) (λ_ b=>[(5,.box 43 2 (.cb t.cells)),(8,mR),(10,.box 78 6 (apa b)),(12,.box 43 2 (am6 b)),(1000,iU p left next),(1001,dD g Q a)]) (λN b=>∀u on,b=some (u,on)->xy u/\GT K on) ⟨none,(λ_ _ h=>by cases h),by kernel_rfl⟩ (λN b x r ba aw be ag a7 bt=>?_) (λb ba a7=>?_)
 .have M:x∈V:=by simp[aw]
  have kG:N.length<V.length:=I;have fc:=aQ.v1 x M;have gv:=aQ.v2 x M;have n5:x.bL.ay.length<=300:=fc.ay;unfold cG.row at ag;simp only[List.cons_append,List.nil_append]at ag;cases b;all_goals
   (conv=>whnf)
   repeat((first|refine .yes (dg.2 be) ?_|refine⟨be,⟨_,ag,?_⟩⟩|refine da ?_);(conv=>whnf))
   refine aW (OR aa p.W bq.ck bq.ef p.iD x.bL.ay I) ?_
   rintro v A ⟨rfl,u,IU,rfl,hu⟩
   refine bw ?_
   refine eO (λh=>?_) (λh=>?_)
   ·refine bw ?_
    exact bt (some (u,x.bL)) _ _ (λ_ _ h=>by cases h;exact⟨hu,fc⟩) (by kernel_rfl)
  ·refine bw ?_
   exact bt none _ _ a7 (by kernel_rfl)
  ·refine bw ?_
   exact bt (some _) _ _ a7 (by kernel_rfl)
 .have cA:∀u on,b=some (u,on)->xy u/\GT K on:=a7
  (conv=>whnf)
  repeat((first|refine .no (pe _) ?_|refine .mk ⟨rfl,by simp only[List.length_cons,List.length_nil];omega⟩ ?_|refine .mk I ?_|refine .mk y5 ?_|refine .nice I ?_|refine .yes af ?_|refine .no af ?_|refine qi (by kernel_rfl) ?_);(conv=>whnf))
  refine .plain ?_
  (conv=>whnf)
  repeat((first|refine .no (pe _) ?_|refine .mk ⟨rfl,by simp only[List.length_cons,List.length_nil];omega⟩ ?_|refine .mk I ?_|refine .mk y5 ?_|refine .nice I ?_|refine .yes af ?_|refine .no af ?_|refine qi (by kernel_rfl) ?_);(conv=>whnf))
  refine .join (am9 p V K eL d next Q g t) ?_ ?_
  .rcases b with _|⟨EK,Sr⟩
   case' none=>
    have cY:=aC
    refine N ?_
   case' some=>
    (conv=>whnf)
    repeat((first|refine .no rfl ?_|refine bZ ?_);(conv=>whnf))
    refine aW (wQ aa aS a 3 aC af af) ?_;rintro v A ⟨⟨sd,rfl⟩,bk,cY,rfl⟩
    refine N ?_
    refine eO (λh=>?_) (λh=>?_)
   case' some.refine_2=>
    refine N ?_
    exact⟨_,_,_,_,_,true,EK,Sr,left,next,bk,(cA EK Sr rfl).1,(cA EK Sr rfl).2.mono I,Nat.le_refl _,cY,rfl,rfl⟩
   case' some.refine_1=>
    refine N ?_
   iterate 2
    .refine aW (Ah aa aS p bq left next _ cY) ?_;rintro v A ⟨⟨on,rfl,mb⟩,bu,cq,cl,cy,kr,rfl⟩
     refine N ?_
     refine aW (OR aa p.W bq.ck bq.ef p.iD on.ay (by have:=mb.ay;omega)) ?_;rintro v A ⟨rfl,u,IU,rfl,hu⟩
     refine N ?_
     exact⟨_,_,_,_,_,IU,u,on,cq,cl,bu,hu,mb.mono I,kr,cy,rfl,rfl⟩
  .rintro E A ⟨kx,n1,Sq,Wa,NM,aeT,u,on,cH,Gw,bk,hu,mb,rD,cY,rfl,rfl⟩;have iZ:=aQ.up (x9:=K+10) (gD:=L+10) I I;have adm:(u.cases.map fl.row).length=u.cases.length:=bW;have abB:=hu.ou
   refine N ?_
   refine eQ (eO (λh=>?_) (λh=>?_));case' refine_2=>
    refine bw ?_
    exact⟨⟨ai.nil,false,rfl,q5.mono I⟩,bk,cH,Gw,cY,I,rfl⟩
   refine N ?_
   refine ch (λamt=>?_) (λamt=>?_)
   ·refine bw ?_
    exact⟨⟨ai.nil,false,rfl,q5.mono I⟩,bk,cH,Gw,cY,I,rfl⟩
   refine N ?_
   refine aW (bY p V iZ on (mb.mono I) eL cH Gw bk cY I) ?_;rintro v A ⟨⟨fg,rfl,Sv⟩,bu,cq,cl,cy,kr,rfl⟩
   (conv=>whnf)
   repeat' ((first|(refine aW (EO aa aS p cq cl _ cy on.ay (by have:=mb.ay;omega)) ?_;rintro v A ⟨rfl,yc,rfl⟩)|(refine aW (dy aa aS bu 2 cy af af) ?_;rintro v A ⟨⟨iQ,rfl,iv⟩,bu,cy,rfl⟩)|refine da ?_|((with_reducible first|apply eh|apply jQ|apply ch|apply cQ|apply eQ|apply mr|apply mD|apply eO)<;>intros))<;>(conv=>whnf))
   all_goals
    refine hs fl.row u.cases 29 (λ_ (_:Bool×List ai×List dI×Nat×Nat×Nat)=>[]) (λ_ b=>[(5,.box 43 2 (.cb t.cells)),(8,mR),(10,.box 78 6 (.cb (dV.row u))),(12,.box 43 2 (.cb on.cells)),(17,.box 45 11 (.bS [.J (.int 3 15),.J (.str []),.J (.str []),.J (.int 3 0),.bx,.bx,.bD 901,.bD 900,.J (.str []),.bx,.J (.int 3 0)])),(900,.bF 45 11 (b.2.1.map ai.row) b.1),(901,.bF 105 3 (b.2.2.1.map dI.row) true),(1000,iU p b.2.2.2.1 b.2.2.2.2.1),(1001,dD g Q b.2.2.2.2.2)]) (λN b=>(0<b.2.1.length/\b.2.1.length<=N.length+1)/\(∀k∈b.2.1,GE gJ k)/\b.2.2.1.length<=N.length/\(∀k∈b.2.2.1,Kx k)/\b.2.2.2.2.1<=cl+N.length*(7*m)/\b.2.2.2.2.2<=Q.length) ⟨(false,[fg],[],cq,cl,bu),⟨by simp,(λk h=>by rw[List.mem_singleton.1 h];exact Sv),by simp,(λ_ h=>by cases h),by simp,cy⟩,by rw[List.map_cons,List.map_nil,ai.dN];kernel_rfl⟩ (λN b c r ba aw be ag a7 bt=>?_) (λb ba a7=>?_)
    .have⟨dR,du,gq,fN,kF,ut⟩:=a7;have kG:N.length<u.cases.length:=I;have Ss:=hu.A3 c (by simp[aw]);have en:=Ss.ay;have gI:=Ss.pl;have bC:(b.2.1.map ai.row).length=b.2.1.length:=bW;have aX:(b.2.2.1.map dI.row).length=b.2.2.1.length:=bW;have b4:N.length*(7*m)<=5*(7*m):=Nat.mul_le_mul_right _ I;have dc:(N.length+1)*(7*m)=N.length*(7*m)+7*m:=Nat.succ_mul ..;have eC:(c.gL.map al.row).length=c.gL.length:=bW;unfold fl.row at ag;obtain⟨dO,Hx,mm⟩:∃dO,dO<=Q.length/\dO=b.2.2.2.2.2:=⟨_,ut,rfl⟩;rw[<-mm]
     (conv=>whnf)
     repeat' ((first|refine .yes (dg.2 be) ?_|refine⟨be,⟨_,ag,?_⟩⟩|(refine aW (dy aa aS dO 3 Hx af af) ?_;rintro v A ⟨⟨pH,rfl,aeK⟩,dO,Hx,rfl⟩)|refine da ?_|((with_reducible first|apply eh|apply jQ|apply ch|apply cQ|apply eQ|apply mr|apply mD|apply eO)<;>intros))<;>(conv=>whnf))
     all_goals try exact bt (b.1,b.2.1,b.2.2.1,b.2.2.2.1,b.2.2.2.2.1,dO) _ _ ⟨by simp only[List.length_append,List.length_singleton];omega,du,by simp only[List.length_append,List.length_singleton];omega,fN,by simp only[List.length_append,List.length_singleton];omega,Hx⟩ (by kernel_rfl)
     all_goals
      refine hs al.row c.gL 34 (λ_ (s:Nat×List cG×List bj×Nat)=>[(17,.J (.aH s.1 (s.2.1.map cG.row)))]) (λ_ s=>[(5,.box 43 2 (.cb t.cells)),(8,mR),(10,.box 78 6 (.cb (dV.row u))),(12,.box 43 2 (.cb on.cells)),(17,.box 45 11 (.bS [.J (.int 3 15),.J (.str []),.J (.str []),.J (.int 3 0),.bx,.bx,.bD 901,.bD 900,.J (.str []),.bx,.J (.int 3 0)])),(20,.box 128 3 (.cb (fl.row c))),(21,.box 105 3 (.bS [.J (.bool false),.J (.str c.ay),.bD 902])),(900,.bF 45 11 (b.2.1.map ai.row) b.1),(901,.bF 105 3 (b.2.2.1.map dI.row) true),(902,.bF 9 1 (s.2.2.1.map b6) true),(1000,iU p b.2.2.2.1 s.2.2.2),(1001,dD g Q dO)]) (λd s=>so p s.2.1 (K+10) (V.length+d.length)/\s.2.2.1.length=d.length/\(∀x∈s.2.2.1,x.length<=100)/\s.2.2.2<=b.2.2.2.2.1+d.length) ⟨(eL,V,[],b.2.2.2.2.1),⟨⟨bq,Nat.le_refl _,iZ.v1,iZ.v2⟩,rfl,(λ_ h=>by cases h),Nat.le_refl _⟩,by kernel_rfl⟩ (λd4 s z my wR Dv ym qx n8 qC=>?_) (λs wR n8=>?_)
      .have⟨cT,cN,el,e0⟩:=n8;have TE:d4.length<c.gL.length:=I;have ahD:=Ss.tF z (by simp[Dv]);have oy:(s.2.2.1.map b6).length=s.2.2.1.length:=bW;have yE:=cT.tN;have be:=ym;have ag:=qx;rw[al.dN]at ag
       (conv=>whnf)
       repeat((first|refine .yes (dg.2 be) ?_|refine⟨be,⟨_,ag,?_⟩⟩|refine da ?_);(conv=>whnf))
       refine aW (aeE aa aS p b.2.2.2.1 s.2.2.2 dO Hx I) ?_;rintro v A ⟨rfl,OM,rfl,auT⟩
       refine bw ?_
       refine aW (xN aa (K+4) 5 I af z ahD u.aj on.g u.params on.l (by have:=hu.pl;omega) (by have:=GT.GU mb;omega) (GT.sub mb)) ?_;rintro v A ⟨rfl,ka,rfl,o0⟩
       refine bw ?_
       refine aW (abx aa s.1 s.2.1 I OM ka) ?_;rintro v A ⟨rfl,ry,rfl⟩
       refine bw ?_
       exact qC (ry,s.2.1++[cG.new OM ka],s.2.2.1++[OM],s.2.2.2+1) _ _ ⟨⟨bq,by simp only[List.length_append,List.length_singleton];omega,λy aE=>by
        rcases List.mem_append.1 aE with aE|aE
        .exact cT.v1 y aE
        .rw[List.mem_singleton.1 aE];exact o0.mono I,λy aE=>by
        rcases List.mem_append.1 aE with aE|aE
        .exact cT.v2 y aE
        .rw[List.mem_singleton.1 aE];show OM.length<=100;omega⟩,by simp only[List.length_append,List.length_singleton];omega,λy aE=>by
        rcases List.mem_append.1 aE with aE|aE
        .exact el y aE
        .rw[List.mem_singleton.1 aE];omega,by simp only[List.length_append,List.length_singleton];omega⟩ (by rw[@List.map_append _ _ b6];kernel_rfl)
      .have⟨cT,cN,el,e0⟩:=n8;have cN:s.2.2.1.length=c.gL.length:=cN;have e0:s.2.2.2<=b.2.2.2.2.1+c.gL.length:=e0;have oy:(s.2.2.1.map b6).length=s.2.2.1.length:=bW;have PV:=bY p s.2.1 ⟨bq,by have:=cT.tN;omega,cT.v1,cT.v2⟩ t (au.mono I) s.1 b.2.2.2.1 s.2.2.2 dO Hx I;cases pz:b.1;all_goals
        (conv=>whnf)
        repeat((first|refine .no (pe _) ?_|refine bZ ?_);(conv=>whnf))
        refine bw ?_
        refine aW PV ?_
        rintro v A ⟨⟨e,rfl,kf⟩,eb,v8,io,qS,SE,rfl⟩
        refine bw ?_
        exact bt (true,b.2.1++[e],b.2.2.1++[⟨false,c.ay,19,s.2.2.1⟩],v8,io,eb) _ _ ⟨by simp only[List.length_append,List.length_singleton];omega,λy aE=>by
         rcases List.mem_append.1 aE with aE|aE
         .exact du y aE
         .rw[List.mem_singleton.1 aE];exact kf,by simp only[List.length_append,List.length_singleton];omega,λy aE=>by
         rcases List.mem_append.1 aE with aE|aE
         .exact fN y aE
         .rw[List.mem_singleton.1 aE];exact⟨en,by show s.2.2.1.length<=10;omega,el,.inr (af:19 / 2=9)⟩,by simp only[List.length_append,List.length_singleton];omega,qS⟩ (by rw[List.map_append,List.map_append,List.map_singleton,List.map_singleton,ai.dN];kernel_rfl)
    .have⟨dR,du,gq,fN,kF,ut⟩:=a7;have dR:0<b.2.1.length/\b.2.1.length<=u.cases.length+1:=dR;have gq:b.2.2.1.length<=u.cases.length:=gq;have b4:u.cases.length*(7*m)<=6*(7*m):=Nat.mul_le_mul_right _ I;have kF:b.2.2.2.2.1<=cl+u.cases.length*(7*m):=kF;have bC:(b.2.1.map ai.row).length=b.2.1.length:=bW;have aX:(b.2.2.1.map dI.row).length=b.2.2.1.length:=bW;have PV:=bY p V iZ t (au.mono I) eL b.2.2.2.1 b.2.2.2.2.1 b.2.2.2.2.2 ut I;cases pz:b.1;all_goals
      (conv=>whnf)
      repeat((first|refine .no (pe _) ?_|refine bZ ?_);(conv=>whnf))
      (conv=>whnf)
      repeat' ((first|(refine aW PV ?_;rintro v A ⟨⟨e,rfl,kf⟩,eb,v8,io,qS,SE,rfl⟩)|refine da ?_|((with_reducible first|apply eh|apply jQ|apply ch|apply cQ|apply eQ|apply mr|apply mD|apply eO)<;>intros))<;>(conv=>whnf))
      all_goals first
       |exact⟨⟨_,true,ai.D1 pm mG rfl rfl,kY af af af af jP.nil km.nil ⟨I,fN,.inr af⟩ ⟨I,du,.inr af⟩ λ_=>dR.1⟩,b.2.2.2.2.2,b.2.2.2.1,b.2.2.2.2.1,ut,I,rfl⟩
       |exact⟨⟨_,true,ai.D1 (bM:=b.2.2.1++[⟨true,[],1,[]⟩]) (kids:=b.2.1++[e]) pm mG (by rw[List.map_append];rfl) (by rw[List.map_append,List.map_singleton,ai.dN]),kY af af af af jP.nil km.nil ⟨by simp only[List.length_append,List.length_singleton];omega,λy aE=>by
        rcases List.mem_append.1 aE with aE|aE
        .exact fN y aE
        .rw[List.mem_singleton.1 aE];exact⟨by show 0<=100;omega,by show 0<=10;omega,(λ_ h=>by cases h),.inl rfl⟩,.inr af⟩ ⟨by simp only[List.length_append,List.length_singleton];omega,λy aE=>by
        rcases List.mem_append.1 aE with aE|aE
        .exact du y aE
        .rw[List.mem_singleton.1 aE];exact kf,.inr af⟩⟩,eb,v8,io,qS,I,rfl⟩
end
end Go.Tx
