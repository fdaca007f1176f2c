/- A part. -/
import Derived.Test.YtkjmpcfikenlbaaGreatDoorG3
set_option linter.all false
namespace Go.Tx
open Go Go.Ev
set_option maxRecDepth 100000
set_option maxHeartbeats 8000000
attribute [local irreducible] eo eA bU eE eJ eN cU eX
section
variable{C:Nat->cE}{ext:Nat->Option eS}{Q:e9}(aa:Env C ext Q)
include aa
variable{g:Nat}
variable(aS:jW Q)
include aS
def aci(zl)(br:zl=0\/zl=18446744073709551615)(K L)(gP:K<=360)(cB:L<=5000):tE C g Q zl 1 K L 4:=by
 intro p V aQ t au eL left next a aC aD
 have bq:=aQ.ok;have tN:=aQ.tN;refine aa.z 65 ff rfl rfl ?_;rcases br with rfl|rfl
 all_goals
  refine N ?_
  refine uj.rJ ?_
  refine N ?_
 all_goals try
  refine q2.rJ ?_
  refine N ?_
  refine .yes (by unfold eo;decide) ?_
  refine N ?_
 all_goals
  refine aW (TG aa aS p bq eL V I K aQ.v1 aQ.v2 2 af K I t au _ next a aC) ?_
  rintro v A ⟨⟨e,rfl,aw⟩,b1,c9,dm,dl,mu,rfl⟩
  refine bw ?_
  exact⟨⟨e,rfl,aw⟩,b1,c9,dm,dl,I,rfl⟩
def afH(d m K L gJ)(aY:0<d)(g1:d<=100)(hm:0<m)(gP:K<=300)(cB:L<=1000)(kZ:4<=gJ)(bY:tE C g Q (d - 1) m (K+10) (L+10) gJ)(OK:tE C g Q (if d=1 then 18446744073709551615 else d - 2) m (K+10) (L+10) gJ):tE C g Q d (400*m) K L (gJ+1):=by
 intro p V aQ t au eL left next a aC aD
 have bq:=aQ.ok;have tN:=aQ.tN;have iZ:=aQ.up (x9:=K+10) (gD:=L+10) I I;have x6:=au.mono (j:=K+10) I;have q6:GT (K+10) (al.mk [73,110,116] 1 []):=GT.nil af af I;have M3:GT (K+10) (al.mk [66,111,111,108] 1 []):=GT.nil af af I;refine aa.z 65 ff rfl rfl ?_;refine N ?_;refine uj.rJ ?_;generalize eJ 18446744073709551616 left 1=cH
 (conv=>whnf)
 repeat' (first|refine q2.rJ ?_|refine hZ (ae7 aa aS a aC) ?_|refine bZ ?_|refine a3 ?_|refine s2 ?_ ?_<;>intros|fail)<;>(conv=>whnf)
 all_goals try
  refine aW (TG aa aS p bq eL V I K aQ.v1 aQ.v2 2 af K I t au cH next a aC) ?_
  rintro v A ⟨⟨e,rfl,aw⟩,b1,c9,dm,dl,mu,rfl⟩
  refine bw ?_
  exact⟨⟨e,rfl,aw.mono I⟩,b1,c9,dm,dl,I,rfl⟩
 refine aW (dy aa aS a 14 aC af af) ?_;rintro v A ⟨⟨r,rfl,ag⟩,bk,cY,rfl⟩;have:r=0\/r=1\/r=2\/r=3\/r=4\/r=5\/r=6\/r=7\/r=8\/r=9\/r=10\/r=11\/r=12\/r=13:=I;clear ag;rcases this with rfl|rfl|rfl|rfl|rfl|rfl|rfl|rfl|rfl|rfl|rfl|rfl|rfl|rfl
 all_goals
  refine N ?_
 have q6:GT (K+10) (al.mk [73,110,116] 1 []):=GT.nil af af I;have M3:GT (K+10) (al.mk [66,111,111,108] 1 []):=GT.nil af af I
 .refine aW (Ux aa aS p cH next bk cY K eL V I aQ.v1 aQ.v2 K t au) ?_;rintro v A ⟨⟨x,ok,rfl,M⟩,b1,c9,dm,dl,mu,rfl⟩;refine N ?_;refine eO (λa4=>?_) (λa4=>?_)
  .refine bw ?_;exact⟨⟨x,rfl,M.mono I⟩,b1,c9,dm,dl,I,rfl⟩
  refine N ?_;refine aW (vy aa aS p V K L d m gJ aQ gP cB aY g1 hm kZ bY t au eL c9 dm b1 dl I) ?_;rintro v A ⟨⟨e,rfl,aw⟩,gZ,mY,il,jp,vT,rfl⟩;refine bw ?_;exact⟨⟨e,rfl,aw⟩,gZ,mY,il,jp,I,rfl⟩
 .refine aW (Ah aa aS p bq cH next bk cY) ?_;rintro v A ⟨⟨on,rfl,mb⟩,bu,cq,cl,cy,kr,rfl⟩;refine N ?_;refine aW (aeE aa aS p cq cl bu cy I) ?_;rintro v A ⟨rfl,s,rfl,ap⟩;refine N ?_;refine aW (bY p V iZ on (mb.mono I) eL cq (cl+1) bu cy I) ?_;rintro v A ⟨⟨e,rfl,aw⟩,b1,c9,dm,dl,mu,rfl⟩;refine N ?_;refine aW (abx aa eL V I s on) ?_;rintro v A ⟨rfl,iD,rfl⟩;refine N ?_;have aoT:so p (V++[cG.new s on]) (K+10) (L+10):=⟨bq,by simp only[fP,IA];omega,λx M=>by
   rcases l8.1 M with M|M
   .exact(aQ.v1 x M).mono I
   .rw[ji.1 M];exact mb.mono I,λx M=>by
   rcases l8.1 M with M|M
   .exact aQ.v2 x M
   .rw[ji.1 M];show s.length<=100;omega⟩
  refine aW (bY p (V++[cG.new s on]) aoT t x6 iD c9 dm b1 dl I) ?_;rintro v A ⟨⟨a3,rfl,fb⟩,cP,eg,fp,gz,qj,rfl⟩;refine bw ?_;exact⟨⟨_,ai.agg pm mG lm (mM e a3),kY af I af af jP.nil km.nil kP.nil (ks.two af aw fb)⟩,cP,eg,fp,gz,I,rfl⟩
 .refine bn (ky aa _) ?_;refine aW (bY p V iZ _ M3 eL cH next bk cY I) ?_;rintro v A ⟨⟨e,rfl,aw⟩,b1,c9,dm,dl,mu,rfl⟩;refine N ?_;refine aW (bY p V iZ t x6 eL c9 dm b1 dl I) ?_;rintro v A ⟨⟨a3,rfl,fb⟩,cP,eg,fp,gz,qj,rfl⟩;refine N ?_;refine aW (bY p V iZ t x6 eL eg fp cP gz I) ?_;rintro v A ⟨⟨cW,rfl,CH⟩,dO,fJ,h5,np,Sa,rfl⟩;refine bw ?_;exact⟨⟨_,ai.agg pm mG lm (ae6 e a3 cW),kY af af af af jP.nil km.nil kP.nil (ks.three af aw fb CH)⟩,dO,fJ,h5,np,I,rfl⟩
 .refine aW (Ah aa aS p bq cH next bk cY) ?_;rintro v A ⟨⟨on,rfl,mb⟩,bu,cq,cl,cy,kr,rfl⟩;refine N ?_;refine aW (bY p V iZ on (mb.mono I) eL cq cl bu cy I) ?_;rintro v A ⟨⟨e,rfl,aw⟩,b1,c9,dm,dl,mu,rfl⟩;refine N ?_;refine aW (bY p V iZ t x6 eL c9 dm b1 dl I) ?_;rintro v A ⟨⟨a3,rfl,fb⟩,cP,eg,fp,gz,qj,rfl⟩;refine bw ?_;exact⟨⟨_,ai.agg pm mG lm (mM e a3),kY af af af af jP.nil km.nil kP.nil (ks.two af aw fb)⟩,cP,eg,fp,gz,I,rfl⟩
 .refine aW (wQ aa aS bk 4 cY af af) ?_;rintro v A ⟨⟨sd,rfl⟩,bu,cy,rfl⟩;refine N ?_;refine eO (λa4=>?_) (λa4=>?_)
  .refine N ?_;refine aW (NK aa aS bu cy) ?_;rintro v A ⟨⟨x,rfl,M⟩,b1,dl,rfl⟩;refine N ?_;refine dW (aeA aa t x) ?_;exact⟨⟨_,rfl,kY af af af af (jP.one af au I) km.nil kP.nil (ks.one af ((wn af af M).mono I))⟩,b1,cH,next,dl,I,rfl⟩
  refine N ?_;refine aW (vy aa aS p V K L d m gJ aQ gP cB aY g1 hm kZ bY t au eL cH next bu cy I) ?_;rintro v A ⟨⟨e,rfl,aw⟩,gZ,mY,il,jp,vT,rfl⟩;refine bw ?_;exact⟨⟨e,rfl,aw⟩,gZ,mY,il,jp,I,rfl⟩
 .refine aW (PM aa aS p V K L d m gJ aQ gP cB aY g1 hm kZ bY t au eL cH next bk cY I) ?_;rintro v A ⟨⟨x,ok,rfl,M⟩,b1,c9,dm,dl,mu,rfl⟩;refine N ?_;refine eO (λa4=>?_) (λa4=>?_)
  .refine bw ?_;exact⟨⟨_,rfl,M⟩,b1,c9,dm,dl,I,rfl⟩
  refine N ?_;refine aW (vy aa aS p V K L d m gJ aQ gP cB aY g1 hm kZ bY t au eL c9 dm b1 dl I) ?_;rintro v A ⟨⟨e,rfl,aw⟩,gZ,mY,il,jp,vT,rfl⟩;refine bw ?_;exact⟨⟨e,rfl,aw⟩,gZ,mY,il,jp,I,rfl⟩
 .refine aW (PM aa aS p V K L d m gJ aQ gP cB aY g1 hm kZ bY t au eL cH next bk cY I) ?_;rintro v A ⟨⟨x,ok,rfl,M⟩,b1,c9,dm,dl,mu,rfl⟩;refine N ?_;refine eO (λa4=>?_) (λa4=>?_)
  .refine bw ?_;exact⟨⟨_,rfl,M⟩,b1,c9,dm,dl,I,rfl⟩
  refine N ?_;refine aW (vy aa aS p V K L d m gJ aQ gP cB aY g1 hm kZ bY t au eL c9 dm b1 dl I) ?_;rintro v A ⟨⟨e,rfl,aw⟩,gZ,mY,il,jp,vT,rfl⟩;refine bw ?_;exact⟨⟨e,rfl,aw⟩,gZ,mY,il,jp,I,rfl⟩
 .refine aW (PM aa aS p V K L d m gJ aQ gP cB aY g1 hm kZ bY t au eL cH next bk cY I) ?_;rintro v A ⟨⟨x,ok,rfl,M⟩,b1,c9,dm,dl,mu,rfl⟩;refine N ?_;refine eO (λa4=>?_) (λa4=>?_)
  .refine bw ?_;exact⟨⟨_,rfl,M⟩,b1,c9,dm,dl,I,rfl⟩
  refine N ?_;refine aW (vy aa aS p V K L d m gJ aQ gP cB aY g1 hm kZ bY t au eL c9 dm b1 dl I) ?_;rintro v A ⟨⟨e,rfl,aw⟩,gZ,mY,il,jp,vT,rfl⟩;refine bw ?_;exact⟨⟨e,rfl,aw⟩,gZ,mY,il,jp,I,rfl⟩
 .refine aW (anU aa aS p V K L d m gJ aQ gP cB aY g1 hm kZ bY t au eL cH next bk cY I) ?_;rintro v A ⟨⟨x,ok,rfl,M⟩,b1,c9,dm,dl,mu,rfl⟩;refine N ?_;refine eO (λa4=>?_) (λa4=>?_)
  .refine bw ?_;exact⟨⟨_,rfl,M⟩,b1,c9,dm,dl,I,rfl⟩
  refine N ?_;refine aW (vy aa aS p V K L d m gJ aQ gP cB aY g1 hm kZ bY t au eL c9 dm b1 dl I) ?_;rintro v A ⟨⟨e,rfl,aw⟩,gZ,mY,il,jp,vT,rfl⟩;refine bw ?_;exact⟨⟨e,rfl,aw⟩,gZ,mY,il,jp,I,rfl⟩
 .refine aW (akQ aa aS p V K L d m gJ aQ gP cB aY g1 hm kZ bY t au eL cH next bk cY I) ?_;rintro v A ⟨⟨x,ok,rfl,M⟩,b1,c9,dm,dl,mu,rfl⟩;refine N ?_;refine eO (λa4=>?_) (λa4=>?_)
  .refine bw ?_;exact⟨⟨_,rfl,M⟩,b1,c9,dm,dl,I,rfl⟩
  refine N ?_;refine aW (vy aa aS p V K L d m gJ aQ gP cB aY g1 hm kZ bY t au eL c9 dm b1 dl I) ?_;rintro v A ⟨⟨e,rfl,aw⟩,gZ,mY,il,jp,vT,rfl⟩;refine bw ?_;exact⟨⟨e,rfl,aw⟩,gZ,mY,il,jp,I,rfl⟩
 .refine aW (agy aa aS p V K L d m gJ aQ gP cB aY g1 hm kZ bY t au eL cH next bk cY I) ?_;rintro v A ⟨⟨x,ok,rfl,M⟩,b1,c9,dm,dl,mu,rfl⟩;refine N ?_;refine eO (λa4=>?_) (λa4=>?_)
  .refine bw ?_;exact⟨⟨_,rfl,M⟩,b1,c9,dm,dl,I,rfl⟩
  refine N ?_;refine aW (vy aa aS p V K L d m gJ aQ gP cB aY g1 hm kZ bY t au eL c9 dm b1 dl I) ?_;rintro v A ⟨⟨e,rfl,aw⟩,gZ,mY,il,jp,vT,rfl⟩;refine bw ?_;exact⟨⟨e,rfl,aw⟩,gZ,mY,il,jp,I,rfl⟩
 .refine bn (FI aa _ _ _) ?_;have eZ:GT (K+10) (al.mk [65,114,114,97,121] 86 [t]):=(GT.one af af au).mono I;rw[mO t];refine hZ (agI aa (al.mk [65,114,114,97,121] 86 [t]) (eZ.b0 I)) ?_;have akW:=eZ.ir;generalize(al.mk [65,114,114,97,121] 86 [t]).ir=oA at akW;refine N ?_;refine eh (λvu=>?_) (λvu=>?_)
  .refine N ?_;refine aW (bY p V iZ (al.mk [65,114,114,97,121] 86 [t]) eZ eL cH next bk cY I) ?_;rintro v A ⟨⟨e,rfl,aw⟩,b1,c9,dm,dl,mu,rfl⟩;refine N ?_;refine hZ (ky aa _) ?_;rcases m4 1 d with qd|qd
   .rw[cO I]at OK;refine N ?_;refine aW (OK p V iZ _ q6 eL c9 dm b1 dl I) ?_;rintro v A ⟨⟨a3,rfl,fb⟩,cP,eg,fp,gz,qj,rfl⟩;refine bw ?_;exact⟨⟨_,ai.agg pm mG lm (mM e a3),kY af af af af jP.nil km.nil kP.nil (ks.two af aw fb)⟩,cP,eg,fp,gz,I,rfl⟩
   .have qd:d=1:=I;subst qd;rw[ev rfl]at OK
    (conv=>whnf)
    repeat(first|refine uj.rJ ?_|refine bZ ?_);(conv=>whnf)
    rw[show eJ 18446744073709551616 1 2=18446744073709551615 from by unfold eJ;rfl];refine aW (OK p V iZ _ q6 eL c9 dm b1 dl I) ?_;rintro v A ⟨⟨a3,rfl,fb⟩,cP,eg,fp,gz,qj,rfl⟩;refine bw ?_;exact⟨⟨_,ai.agg pm mG lm (mM e a3),kY af af af af jP.nil km.nil kP.nil (ks.two af aw fb)⟩,cP,eg,fp,gz,I,rfl⟩
  refine N ?_;refine aW (vy aa aS p V K L d m gJ aQ gP cB aY g1 hm kZ bY t au eL cH next bk cY I) ?_;rintro v A ⟨⟨e,rfl,aw⟩,gZ,mY,il,jp,vT,rfl⟩;refine bw ?_;exact⟨⟨e,rfl,aw⟩,gZ,mY,il,jp,I,rfl⟩
 .have bx:(p.jY.map b6).length=p.jY.length:=bW;have atq:=bq.LN
  (conv=>whnf)
  repeat' (first|(refine aW (wQ aa aS bk 2 cY af af) ?_;rintro v A ⟨⟨sd,rfl⟩,bu,cy,rfl⟩)|refine bZ ?_|refine a3 ?_|refine s2 ?_ ?_<;>intros|fail)<;>(conv=>whnf)
  .refine aW (dy aa aS bu (p.jY.map b6).length cy I I) ?_;rintro v A ⟨⟨r,rfl,ag⟩,b1,dl,rfl⟩;have⟨DZ,aiJ,nv⟩:=nU b6 ag;have atH:=bq.DZ DZ aiJ;unfold b6 at nv
   (conv=>whnf)
   repeat(first|refine⟨ag,⟨_,nv,?_⟩⟩|refine dU.mk _ nv ?_|refine bV.mk ag ?_|refine bZ ?_);(conv=>whnf)
   refine aW (dy aa aS b1 4 dl af af) ?_;rintro v A ⟨⟨b3,rfl,ct⟩,cP,gz,rfl⟩;refine N ?_;refine aW (bY p V iZ t x6 eL cH next cP gz I) ?_;rintro v A ⟨⟨e,rfl,aw⟩,dO,fJ,h5,np,Sa,rfl⟩;refine N ?_;refine aW (bY p V iZ t x6 eL fJ h5 dO np I) ?_;rintro v A ⟨⟨a3,rfl,fb⟩,eb,v8,io,qS,SE,rfl⟩;refine bw ?_;exact⟨⟨_,ai.agg pm mG lm (ae6 (ai.flat 20 DZ (1+b3)) e a3),kY af af af af jP.nil km.nil kP.nil (ks.three af ((wn af I I).mono I) aw fb)⟩,eb,v8,io,qS,I,rfl⟩
  all_goals
   refine aW (vy aa aS p V K L d m gJ aQ gP cB aY g1 hm kZ bY t au eL cH next _ (by assumption) I) ?_
   rintro v A ⟨⟨e,rfl,aw⟩,gZ,mY,il,jp,vT,rfl⟩
   refine bw ?_
   exact⟨⟨e,rfl,aw⟩,gZ,mY,il,jp,I,rfl⟩
 .refine aW (vy aa aS p V K L d m gJ aQ gP cB aY g1 hm kZ bY t au eL cH next bk cY I) ?_;rintro v A ⟨⟨e,rfl,aw⟩,gZ,mY,il,jp,vT,rfl⟩;refine bw ?_;exact⟨⟨e,rfl,aw⟩,gZ,mY,il,jp,I,rfl⟩
def adw:∀d,d<=5->∀K L,K+10*d<=300->L+10*d<=1000->tE C g Q d (400 ^ d) K L (4+d):=by
 intro d;induction d using Nat.strongRecOn with
 |ind d bQ=>
  intro aY K L gP cB;cases d with
  |zero=>exact aci aa aS 0 (.inl rfl) K L I I
  |succ d=>
   rw[Nat.pow_succ,Nat.mul_comm];have hm:0<400 ^ d:=Nat.pow_pos af;have D:=bQ d I I (K+10) (L+10) I I;refine afH aa aS (d+1) (400 ^ d) K L (4+d) I I hm I I I D ?_;have up:∀(zl:Nat)(m gJ:Nat),m<=400 ^ d->gJ<=4+d->tE C g Q zl m (K+10) (L+10) gJ->tE C g Q zl (400 ^ d) (K+10) (L+10) (4+d):=λzl m gJ D F h p V aQ t au eL left next a aC aD=>(h p V aQ t au eL left next a aC I).imp λv A=>by rintro⟨⟨e,rfl,aw⟩,b1,c9,dm,dl,mu,rfl⟩;exact⟨⟨e,rfl,aw.mono F⟩,b1,c9,dm,dl,I,rfl⟩
   cases d with
   |zero=>exact up _ 1 4 af af (aci aa aS _ (.inr rfl) (K+10) (L+10) I I)|succ d=>rw[cO I];exact up _ (400 ^ d) (4+d) (Nat.pow_le_pow_right af I) I (bQ d I I (K+10) (L+10) I I)
end
def Nk(X:aO):bf->Prop
 |[]=>True|(_,.box _ _ _)::r=>Nk X r|(_,.bF _ _ Q _)::r=>h7 X Q=false/\Nk X r
def iV(X:aO):fB->fB
 |.box ak z (.cb l)=>.box ak z (.cb (l.map (jo X)))|.box ak z (.bS l)=>.box ak z (.bS (l.map (i5 X)))|.bF ak z Q u=>.bF ak z Q u
def iI(X:aO):bf->bf
 |[]=>[]|(s,B)::l=>(s,iV X B)::iI X l
def OY{X}:∀{A}{k},Nk X A->k (iI X A)->Da X A k
 |[],k,_,h=>h
 |(s,.box ak z (.cb l))::r,k,aD,h=>by unfold Da;exact Z1 (OY (k:=λr=>k ((s,.box ak z (.cb _))::r)) aD h)
 |(s,.box ak z (.bS l))::r,k,aD,h=>by unfold Da;exact Ho (OY (k:=λr=>k ((s,.box ak z (.bS _))::r)) aD h)
 |(s,.bF ak z Q u)::r,k,aD,h=>by unfold Da;exact⟨aD.1,OY (k:=λr=>k ((s,.bF ak z Q u)::r)) aD.2 h⟩
def i6{a}{X:aO}{L E}{A}{k}(aD:Nk (a::X) A)(h:k (L.map (dF (i5 (a::X)))) (E.map (dF (i5 (a::X)))) (iI (a::X) A)):ia (a::X) L E A k:=
 Ve (Ve (OY aD h))
def i3{X}{s}:i5 X (.bD s)=.bD s:=rfl
def agt{X}{s B r}:i5 X (.fU s r B)=.fU s r B:=rfl
def pL{X}{g}:i5 X (.J (.aH g []))=.J (.aH g []):=ij (by simp only[cf])
def Mu{Q ak}(h:Q≠[]):cf [ak] (.aH (2*ak+1) Q):=by
 cases Q with
 |nil=>exact absurd rfl h|cons a l=>have:(2*ak+1) / 2=ak:=I;simp only[cf,this,cn,kN rfl,aqL]
def pc{α:Type}(ak g:Nat)(l:List α):Prop:=l=[]/\g % 2=1\/g=2*ak+1
def pc.A{ak g z}{α}{aJ:α->di}{l:List α}(h:pc ak g l)(ag:∀x,gC (aJ x) z):l.map aJ=[]/\g % 2=1\/g=2*ak+1/\l.map aJ≠[]/\gC (fT (l.map aJ) 0) z:=by
 cases l with
 |nil=>exact .inl ⟨rfl,by rcases h with h|h<;>omega⟩
 |cons a l=>
  rcases h with⟨h,_⟩|h
  .cases h
  .exact .inr ⟨h,by simp,ag a⟩
def pc.G{α}{ak g}{l:List α}(h:pc ak g l):hJ ak g l:=by
 rcases h with h|h
 .exact .inl h.1
 .exact .inr I
def pc.full{α}{ak g}{l:List α}{aJ:α->di}(h:pc ak g l)(Y:l.map aJ≠[]):cf [ak] (.aH g (l.map aJ)):=by
 rcases h with h|rfl
 .exact absurd (by rw[h.1];rfl) Y
 .exact Mu Y
def r9{X}{g e z b n}{Q:g4}{x y}(h:Q=[]/\g % 2=1\/g=2*e+1/\Q≠[]/\gC (fT Q 0) z)(cA:0<z)(cR:cn e (fq X))(aB:(Q.length+n)*b<=2147483647)(M:Q≠[]->x)(aE:Q=[]->y):wo X g e z b n Q x y:=by
 rcases h with⟨rfl,h⟩|⟨rfl,D,F⟩
 .exact .fresh (.inr (by simp only[fT,gC];cases z with|zero=>omega|succ z=>rfl)) h rfl (by simpa using aB) (aE rfl)
 .exact .ab7 rfl F cR aB (M D)
def oj{X}:∀{l m:g4},h7 X l=false->h7 X m=false->h7 X (l++m)=false
 |[],m,_,h=>h
 |a::l,m,D,F=>by simp only[h7,H8,lJ]at D ⊢;exact⟨D.1,oj D.2 F⟩
def jA{X}{r:di}(h:eD X r=false):h7 X [r]=false:=by simp only[h7,h,oi]
def Ga.cj{X}(cR:Tx.cj X [43]){k}{t}(h:GT k t):eD X t.cells=false:=by have:=h.zE cR;rwa[al.dN]at this
def iN.nw{X}{x}(h:iN x):cf X (.aH x.aj (x.fA.map hM.row))=false:=by rw[h.tW];rfl
def iN.cK{X}(cR:Tx.cj X [43,9,124,74]){x}(h:iN x):cf X (.aH x.an (x.dJ.map dX.row))=false:=kk h.er (cR 74 af) λf a1=>(h.cT f a1).cj (cR.sub af)
def iN.tc{X}(cR:Tx.cj X [43,9,128,78]){x}(h:iN x):cf X (.aH x.aM (x.d9.map dV.row))=false:=kk h.f8 (cR 78 af) λf a1=>(h.cN f a1).cj (cR.sub af)
def iN.ka{X}(cR:Tx.cj X [43,130,82]){x}(h:iN x):cf X (.aH x.bs (x.e2.map eG.row))=false:=kk h.jy (cR 82 af) λf a1=>(h.el f a1).cj (cR.sub af)
def iN.uZ{X}(cR:Tx.cj X [43,9,132,147,86]){x}(h:iN x):cf X (.aH x.cp (x.dn.map em.row))=false:=kk h.lj (cR 86 af) λf a1=>(h.e0 f a1).cj (cR.sub af)
def iN.kn{X}(cR:Tx.cj X [43,9,105,45,132,134,49]){x}(h:iN x):cf X (.aH x.dj (x.funcs.map cu.row))=false:=kk h.ny (cR 49 af) λf a1=>(h.gB f a1).cj (cR.sub af)
def iN.xs{X}(cR:Tx.cj X [43,9,124]){x}(h:iN x):h7 X (x.dJ.map dX.row)=false:=tn λf a1=>(h.cT f a1).cj (cR.sub af)
def iN.Tm{X}(cR:Tx.cj X [43,9,128]){x}(h:iN x):h7 X (x.d9.map dV.row)=false:=tn λf a1=>(h.cN f a1).cj (cR.sub af)
def iN.Fl{X}(cR:Tx.cj X [43,130]){x}(h:iN x):h7 X (x.e2.map eG.row)=false:=tn λf a1=>(h.el f a1).cj (cR.sub af)
def iN.Mn{X}(cR:Tx.cj X [43,9,132,147]){x}(h:iN x):h7 X (x.dn.map em.row)=false:=tn λf a1=>(h.e0 f a1).cj (cR.sub af)
def iN.i9{X}(cR:Tx.cj X [43,9,105,45,132,134]){x}(h:iN x):h7 X (x.funcs.map cu.row)=false:=tn λf a1=>(h.gB f a1).cj (cR.sub af)
def uc{X}{hN}{G}(h:hJ 132 hN G)(aa:∀x∈G,n3 x)(cR:Tx.cj X [9,132]):cf X (.aH hN (G.map c3.row))=false:=kk h (cR 132 af) λf a1=>(aa f a1).cj (cR.sub af)
abbrev jr(x:cZ):fB:=.box 64 12 (.bS ([.bN 1001 0,.J (.aH 1 []),.J (.aH 1 [])]++x.cells.map .J))
def jW.cj{Q}(aS:jW Q){g}(bI:g / 2=3){X}(cR:cn 3 X=false):cf X (.op g Q.W)=false:=rfl
def Y2{X}{g}{r:di}(D:cn (g / 2) X=false)(F:eD X r=false):cf X (.aH g [r])=false:=by simp only[cf,h7,D,F,oi]
def BX{X}:eD X []=false:=rfl
def tV{X}{a}{l:di}(D:cf X a=false)(F:eD X l=false):eD X (a::l)=false:=by simp only[eD,D,F,oi]
def Bb{X}{g}:cf X (.aH g [])=false:=by simp only[cf]
def B7{X}{l:di}(h:eD X l=false):cf X (.agg l)=false:=by simp only[cf];exact h
def lv{X}{t}(h:cf X t=false):jo X t=t:=by simp only[jo,h]
def ac3{X}{r:di}{l:g4}(h:eD X r=false)(F:h7 X l=false):h7 X (r::l)=false:=by simp only[h7,h,F,oi]
def GT.S{k}(s:bj)(h:s.length<=300)(aC:s≠[65,114,114,97,121]):GT (k+1) (al.mk s 1 []):=GT.nil h aC I
def nZ{X}{g}{W}:i5 X (.J (.op g W))=.J (.op g W):=ij (by simp only[cf])
structure iO(x:cZ):Prop where
 ck:iN x
 fO:pc 74 x.an x.dJ
 j3:pc 78 x.aM x.d9
 lz:pc 82 x.bs x.e2
 n9:pc 86 x.cp x.dn
 mC:pc 49 x.dj x.funcs
 m0:x.kind=1->0<x.rel
def qf{α:Type}{p:α->Prop}{l:List α}{a}(h:∀x∈l,p x)(aC:p a):∀x∈l++[a],p x:=λx M=>by
 rcases l8.1 M with M|M
 .exact h x M
 .rw[ji.1 M];exact aC
def HP{α:Type}{l:List α}{a}{n}(h:l.length<n):(l++[a]).length<=n:=by rw[fP];exact h
def iO.iy{x}(h:iO x){s}(ap:DD s)(Y:x.dJ.length<10):iO {x with an:=149,dJ:=x.dJ++[s]}:=
 ⟨⟨h.ck.kind,h.ck.rel,h.ck.ay,h.ck.tW,HP Y,qf h.ck.cT ap,.inr (af:149 / 2=74),h.ck.cq,h.ck.cN,h.ck.f8,h.ck.c9,h.ck.el,h.ck.jy,h.ck.eg,h.ck.e0,h.ck.lj,h.ck.fJ,h.ck.gB,h.ck.ny⟩,.inr rfl,h.j3,h.lz,h.n9,h.mC,h.m0⟩
def iO.un{x}(h:iO x){s}(ap:xy s)(Y:x.d9.length<10):iO {x with aM:=157,d9:=x.d9++[s]}:=
 ⟨⟨h.ck.kind,h.ck.rel,h.ck.ay,h.ck.tW,h.ck.cH,h.ck.cT,h.ck.er,HP Y,qf h.ck.cN ap,.inr (af:157 / 2=78),h.ck.c9,h.ck.el,h.ck.jy,h.ck.eg,h.ck.e0,h.ck.lj,h.ck.fJ,h.ck.gB,h.ck.ny⟩,h.fO,.inr rfl,h.lz,h.n9,h.mC,h.m0⟩
def iO.ec{x}(h:iO x){s}(ap:KI s)(Y:x.e2.length<3):iO {x with bs:=165,e2:=x.e2++[s]}:=
 ⟨⟨h.ck.kind,h.ck.rel,h.ck.ay,h.ck.tW,h.ck.cH,h.ck.cT,h.ck.er,h.ck.cq,h.ck.cN,h.ck.f8,HP Y,qf h.ck.el ap,.inr (af:165 / 2=82),h.ck.eg,h.ck.e0,h.ck.lj,h.ck.fJ,h.ck.gB,h.ck.ny⟩,h.fO,h.j3,.inr rfl,h.n9,h.mC,h.m0⟩
def iO.Is{x}(h:iO x){s}(ap:Gp s)(Y:x.dn.length<30):iO {x with cp:=173,dn:=x.dn++[s]}:=
 ⟨⟨h.ck.kind,h.ck.rel,h.ck.ay,h.ck.tW,h.ck.cH,h.ck.cT,h.ck.er,h.ck.cq,h.ck.cN,h.ck.f8,h.ck.c9,h.ck.el,h.ck.jy,HP Y,qf h.ck.e0 ap,.inr (af:173 / 2=86),h.ck.fJ,h.ck.gB,h.ck.ny⟩,h.fO,h.j3,h.lz,.inr rfl,h.mC,h.m0⟩
def iO.fn{x}(h:iO x){s}(ap:mT s)(Y:x.funcs.length<30):iO {x with dj:=99,funcs:=x.funcs++[s]}:=
 ⟨⟨h.ck.kind,h.ck.rel,h.ck.ay,h.ck.tW,h.ck.cH,h.ck.cT,h.ck.er,h.ck.cq,h.ck.cN,h.ck.f8,h.ck.c9,h.ck.el,h.ck.jy,h.ck.eg,h.ck.e0,h.ck.lj,HP Y,qf h.ck.gB ap,.inr (af:99 / 2=49)⟩,h.fO,h.j3,h.lz,h.n9,.inr rfl,h.m0⟩
def qU{dQ ci a8}{acc}{a9:(bK->bf->Prop)->bK->bf->Prop}{fm:bK}{iu}{α:Type}(e7:α->List (Nat×a2))(T:α->bf)(pb:α->Nat)(fL:α->Prop)(br:∃a,fL a/\xf ci acc a8 (forget fm dQ) iu=some (forget (iF fm (e7 a)) dQ,T a))(ap:∀a (ba),fL a->(∀bz fe bE,pb bz<pb a->fL bz->xf ci acc a8 (forget fe dQ) bE=some (forget (iF fm (e7 bz)) dQ,T bz)->ba fe bE)->xj fm (e7 a) λE=>v5 E dQ λE=>k2 id E λE=>lA (T a) λA=>a9 ba E A):sk (λba E A=>oO (some ⟨dQ,ci,acc,a8⟩) E A λE A=>a9 ba E A) fm iu:=
 abb e7 T pb fL br λa ba D F=>Gx (ap a ba D F)
end Go.Tx
namespace Go.Tx
open Go.Ev Go
def I0(x y:cZ):Prop:=∃g l,y={x with an:=g,dJ:=l}
def HL(x y:cZ):Prop:=∃g l,y={x with aM:=g,d9:=l}
def A7(x y:cZ):Prop:=∃g l,y={x with dj:=g,funcs:=l}
variable{g:Nat}{x y:cZ}
def I0.iy{l}(h:I0 x y):I0 x {y with an:=g,dJ:=l}:=by obtain⟨_,_,rfl⟩:=h;exact⟨_,_,rfl⟩
def HL.un{l}(h:HL x y):HL x {y with aM:=g,d9:=l}:=by obtain⟨_,_,rfl⟩:=h;exact⟨_,_,rfl⟩
def A7.fn{l}(h:A7 x y):A7 x {y with dj:=g,funcs:=l}:=by obtain⟨_,_,rfl⟩:=h;exact⟨_,_,rfl⟩
end Go.Tx
namespace Go.Tx
open Go.Ev Go
def vY(x y:cZ):Prop:=∃cp fJ dj v8,y={x with cp:=cp,dn:=fJ,dj:=dj,funcs:=v8}
def vY.trans{x y z}(h:vY x y)(cz:vY y z):vY x z:=by obtain⟨_,_,_,_,rfl⟩:=h;obtain⟨_,_,_,_,rfl⟩:=cz;exact⟨_,_,_,_,rfl⟩
def vY.refl(x):vY x x:=⟨_,_,_,_,rfl⟩
end Go.Tx
