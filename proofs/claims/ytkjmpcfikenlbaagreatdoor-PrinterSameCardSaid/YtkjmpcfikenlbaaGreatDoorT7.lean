/- A part. -/
import Derived.Test.YtkjmpcfikenlbaaGreatDoorT6
set_option linter.all false
namespace Go.Tx
open Go Go.Ev
variable{a5:nf}{args:bK}{d i:Nat}{ah:dM}{g:b9}{k:a2->c8->Prop}{op:Op}{dt:aO}{iy:jX}{v:Bool}
def ul{l H}(IQ:∀q∈l,∀eP∈l,q.id=eP.id->q=eP)(x):(∀q∈l,q.id=x->(gf l H).get x=q.obj)/\((∀q∈l,q.id≠x)->(gf l H).get x=H.get x):=
 Hz gp l H (λ_ _=>gp) IQ
section
variable{C:Nat->cE}{P:dK}{es:aO}{bo:kH}{aT:Nat}
def agm(X:aO)(U:ek)(Z:Nat->Nat)(a5:nf)(H:bg)(bh:List jC)(r:jF):Prop:=
 ∃a,a<H.next/\(∀ie:bg,ie.get a=(gf bh H).get a->∀k,r.vc.f r.p ie k=k r.v)/\qX r.v r.v=true/\
  ((∃B,U a=some B/\cn (mQ B) X=false)\/∃s B,(r.i,s)∈a5.iX/\look a5.S.A s=some B/\B.real=true/\Z s=a)
structure w2(X:aO)(es:aO)(U:ek)(Z:Nat->Nat)(a5:nf)(L:cx)(T:ca)(H:bg)(cc:List jF)(bh:List jC):Prop where
 ok:b0 U Z a5.S.A (gf bh H)
 sy:f9 U Z a5.S.A a5.S.L L
 ru:gR U Z a5.S.A es.length a5.S.E T
 mW:∀q∈bh,q.id<H.next/\((∃d B,(q.i,d)∈a5.jE/\Z d=q.id/\look a5.S.A d=some B/\B.real=true)\/(q.i∈a5.d8/\∃B,U q.id=some B))
 vB:∀q∈bh,∀eP∈bh,q.id=eP.id->q=eP
 rd:∀r∈cc,agm X U Z a5 H bh r
def BA(C:Nat->cE)(X:aO)(es:aO)(f:cE->cx->ca->bg->List jF->List jC->pg->(bp->bg->Bool)->Bool)(a5:nf)(k:a2->nf->Prop):Prop:=
 ∀(U:ek)(Z:Nat->Nat)(L:cx)(T:ca)(H:bg)(cc:List jF)(bh:List jC),w2 X es U Z a5 L T H cc bh->
  ∃e nO v bm b2 az gO fG,k e nO/\(∃cS,∀m,cS<=m->∀k a8,f (C m) L T H cc bh k a8=k (v::L) az gO fG)/\w2 X es bm b2 nO L T az gO fG/\co bm b2 nO.S.A e v/\
   fz X U Z a5.S.A (gf bh H) bm b2 nO.S.A (gf fG az)/\∀s,1000<=s->b2 s=Z s
def aoA{x k}{t}(h:xB (dH C) bo P es ah i v d (.load t x) a5 k):BA C bo.dL es (pI P es ah i v (.load t x)).f a5 k:=by
 intro U Z L T H cc bh aS;have⟨w,D,F⟩:=kJ h;have bq:=lf (ah:=ah) aS.sy aS.ru x;have⟨Lo,aj,an⟩:=PN (P:=P) aS.ok D bq;have⟨a,r,aR,z,aI,YQ⟩:=agL D bq
 have be:a<H.next:=by
  have:a<(gf bh H).next:=by
   rcases YQ with⟨s,B,aP,a3,cW,g5,_⟩|⟨a6,B,aP,a3,cW⟩
   .rw[<-g5];exact(aS.ok.lt s B a3 cW).1
   .exact(aS.ok.e6 a B a3).2
  rwa[nY]at this
 have Bt:∀ie:bg,ie.get a=(gf bh H).get a->∀k,(js P t).f ((eF es ah x).g L T) ie k=k Lo:=λie e k=>by rw[ap9 aI e];grind
 cases v with
 |false=>refine⟨w,a5,Lo,U,Z,H,cc,bh,F,⟨0,λm _ k a8=>?_⟩,aS,an,fz.refl _ _ _ _,λ_ _=>rfl⟩;simp_all[pI,y1]
 |true=>
  cases b4:(KH bo.dL (ey es ah a5.S x)&&KT a5.S.A w)with
  |false=>rw[b4]at F;exact F.elim
  |true=>
   rw[b4]at F;simp at b4;have aQ:=anR b4.2 an;refine⟨w,_,Lo,U,Z,H,⟨i,(eF es ah x).g L T,js P t,Lo⟩::cc,bh,F,⟨0,λm _ k a8=>?_⟩,⟨aS.ok,aS.sy,aS.ru,aS.mW,aS.vB,λr ag=>?_⟩,an,fz.refl _ _ _ _,λ_ _=>rfl⟩
   .simp_all[pI,y1]
   .rcases hS.1 ag with rfl|ag
    .refine⟨a,be,Bt,aQ,?_⟩;rcases YQ with⟨s,B,aP,a3,cW,g5,_⟩|⟨a6,B,aP,a3,cW⟩
     .simp_all
     simp_all[KH]
    .have⟨bz,c4,dm,fp,h5⟩:=aS.rd r ag;refine⟨bz,c4,dm,fp,?_⟩;grind
def ajQ{k}(aQ:me P op=.pure)(eI:∀t x,op≠.load t x)(h:xB (dH C) bo P es ah i v d op a5 k):BA C bo.dL es (pI P es ah i v op).f a5 k:=by
 intro U Z L T H cc bh aS;have h:hG (dH C) (vx P es ah a5.S op) λw=>k w a5:=by
  unfold xB at h;simp_all
 have⟨e,D,F⟩:=kJ h;have⟨w,aj,an⟩:=ack aS.sy aS.ru D;refine⟨e,a5,w,U,Z,H,cc,bh,F,⟨0,λm _ k a8=>?_⟩,aS,an,fz.refl _ _ _ _,λ_ _=>rfl⟩;unfold pI;simp_all
def aiG{k}(aQ:me P op=.sO)(eI:∀t x,op≠.load t x)(h:xB (dH C) bo P es ah i v d op a5 k):BA C bo.dL es (pI P es ah i v op).f a5 k:=by
 intro U Z L T H cc bh aS;have h:(match Nat.blt d 1000&&kS [d] (sites a5.jE++sites a5.iX)&&kS (nx es ah op a5.S) (sites a5.iX)with
  |true=>match a5.S.fZ (nx es ah op a5.S)with
   |S=>hG (dH C) (A6 ⟨bo.sA,bo.flat,λ_=>true,bo.mt,bo.dL,bo.own,bo.xu⟩ P es ah d op S) λr=>match r.2 with
    |some B=>k r.1 ⟨S.put d (g8 (e1 d) B),a5.iX,(i,d)::a5.jE.filter (λp=> !cn p.2 (nx es ah op a5.S)),(a5.jE.filter (λp=>cn p.2 (nx es ah op a5.S))).map Prod.fst++a5.d8⟩|none=>(dH C).fail
  |false=>(dH C).fail):=by
  unfold xB at h
  grind
 generalize C9:nx es ah op a5.S=aU at h;split at h
 .rename_i q;simp only[ig]at q;have⟨⟨bC,aX⟩,b4⟩:=q;have bC:=dg.1 bC;have aX:=GJ aX d (by simp);have b4:=GJ b4;simp at aX;have JP:=fM.fZ (X:=bo.dL) (d:=d) (S:=a5.S) aS.ok aU;have Cc:=JP.sy _ aS.sy;have rB:=JP.ru _ _ aS.ru;have yT:∀s B,cn s aU=false->look a5.S.A s=some B->∃bH,look (a5.S.fZ aU).A s=some bH/\bH.real=B.real:=by
   intro s B ap Y;cases aU with
   |nil=>exact⟨B,Y,rfl⟩|cons a aU=>refine⟨g8 (lZ (keeps a5.S.A (a::aU)) (a::aU)) B,?_,mi _ _⟩;show look (gh _ (kh a5.S.A (a::aU))) s=_;simp_all[nB,vw]
  have⟨r,D,F⟩:=kJ h;have⟨iR,gX,aj,an⟩:=V3 JP.ok Cc rB D;have t7:(gf bh H).next=H.next:=nY _ _
  let cM:bg:=⟨Nat.succ H.next,H.t⟩
  have asJ:∀a,cM.get a=H.get a:=λa=>rfl;have Om:∀q∈(⟨i,H.next,iR⟩::bh:List jC),∀eP∈(⟨i,H.next,iR⟩::bh:List jC),q.id=eP.id->q=eP:=by
   intro q a0 eP lD e;rcases hS.1 a0 with rfl|a0<;>rcases hS.1 lD with rfl|lD
   .rfl
   .have:=(aS.mW eP lD).1;simp_all
   .have:=(aS.mW q a0).1;simp_all
   .exact aS.vB q a0 eP lD e
  have eZ:=AT (gf bh H) iR;have CX:∀a,(gf (⟨i,H.next,iR⟩::bh) cM).get a=((gf bh H).add iR).get a:=by
   intro a;by_cases aP:a=H.next
   .subst aP;rw[(ul Om _).1 ⟨i,H.next,iR⟩ (by simp) rfl];simp_all
   .rw[bg.VU gp gp,cO (by simp_all)];by_cases j4:∃q∈bh,q.id=a
    .have⟨q,c4,cl⟩:=j4;rw[(ul Om _).1 q (by grind) cl,(ul aS.vB _).1 q c4 cl]
    .have ed:∀q∈bh,q.id≠a:=λq c4 cl=>j4 ⟨q,c4,cl⟩;have aaA:∀q∈(⟨i,H.next,iR⟩::bh:List jC),q.id≠a:=by
      grind
     rw[(ul aS.vB _).2 ed,(ul Om _).2 aaA];simp_all
  have Z7:(gf (⟨i,H.next,iR⟩::bh) cM).next=((gf bh H).add iR).next:=by rw[nY,eZ.2.2,t7]
  have step:∀(B:fB)(e:a2),r=(e,some B)->B.real=true->xV (h8 U Z a5.S.A (gf bh H) aU) Z (a5.S.fZ aU).A iR B->
   co (h8 U Z a5.S.A (gf bh H) aU) (mc Z d H.next) ((a5.S.fZ aU).put d (g8 (e1 d) B)).A e (gX H.next)->
   ∃e nO iq bm b2 az gO fG,k e nO/\(∃cS,∀m,cS<=m->∀k a8,(pI P es ah i v op).f (C m) L T H cc bh k a8=k (iq::L) az gO fG)/\w2 bo.dL es bm b2 nO L T az gO fG/\co bm b2 nO.S.A e iq/\
    fz bo.dL U Z a5.S.A (gf bh H) bm b2 nO.S.A (gf fG az)/\∀s,1000<=s->b2 s=Z s:=by
   intro B e ag aV aD aw
   subst ag
   have a9:=St (X:=bo.dL) (d:=d) JP.ok aV aD
   rw[t7]at a9
   have YD:∀s bH,s≠d->look (a5.S.fZ aU).A s=some bH->look ((a5.S.fZ aU).put d (g8 (e1 d) B)).A s=some (g8 (e1 d) bH):=by intro s bH ap Y;show look ((d,g8 (e1 d) B)::gh (e1 d) (rem (a5.S.fZ aU).A d)) s=_;simp_all[iC,nB,rU]
   refine⟨e,_,gX H.next,_,_,cM,cc,⟨i,H.next,iR⟩::bh,F,⟨0,λm _ k a8=>?_⟩,⟨a9.ok.congr CX Z7,a9.sy _ Cc,a9.ru _ _ rB,λq a0=>?_,Om,λr ag=>?_⟩,aw,?_,λs q=>j6 I⟩
   .unfold pI;split
    .simp_all
    .rw[aQ];simp only;rw[aj];rfl
   .rcases hS.1 a0 with rfl|a0
    .refine⟨Nat.lt_succ_self _,.inl ⟨d,g8 (e1 d) B,by simp,m2 _ _ _,?_,by rw[mi];grind⟩⟩;show look ((d,g8 (e1 d) B)::gh (e1 d) (rem (a5.S.fZ aU).A d)) d=_;rw[iC,ev rfl]
    .have⟨c4,cl⟩:=aS.mW q a0;refine⟨Nat.lt_succ_of_lt c4,?_⟩;rcases cl with⟨cC,bH,er,f8,jy,lj⟩|⟨er,bH,f8⟩
     .have ed:cC≠d:=λe=>aX.1 (by rw[<-e];exact ya.2 ⟨_,er,rfl⟩);cases hm:cn cC aU with
      |true=>refine .inr ⟨N0 _ (ya.2 ⟨(q.i,cC),l6.2 ⟨er,hm⟩,rfl⟩),?_⟩;exact⟨_,by rw[<-f8];exact xa aS.ok hm jy lj⟩
      |false=>have⟨dP,ic,hF⟩:=yT cC bH hm jy;exact .inl ⟨cC,_,tD _ (l6.2 ⟨er,by simp_all⟩),by rw[j6 ed];grind,YD cC dP ed ic,by rw[mi,hF];grind⟩
     .exact .inr ⟨acu _ er,bH,rk aS.ok _ _ f8⟩
   .have⟨a,c4,dm,fp,h5⟩:=aS.rd r ag;refine⟨a,Nat.lt_succ_of_lt c4,λie e=>dm ie (by simp_all),fp,?_⟩
    .rcases h5 with⟨bH,er,f8⟩|⟨s,bH,er,f8,jy,lj⟩
     .exact .inl ⟨bH,rk aS.ok _ _ er,f8⟩
     .have ae9:s∈sites a5.iX:=ya.2 ⟨_,er,rfl⟩;have ed:s≠d:=λe=>aX.2 (by simp_all);have hm:cn s aU=false:=by
       cases hm:cn s aU with
       |false=>rfl|true=>simp_all[DF]
      have⟨dP,ic,hF⟩:=yT s bH hm f8;exact .inr ⟨s,_,er,YD s dP ed ic,by rw[mi,hF];grind,by rw[j6 ed];grind⟩
   .exact(JP.trans a9).iB.congr (λ_=>rfl) rfl CX Z7
  rcases an with⟨ak,z,aJ,rfl,rfl,aM⟩|⟨ak,z,Q,rfl,rfl,aM⟩|⟨ak,z,Q,rfl,rfl,aM⟩
  .refine step (.box ak z aJ) _ rfl rfl aM λe8 cJ gj Y=>?_;have Y:look ((d,g8 (e1 d) (.box ak z aJ))::gh (e1 d) (rem (a5.S.fZ aU).A d)) d=some (.box e8 cJ gj):=Y;rw[iC,ev rfl]at Y;rw[m2];cases aJ<;>cases Y<;>rfl
  .refine step (.bF ak z Q false) _ rfl (by cases Q<;>rfl) aM λe8 cJ gw u Y=>?_;have Y:look ((d,g8 (e1 d) (.bF ak z Q false))::gh (e1 d) (rem (a5.S.fZ aU).A d)) d=some (.bF e8 cJ gw u):=Y;rw[iC,ev rfl]at Y;rw[m2];cases Y;rfl
  .exact F.elim
 .exact h.elim
def aky{k}(h:xB (dH C) bo P es ah i v d op a5 k):BA C bo.dL es (pI P es ah i v op).f a5 k:=by
 by_cases Y:∃t x,op=.load t x
 .obtain⟨t,x,rfl⟩:=Y;exact aoA h
 .have eI:∀t x,op≠.load t x:=λt x e=>Y ⟨t,x,e⟩;cases aQ:me P op with
  |pure=>exact ajQ aQ eI h|sO=>exact aiG aQ eI h
  |wr=>
   exfalso;unfold xB at h;split at h
   .simp_all
   .rw[aQ]at h;exact h
end
section
variable{P:dK}{es:aO}{ah:dM}{L bb:cx}{T:ca}
def Un:∀{ah}{t i},j2 t ah=some i->i<ah.length
 |[],_,_,h=>by cases h
 |some a::l,t,i,h=>by
  simp[j2]at h;cases q:Nat.beq a t with
  |true=>grind
  |false=>
   rw[q]at h;cases D:j2 t l with
   |none=>simp_all
   |some j=>rw[D]at h;cases h;have:=Un D;simp_all
 |none::l,t,i,h=>by
  simp only[j2]at h;cases D:j2 t l with
  |none=>simp_all
  |some j=>rw[D]at h;cases h;have:=Un D;simp_all
def W2(Y:ah.length<=L.length)(x):(eF es ah x).g (L++bb) T=(eF es ah x).g L T:=by
 unfold eF;cases x with
 |tmp t=>
  simp;unfold ls;cases D:j2 t ah with
  |some i=>rw[CF,CF,s5,s5,DB (by have:=Un D;omega)]
  |none=>
   cases F:jB t es with
   |some s=>
    simp only;cases Nat.blt s 64
    .rfl
    simp_all[NL]
   |none=>rfl
 |const v=>simp;cases mP v<;>rfl
 |func f=>rfl|global g=>rfl
def acK(Y:ah.length<=L.length):∀l,(qh es ah l).g (L++bb) T=(qh es ah l).g L T
 |[]=>rfl
 |x::l=>by have D:=W2 (es:=es) (bb:=bb) (T:=T) Y x;have F:=acK Y l;unfold qh;simp_all
def anG{x y}{t a6}(M:x.g (L++bb) T=x.g L T)(aE:y.g (L++bb) T=y.g L T)(call)(H)(k a8):(wW P t a6 x y).f call (L++bb) T H k a8=(wW P t a6 x y).f call L T H k a8:=by
 have⟨x⟩:=x;simp at M aE;unfold wW;simp;split
 .split
  .split
   .split
    .simp_all
    .rfl
   .split
    .simp_all
    .rfl
   .rfl
  .rfl
 .rfl
def afw{C bo S}(Y:ah.length<=L.length)(h:q7 (dH C) bo P es ah d op S k)(call)(H)(m7 a8):(im P es ah op).f call (L++bb) T H m7 a8=(im P es ah op).f call L T H m7 a8:=by
 have uS:=λx=>W2 (es:=es) (ah:=ah) (bb:=bb) (T:=T) Y x;have amL:=λl=>acK (es:=es) (ah:=ah) (bb:=bb) (T:=T) Y l;cases op with
 |load t x=>have D:=uS x;unfold im;simp_all|store t x y=>have D:=uS x;have F:=uS y;unfold im;simp_all
 |convert s t x=>
  have D:=uS x;unfold im;unfold Iy;simp at D ⊢;split
  .split
   .simp_all
   .rfl
  .split
   .simp_all
   .rfl
  .rfl
 |call c=>
  have val:∀f,c.callee=.value f->(im P es ah (.call c)).f call (L++bb) T H m7 a8=(im P es ah (.call c)).f call L T H m7 a8:=by
   intro f qE;have D:=uS f;have F:=amL c.args.toList;have:(im P es ah (.call c))=qZ es ah f c.args.toList:=by simp[im,qE]
   rw[this];unfold qZ;grind
  unfold q7 at h;cases aV:bo.own d with
  |true=>
   rw[aV]at h;simp at h;split at h
   .simp_all
   .exact h.elim
  |false=>
  rw[aV]at h;simp at h;split at h
  .simp_all
  .rename_i qE;split at h
   .rename_i t a6 x y au M;have:(im P es ah (.call c))=wW P t a6 (eF es ah x) (eF es ah y):=by simp[im,qE,au,M]
    simp_all[anG]
   .exact h.elim
  .exact h.elim
 |_=>exact h.elim
end
def Ul(A):∀(l)(s),look (kI A l) s=if s∈l then look A s else none
 |[],s=>by simp[kI,look]
 |a::l,s=>by
  simp only[kI];cases h:look A a with
  |none=>
   simp only;rw[Ul A l s];grind
  |some B=>
   simp only;rw[iC,Ul A l s];grind
def nT(f:a2->a2)(X:aO):fB->fB
 |.box ak z (.bS l)=>.box ak z (.bS (l.map f))|B=>rX X B
def wq(X)(B):rX X B=p4 X B:=by
 cases X with
 |nil=>exact(ZR B).symm|cons=>rfl
def Mz(f)(X):∀ap,xO X ap ((pT ap).map (dF f))=ap.map λp=>(p.1,nT f X p.2)
 |[]=>rfl
 |(s,.box ak z (.bS l))::r=>by simp[pT,dF,xO,Mz f X r];rfl
 |(s,.box ak z (.cb l))::r=>by simp[pT];unfold xO;rw[Mz f X r];rfl
 |(s,.bF ak z Q u)::r=>by simp[pT];unfold xO;rw[Mz f X r];rfl
def aaY(g):∀(A)(s),look (A.map λp=>(p.1,g p.2)) s=(look A s).map g
 |[],s=>rfl
 |(a,B)::l,s=>by
  simp[look];cases Nat.beq a s
  .exact aaY g l s
  .rfl
def XT:∀(a b:bf)(s:Nat),look (a++b) s=match look a s with|some B=>some B|none=>look b s
 |[],b,s=>rfl
 |(x,B)::l,b,s=>by
  simp[look];cases Nat.beq x s
  .exact XT l b s
  .rfl
def BO(f)(X)(B):(nT f X B).real=B.real:=by
 cases B with
 |box ak z aJ=>cases aJ<;>first|rfl|(show(rX X _).real=_;rw[wq,vV])
 |bF ak z Q u=>show(rX X _).real=_;rw[wq,vV]
def afG{f}{X et}{s}{B}:hr et s (nT f X B)=hr et s B:=by
 cases B with
 |box ak z aJ=>cases aJ<;>first|rfl|(show hr et s (rX X _)=_;rw[wq,Ow])
 |bF ak z Q u=>show hr et s (rX X _)=_;rw[wq,Ow]
def alv{f}{X}{B}{ak z}{aJ}(h:nT f X B=.box ak z aJ):∃mf,B=.box ak z mf:=by
 cases B with
 |box e8 cJ gj=>
  cases gj with
  |cb l=>have h:rX X (.box e8 cJ (.cb l))=_:=h;rw[wq]at h;cases h;simp_all
  |bS l=>cases h;simp_all
 |bF e8 cJ Q u=>have h:rX X (.bF e8 cJ Q u)=_:=h;rw[wq]at h;cases h
def ajh{f}{X}{B}{ak z}{Q:g4}{u}(h:nT f X B=.bF ak z Q u):∃fk,B=.bF ak z fk u/\fk.length=Q.length:=by
 cases B with
 |box e8 cJ gj=>
  cases gj with
  |cb l=>have h:rX X (.box e8 cJ (.cb l))=_:=h;rw[wq]at h;cases h
  |bS l=>cases h
 |bF e8 cJ gw fY=>have h:rX X (.bF e8 cJ gw fY)=_:=h;rw[wq]at h;cases h;simp_all
section
variable{U:ek}{Z:Nat->Nat}{A:bf}{H az:bg}
def b0.local(h:b0 U Z A H)(a1:∀a B,U a=some B->az.get a=H.get a)(bq:∀s B,look A s=some B->B.real->az.get (Z s)=H.get (Z s))(aD:az.next=H.next):b0 U Z A az:=by
 refine⟨λa B aV=>by rw[a1 a B aV,aD];exact h.e6 a B aV,λs B Y ag=>by rw[aD];exact h.lt s B Y ag,h.inj,λs B Y=>?_⟩;have aV:=h.obj s B Y;cases B with
 |box ak z aJ=>exact aV.congr (bq s _ Y rfl)|bF ak z Q u=>exact λag=>(aV.congr (bq s _ Y ag)) ag
def Z4{bE}(a4:b0 U Z A H)(nk:∀s B,look bE s=some B->look A s=some B):∀{l},∃bb,f9 U Z bE (pT (kI A l)) bb
 |[]=>⟨[],rfl⟩
 |a::l=>by
  have⟨bb,gU⟩:=Z4 a4 nk (l:=l);simp[kI];cases h:look A a with
  |none=>grind
  |some B=>
   cases B with
   |bF ak z Q u=>exact⟨bb,gU⟩
   |box ak z aJ=>
    cases aJ with
    |cb r=>exact⟨bb,gU⟩
    |bS r=>have⟨ax,aj,an,aM,bs,cp⟩:=a4.obj a _ h;refine⟨.agg (ax.row 0).length (ax.row 0)::bb,_,_,rfl,⟨ax.row 0,by rw[cp.length],?_⟩,gU⟩;have:=(IE (U:=U) (Z:=Z) nk).eU cp;simp_all
end
section
variable{C:Nat->cE}{P:dK}{es:aO}{ah:dM}{S:c8}{bo:kH}{d:Nat}
def SU:∀(args:bK)(i),o5 (λ_=>false) i args=[]
 |[],_=>rfl
 |e::args,i=>by exact SU args (i+1)
def akE{r}:∀(args:bK)(i)(a9)(A),o5 r i args=[]->k8 r a9 A i args=k8 (λ_=>false) a9 A i args:=by
 intro args;induction args with
 |nil=>intro i a9 A _;rfl
 |cons e args bQ=>
  intro i a9 A aB;simp[o5]at aB;simp[k8];grind
def ad3(h:uJ (dH C) bo g iy args S k)(a0:Iz bo iy args):∃f b5 cV,g=.fn f b5 cV/\∀(U)(Z)(H)(jg dw cQ),b0 U Z S.A H->c5 U b5 jg->f9 U Z S.A args dw->c5 U cV cQ->∃cS v az,(∀m,cS<=m->∀k,C m f (jg++(dw++cQ)) H k=k (.val v) az)/\∀a,a<H.next->az.get a=H.get a:=by
 obtain⟨r,hr,aU,aB,h⟩:∃(r:Nat->Bool)(hr:Bool)(aU:aO),o5 r 0 args=[]/\(match hr with
  |true=>hG (dH C) (k8 r [] (keeps S.A aU) 0 args) λdw=>(dH C).call [] g dw [] λv _=>t3 (yu v) (k (.J v) S) (t3 (!cf (s7 S.A (uF S.A aU)) v) (k (.J v) (S.fZ (z0 S.A aU))) (dH C).fail)
  |false=>hG (dH C) (k8 r [] (keeps S.A aU) 0 args) λdw=>(dH C).call [] g dw [] λv _=>k (.J v) (S.fZ aU)):=by
  cases iy with
  |none=>refine⟨λ_=>false,false,mn ((tB (λ_=>false) 0 args).flatMap (f6 S.A 3)),SU _ _,?_⟩;unfold uJ at h;simp[SU]at h;exact h
  |some f=>
   have aB:o5 (bo.sA f) 0 args=[]:=by exact List.eq_nil_of_length_eq_zero (dA.1 a0)
   refine⟨bo.sA f,bo.flat f,mn ((tB (bo.sA f) 0 args).flatMap (f6 S.A 3)),aB,?_⟩;unfold uJ at h;simp[aB]at h;exact h
 rw[akE _ _ _ _ aB]at h;cases hr with
 |true=>obtain⟨dw,D,f,b5,cV,rfl,F⟩:=kJ h;refine⟨f,b5,cV,rfl,λU Z H jg fV cQ a4 M aC aE=>?_⟩;have⟨fC,bE,v,az,bm,aq,⟨cS,aj⟩,an,aM,bs,cp,dj,ip⟩:=LD (S:=S) (args:=args) (aU:=aU) F D U Z H jg fV cQ a4 M aC aE;exact⟨cS,v,az,aj,cp⟩
 |false=>obtain⟨dw,D,f,b5,cV,rfl,F⟩:=kJ h;refine⟨f,b5,cV,rfl,λU Z H jg fV cQ a4 M aC aE=>?_⟩;have⟨fC,bE,v,az,bm,aq,⟨cS,aj⟩,an,aM,bs,cp,dj,ip⟩:=LD (S:=S) (args:=args) (aU:=aU) F D U Z H jg fV cQ a4 M aC aE;exact⟨cS,v,az,aj,cp⟩
def anA(a0:yg bo es ah op S)(h:q7 (dH C) bo P es ah d op S k):∀(U)(Z)(H)(L)(T),b0 U Z S.A H->f9 U Z S.A S.L L->gR U Z S.A es.length S.E T->∃cS v az,(∀m,cS<=m->∀k a8,(im P es ah op).f (C m) L T H k a8=k v az)/\∀a,a<H.next->az.get a=H.get a:=by
 cases op with
 |call c=>
  unfold q7 at h;unfold yg at a0;simp at a0;cases aV:bo.own d with
  |true=>
   rw[aV]at h;simp only at h;split at h
   .rename_i f qE;have Hf:(im P es ah (.call c))=qZ es ah f c.args.toList:=by simp[im,qE]
    rw[Hf];exact(abX (X:=[]) h).2
   simp_all
  |false=>
  rw[aV]at h;simp only at h;split at h
  .rename_i f qE;rw[qE]at a0;simp at a0;have Hf:(im P es ah (.call c))=qZ es ah f c.args.toList:=by simp[im,qE]
   rw[Hf];intro U Z H L T a4 cB bY;have aq:=lf (ah:=ah) cB bY f;cases a1:ey es ah S f with
   |J g=>rw[a1]at h a0 aq;obtain⟨n,b5,cV,rfl,F⟩:=ad3 h a0;have⟨jg,cQ,cW,aL,bO⟩:=aq;have⟨cS,v,az,aj,an⟩:=F U Z H jg _ cQ a4 aL (Dm cB bY c.args.toList) bO;refine⟨cS,v,az,λm hm k a8=>?_,an⟩;rw[Fc cW,aj m hm];rfl
   |fn g b5 cV=>rw[a1]at h a0 aq;have⟨n,iT,AM,bI,F⟩:=ad3 h a0;cases bI;simp only[co]at aq;have⟨jg,cQ,cW,aL,bO⟩:=aq;have⟨cS,v,az,aj,an⟩:=F U Z H [] _ [] a4 rfl ((co.eU aL).append ((Dm cB bY c.args.toList).append (co.eU bO))) rfl;refine⟨cS,v,az,λm hm k a8=>?_,an⟩;rw[Fc cW];simp_all
   |_=>simp_all
  all_goals simp_all
 |_=>cases a0
def YA{s}:∀{a9}{n i:Nat},a9[n]?=some s->∃j,place a9 i s=some j
 |[],n,i,h=>by grind
 |a::l,n,i,h=>by
  simp[place];cases q:Nat.beq a s with
  |true=>simp_all
  |false=>
   cases n with
   |zero=>simp_all
   |succ n=>exact YA (n:=n) (by simp_all)
def af3(h:uJ (dH C) bo g iy args S k)(a0:Nw bo S iy args dt):∃f b5 cV,g=.fn f b5 cV/\∀(U)(Z)(H)(jg dw cQ),b0 U Z S.A H->c5 U b5 jg->f9 U Z S.A args dw->c5 U cV cQ->∃cS v az,(∀m,cS<=m->∀k,C m f (jg++(dw++cQ)) H k=k (.val v) az)/\∀s B,s∈dt->look S.A s=some B->B.real->az.get (Z s)=H.get (Z s):=by
 cases iy with
 |none=>cases a0
 |some fn=>
  unfold Nw at a0;simp at a0;cases cR:bo.mt fn with
  |nil=>simp_all
  |cons a l=>
   cases a with
   |succ a=>simp_all
   |zero=>
   rw[cR]at a0;unfold uJ at h;simp[cR]at h;generalize mB:reach S.A 9 [] (o5 (bo.sA fn) 0 args)=a9 at h a0;generalize C9:mn ((tB (bo.sA fn) 0 args).flatMap (f6 S.A 3))=aU at h;cases a9 with
   |nil=>grind
   |cons b a9=>
   simp at a0;simp only at h;generalize alc:mn (aU++(b::a9).flatMap (t4 S.A))=oT at h;cases q:(kS oT (b::a9)&&lw (b::a9)&&xD (fq (0::l)) (fq bo.dL)&&xc (b::a9) (0::l) bo.dL)with
   |false=>simp[q]at h;exact h.elim
   |true=>
    simp only[q]at h;simp only[ig]at q;obtain⟨⟨⟨bC,aX⟩,b4⟩,dc⟩:=q;have⟨dw,D,h⟩:=kJ h;have⟨ej,F,f,b5,cV,bI,ap⟩:=kJ h;refine⟨f,b5,cV,bI,λU Z H jg fV cQ a4 M aC aE=>?_⟩;have bB:=fM.fZ (X:=bo.dL) (d:=0) (S:=S) a4 oT;have hle:U.le (h8 U Z S.A H oT):=rk a4;have B3:=MR bB.ok F aX;have sJ:=Hk a4 F aX bC D aC;have om:=((M.zW hle).lC (A:=ej) (Z:=vg Z (b::a9))).append (sJ.append (aE.zW hle).lC);have⟨fC,kL,v,az,bm,b2,e5,⟨cS,cT⟩,cN,el,e0,gB⟩:=ap _ _ H _ B3 om;refine⟨cS,v,az,cT,λs B ae9 Y ag=>?_⟩;refine el.same _ (a4.lt s B Y ag).1 (λdx bH aj an aM bs=>?_) λbH _=>rfl;have⟨ic,hF⟩:=a0 s ae9;have⟨ak,z,aJ,aP⟩:=F3 ic;rw[Y]at aP;cases aP;obtain⟨n,t,cL,rfl,dC,b3,iQ,rfl⟩:=(F7 F).1 _ _ aj;rw[wT dC]at bs;have my:∃dP,look S.A t=some dP/\dP.real=true:=by
     have pH:=Fx iQ;cases oT with
     |nil=>exact⟨cL,b3,pH⟩
     |cons a oT=>
      have b3:look (gh (lZ (keeps S.A (a::oT)) (a::oT)) (kh S.A (a::oT))) t=some cL:=b3;rw[nB,vw]at b3;cases hm:cn t (a::oT)with
      |true=>simp_all
      |false=>
       rw[hm]at b3;cases jw:look S.A t with
       |none=>simp_all
       |some dP=>rw[jw]at b3;cases b3;simp_all[mi]
    have⟨dP,pH,PO⟩:=my;have:=a4.inj t s dP _ pH Y PO rfl bs;subst this;rw[pH]at Y;cases Y;have M0:∃ak z aJ,cL=.box ak z aJ:=by
     cases oT with
     |nil=>have b3:look S.A t=some cL:=b3;simp_all
     |cons a oT=>
      have b3:look (gh (lZ (keeps S.A (a::oT)) (a::oT)) (kh S.A (a::oT))) t=some cL:=b3;rw[nB,vw]at b3;cases hm:cn t (a::oT)with
      |true=>simp_all
      |false=>rw[hm,pH]at b3;cases b3;cases aJ<;>exact⟨_,_,_,rfl⟩
    obtain⟨e8,cJ,gj,rfl⟩:=M0;have⟨j,bl⟩:=YA (i:=0) dC;rw[bl]at hF;have⟨cI,a3,cW⟩:=JL bl;have:=S1 aX dC cW;subst this;rw[BP]at aM;have aM:cn (1000+n) l=false:=aM;simp_all
def aqO(a0:xt bo es ah d op S dt)(h:q7 (dH C) bo P es ah d op S k):∀(U)(Z)(H)(L)(T),b0 U Z S.A H->f9 U Z S.A S.L L->gR U Z S.A es.length S.E T->∃cS v az,(∀m,cS<=m->∀k a8,(im P es ah op).f (C m) L T H k a8=k v az)/\∀s B,s∈dt->look S.A s=some B->B.real->az.get (Z s)=H.get (Z s):=by
 unfold xt at a0;cases aV:bo.own d with
 |true=>simp_all
 |false=>
 rw[aV]at a0;cases op with
 |call c=>
  unfold q7 at h;simp only[aV]at h;simp only at a0;split at h
  .rename_i f qE;rw[qE]at a0;simp at a0;have Hf:(im P es ah (.call c))=qZ es ah f c.args.toList:=by simp[im,qE]
   rw[Hf];intro U Z H L T a4 cB bY;have aq:=lf (ah:=ah) cB bY f;cases a1:ey es ah S f with
   |J g=>rw[a1]at h a0 aq;obtain⟨n,b5,cV,rfl,F⟩:=af3 h a0;have⟨jg,cQ,cW,aL,bO⟩:=aq;have⟨cS,v,az,aj,an⟩:=F U Z H jg _ cQ a4 aL (Dm cB bY c.args.toList) bO;refine⟨cS,v,az,λm hm k a8=>?_,an⟩;rw[Fc cW,aj m hm];rfl
   |_=>simp_all
  all_goals simp_all
 |_=>grind
def ajI(a0:(yg bo es ah op S||xt bo es ah d op S dt))(h:q7 (dH C) bo P es ah d op S k):∀(U)(Z)(H)(L)(T),b0 U Z S.A H->f9 U Z S.A S.L L->gR U Z S.A es.length S.E T->∃cS v az,(∀m,cS<=m->∀k a8,(im P es ah op).f (C m) L T H k a8=k v az)/\∀s B,s∈dt->look S.A s=some B->B.real->az.get (Z s)=H.get (Z s):=by
 intro U Z H L T a4 cB bY;rcases Bool.or_eq_true_iff.1 a0 with a0|a0
 .have⟨cS,v,az,aj,an⟩:=anA a0 h U Z H L T a4 cB bY;exact⟨cS,v,az,aj,λs B _ Y ag=>an _ (a4.lt s B Y ag).1⟩
 .exact aqO a0 h U Z H L T a4 cB bY
def ahe{f:(bp->bg->Bool)->Bool}{v iq}{H az}(h:∀k,f k=k v H)(cz:∀k,f k=k iq az):H=az:=by
 classical
 have D:=h λ_ X=>decide (X=az)
 grind
end
end Go.Tx
