/- A part. -/
import Derived.Test.YtkjmpcfikenlbaaGreatDoorT7
set_option linter.all false
namespace Go.Tx
open Go Go.Ev
variable{H:bg}{L:cx}{T:ca}{call:cE}{ah:dM}{k:nf->Prop}{m:Nat}{op:Op}{av:gT}{bh:List jC}{cc:List jF}{A:bf}{U:ek}{Z:Nat->Nat}
def ae1{l p}:p∈g2 m l↔p∈l/\dG m p.1=false:=by simp_all[g2]
def WC{m H}:∀{cc},(∀r∈cc,dG m r.i=false->(∀k,r.vc.f r.p H k=k r.v)/\qX r.v r.v)->tw m H cc
 |[],_=>rfl
 |r::l,h=>by
  have bQ:=WC (m:=m) (H:=H) (cc:=l) λr ag=>h r (by grind);unfold tw;cases q:dG m r.i<;>simp_all
def abJ{aY}:∀{A},vi aY A->∀s ak z l,look A s=some (.box ak z (.bS l))->∀e∈l,∀t∈yJ e,t∉aY
 |[],_,_,_,_,_,h=>by cases h
 |(a,B)::r,h,s,ak,z,l,Y=>by
  rw[iC]at Y;have ag:vi aY r=true:=by
   cases B with
   |box e8 cJ aJ=>
    cases aJ with
    |cb x=>exact h|bS x=>simp_all[vi]
   |bF=>exact h
  by_cases e:s=a
  .rw[ev e]at Y;cases Y;simp[vi]at h;intro e aw t au;exact GJ (h.1 e aw) t au
  .rw[cO e]at Y;exact abJ ag s ak z l Y
def Vw:∀{l},(!true||yO A l)->∀s,s∈l->∃B,look A s=some B/\B.real
 |[],_,_,ap=>by grind
 |a::l,h,s,ap=>by
  simp[yO]at h;cases ar:look A a with
  |none=>simp_all
  |some B=>
   rw[ar]at h;cases B with
   |box ak z aJ=>
    rcases hS.1 ap with rfl|ap
    .exact⟨_,ar,rfl⟩
    .exact Vw (by simp_all) s ap
   |bF ak z Q u=>
    simp only[ig]at h;rcases hS.1 ap with rfl|ap
    .refine⟨_,ar,?_⟩;cases u with
     |false=>cases Q<;>rfl
     |true=>cases Q with
      |nil=>cases h.1
      |cons=>rfl
    .exact Vw (by simp_all) s ap
section
variable{C:Nat->cE}{P:dK}{es:aO}{bo:kH}{aT:Nat}
def agw{v az}(a1:∀k a8,(im P es ah op).f call L T (gf (bh.filter λq=>dG m q.i) H) k a8=k v az)(ag:tw m (gf (jH m bh) az) cc=true)(k:pg)(a8:bp->bg->Bool):(zP P es ah m op).f call L T H cc bh k a8=k (v::L) az (xP m cc) (jH m bh):=by
 unfold zP;generalize im P es ah op=q at a1;have⟨f⟩:=q;cases bh with
 |nil=>
  show f call L T H _ a8=_;rw[show f call L T H _ a8=_ from a1 _ a8];cases cc with
  |nil=>rfl|cons r cc=>rw[show tw m az (r::cc)=true from ag];rfl
 |cons q bh=>show AX m (q::bh) H _=_;simp_all[Np,y1]
def aqw{d a5 k}(h:Kn (dH C) bo P es ah m d op a5 k):BA C bo.dL es (zP P es ah m op).f a5 k:=by
 intro U Z L T H cc bh aS;obtain⟨aY,FZ,ad2,as9,adQ,aqm,h⟩:∃aY FZ,(∀x,x∈sites (g2 m a5.jE)->x∈aY)/\(FZ=false->∀x,x∈sites (g2 m a5.iX)->x∈aY)/\(∀x,x∈aY->x∈sites (g2 m a5.jE)++sites (g2 m a5.iX))/\(FZ=true->(yg bo es ah op (zN a5 aY)||xt bo es ah d op (zN a5 aY) (sites (g2 m a5.iX)))=true)/\(match aY,me P op with
  |aY,.wr=>match Nat.blt d 1000&&kS [d] (sites (g2 m a5.jE)++sites (g2 m a5.iX))&&a5.d8.all (λi=>dG m i)&&Nat.ble ah.length a5.S.L.length with
   |true=>q7 (dH C) bo P es ah d op ⟨a5.S.L++pT (kI a5.S.A aY),a5.S.E,kh a5.S.A aY⟩ λv S=>t3 (EH aY v&&vi aY S.A&&(!FZ||yO S.A ((sites (g2 m a5.iX)).filter λs=> !cn s aY))) (k v ⟨⟨S.L.take a5.S.L.length,S.E,xO (fq bo.dL) (kI a5.S.A aY) (S.L.drop a5.S.L.length)++S.A⟩,g2 m a5.iX,g2 m a5.jE,[]⟩) (dH C).fail|false=>(dH C).fail
  |_,_=>(dH C).fail):=by
  unfold Kn at h
  simp only at h
  cases a0:(yg bo es ah op (zN a5 (sites (g2 m a5.jE)))||xt bo es ah d op (zN a5 (sites (g2 m a5.jE))) (sites (g2 m a5.iX)))with
  |true=>rw[a0]at h;exact⟨sites (g2 m a5.jE),true,λx M=>M,λM=>(by cases M),λx M=>N0 _ M,λ_=>a0,h⟩
  |false=>rw[a0]at h;exact⟨sites (g2 m a5.jE)++sites (g2 m a5.iX),false,λx M=>N0 _ M,λ_ x M=>acu _ M,λx M=>M,λM=>(by cases M),h⟩
 cases aQ:me P op with
 |pure=>rw[aQ]at h;exact h.elim|sO=>rw[aQ]at h;exact h.elim
 |wr=>
  rw[aQ]at h;simp only at h;split at h
  .rename_i q;simp only[ig,ub]at q;obtain⟨⟨⟨bC,aX⟩,b4⟩,dc⟩:=q;have bC:=dg.1 bC;have aX:=GJ aX d (by simp);have dc:=dT.1 dc;have Lb:∀q∈bh,dG m q.i=false->∃s B,s∈aY/\Z s=q.id/\look a5.S.A s=some B/\B.real=true/\(q.i,s)∈g2 m a5.jE:=by
    intro q a0 hm;obtain⟨c4,⟨s,B,cl,dm,fp,h5⟩|⟨cl,_⟩⟩:=aS.mW q a0
    .have:(q.i,s)∈g2 m a5.jE:=ae1.2 ⟨cl,hm⟩;exact⟨s,B,ad2 _ (ya.2 ⟨_,this,rfl⟩),dm,fp,h5,this⟩
    .have:=b4 _ cl;rw[hm]at this;cases this
   have Yb:∀q∈(bh.filter λq=>dG m q.i),∀eP∈(bh.filter λq=>dG m q.i),q.id=eP.id->q=eP:=λq a0 eP lD=>aS.vB q (l6.1 a0).1 eP (l6.1 lD).1;have QR:∀q∈jH m bh,∀eP∈jH m bh,q.id=eP.id->q=eP:=λq a0 eP lD=>by rw[Eo]at a0 lD;exact aS.vB q (l6.1 a0).1 eP (l6.1 lD).1
   have uH:∀q,q∈jH m bh↔q∈bh/\dG m q.i=false:=λq=>by rw[Eo,l6];simp
   have Jl:∀a,(∀q∈jH m bh,q.id≠a)->(gf (bh.filter λq=>dG m q.i) H).get a=(gf bh H).get a:=by
    intro a aC;by_cases j4:∃q∈bh,q.id=a
    .obtain⟨q,c4,cl⟩:=j4;have hm:dG m q.i=true:=by
      grind
     rw[(ul Yb a).1 q (l6.2 ⟨c4,hm⟩) cl,(ul aS.vB a).1 q c4 cl]
    .have ed:∀q∈bh,q.id≠a:=λq c4 cl=>j4 ⟨q,c4,cl⟩;rw[(ul aS.vB a).2 ed,(ul Yb a).2 λq a0=>ed q (l6.1 a0).1]
   have ju:∀s B,s∉aY->look a5.S.A s=some B->B.real=true->∀q∈jH m bh,q.id≠Z s:=by intro s B ap Y ag q a0 e;obtain⟨c4,cl⟩:=(uH q).1 a0;obtain⟨dx,bH,er,f8,jy,lj,_⟩:=Lb q c4 cl;have:=aS.ok.inj dx s bH B jy Y lj ag (f8.trans e);grind
   have amo:∀a B,U a=some B->∀q∈jH m bh,q.id≠a:=by intro a B aC q a0 e;obtain⟨c4,cl⟩:=(uH q).1 a0;obtain⟨dx,bH,er,f8,jy,lj,_⟩:=Lb q c4 cl;rw[<-e,<-f8,(aS.ok.lt dx bH jy lj).2]at aC;grind
   have aqk:∀s,look (kh a5.S.A aY) s=if s∈aY then none else look a5.S.A s:=by
    intro s;rw[vw];cases hm:cn s aY with
    |true=>rw[ev (DF.1 hm)]
    |false=>rw[cO λe=>by rw[DF.2 e]at hm;grind]
   have nk:∀s B,look (kh a5.S.A aY) s=some B->look a5.S.A s=some B:=by
    grind
   have TZ:b0 U Z (kh a5.S.A aY) (gf (bh.filter λq=>dG m q.i) H):=by
    refine(S3 (X:=[]) nk aS.ok).1.local (λa B aV=>Jl a (amo a B aV)) (λs B Y ag=>Jl _ ?_) (by rw[nY,nY]);have jw:=Y;rw[aqk]at jw;by_cases e:s∈aY
    .rw[ev e]at jw;cases jw
    .exact ju s B e (nk s B Y) ag
   obtain⟨bb,gU⟩:=Z4 aS.ok nk (l:=aY);have ii:=aS.sy.len;have Xu:f9 U Z (kh a5.S.A aY) (a5.S.L++pT (kI a5.S.A aY)) (L++bb):=by have:=(IE (U:=U) (Z:=Z) nk).lC aS.sy;rw[xH]at this;exact this.append gU
   have aaR:gR U Z (kh a5.S.A aY) es.length a5.S.E T:=by have:=(IE (U:=U) (Z:=Z) nk).xg aS.ru;rwa[xH]at this
   have akH:=Xa aQ h;obtain⟨e,ei,v,az,bm,b2,D,⟨cS,F⟩,aq,aL⟩:=akH U Z _ (L++bb) T TZ Xu aaR;cases pi:(EH aY e&&vi aY ei.A&&(!FZ||yO ei.A ((sites (g2 m a5.iX)).filter λs=> !cn s aY)))with
   |false=>rw[pi]at D;exact D.elim
   |true=>
    rw[pi]at D;simp only[ig]at pi;obtain⟨pi,lP⟩:=pi;obtain⟨f,f1,f2,f3,f4,f5⟩:=aq.mp;have apH:ei.L.take a5.S.L.length=a5.S.L.map (dF f):=by grind
    have alr:ei.L.drop a5.S.L.length=(pT (kI a5.S.A aY)).map (dF f):=by grind
    have Cc:t3 true (k e ⟨⟨ei.L.take a5.S.L.length,ei.E,xO (fq bo.dL) (kI a5.S.A aY) (ei.L.drop a5.S.L.length)++ei.A⟩,g2 m a5.iX,g2 m a5.jE,[]⟩) (dH C).fail=k e ⟨⟨a5.S.L.map (dF f),a5.S.E.map (dF f),((kI a5.S.A aY).map λp=>(p.1,nT f (fq bo.dL) p.2))++ei.A⟩,g2 m a5.iX,g2 m a5.jE,[]⟩:=by rw[apH,alr,Mz,f4];rfl
    have D:k e ⟨⟨a5.S.L.map (dF f),a5.S.E.map (dF f),((kI a5.S.A aY).map λp=>(p.1,nT f (fq bo.dL) p.2))++ei.A⟩,g2 m a5.iX,g2 m a5.jE,[]⟩:=by grind
    have l5:∀s,s∈aY->s≠d:=λs ap e=>aX (by grind);have yZ:∀s,s∈aY->GX f s/\look ei.A s=none:=by
     intro s ap;have:look (kh a5.S.A aY) s=none:=by grind
     exact⟨f2 s (l5 s ap) this,aq.fresh s (l5 s ap) this⟩
    have fR:∀s,look (((kI a5.S.A aY).map λp=>(p.1,nT f (fq bo.dL) p.2))++ei.A) s=if s∈aY then(look a5.S.A s).map (nT f (fq bo.dL))else look ei.A s:=by
     intro s;rw[XT,aaY,Ul];by_cases ap:s∈aY
     .rw[ev ap,ev ap];cases Y:look a5.S.A s<;>grind
     grind
    have aqB:∀s ak z aJ,s∈aY->look (((kI a5.S.A aY).map λp=>(p.1,nT f (fq bo.dL) p.2))++ei.A) s=some (.box ak z aJ)->∃mf,look a5.S.A s=some (.box ak z mf):=by
     intro s ak z aJ ap Y;rw[fR,ev ap]at Y;cases ar:look a5.S.A s with
     |none=>grind
     |some B=>rw[ar]at Y;simp at Y;obtain⟨mf,rfl⟩:=alv Y;grind
    have wF:∀s ak z Q u,s∈aY->look (((kI a5.S.A aY).map λp=>(p.1,nT f (fq bo.dL) p.2))++ei.A) s=some (.bF ak z Q u)->∃fk,look a5.S.A s=some (.bF ak z fk u)/\fk.length=Q.length:=by
     intro s ak z Q u ap Y;rw[fR,ev ap]at Y;cases ar:look a5.S.A s with
     |none=>grind
     |some B=>rw[ar]at Y;simp at Y;obtain⟨fk,rfl,a3⟩:=ajh Y;grind
    have mp:jV f U Z a5.S.A bm b2 (((kI a5.S.A aY).map λp=>(p.1,nT f (fq bo.dL) p.2))++ei.A):=by
     have Qw:∀e v s,yJ e=[s]->s∉aY->dE U Z (kh a5.S.A aY) e v->(f e=e->dE bm b2 ei.A e v->dE bm b2 (((kI a5.S.A aY).map λp=>(p.1,nT f (fq bo.dL) p.2))++ei.A) e v)->dE bm b2 (((kI a5.S.A aY).map λp=>(p.1,nT f (fq bo.dL) p.2))++ei.A) (f e) v:=by
      intro e v s _ ap aw auo;have:=f5 e v aw;rcases f1 e with h|⟨t,h⟩
      .grind
      .rw[h]at this ⊢;exact this
     intro e v aw;cases e with
     |J t=>
      have:=f5 (.J t) v aw;rcases f1 (.J t)with h|⟨j5,h⟩
      .rw[h]at this ⊢;exact this
      .rw[h]at this ⊢;exact this
     |bx=>
      have:=f5 .bx v aw;rcases f1 .bx with h|⟨j5,h⟩
      .rw[h]at this ⊢;exact this
      .rw[h]at this ⊢;exact this
     |i4=>
      have:=f5 .i4 v aw;rcases f1 .i4 with h|⟨j5,h⟩
      .rw[h]at this ⊢;exact this
      .rw[h]at this ⊢;exact this
     |agg l=>exact aw.elim|fn g x y=>exact aw.elim
     |bN s aR=>
      by_cases ap:s∈aY
      .rw[((yZ s ap).1 aR 0).1];intro ak z aJ Y;obtain⟨mf,Y⟩:=aqB s ak z aJ ap Y;rw[aq.aN s (l5 s ap)];exact aw _ _ _ Y
      .refine Qw (.bN s aR) v s rfl ap (λak z aJ Y=>aw _ _ _ (nk _ _ Y)) λ_ h=>λak z aJ Y=>?_;rw[fR,cO ap]at Y;exact h _ _ _ Y
     |bD s=>
      by_cases ap:s∈aY
      .rw[((yZ s ap).1 0 0).2.1];intro ak z Q u Y;obtain⟨fk,Y,a3⟩:=wF s ak z Q u ap Y;rw[aq.aN s (l5 s ap)];exact QS a3 (aw _ _ _ _ Y)
      .refine Qw (.bD s) v s rfl ap (λak z Q u Y=>aw _ _ _ _ (nk _ _ Y)) λ_ h=>λak z Q u Y=>?_;rw[fR,cO ap]at Y;exact h _ _ _ _ Y
     |fU s r aR=>
      by_cases ap:s∈aY
      .rw[((yZ s ap).1 aR r).2.2];intro ak z Q u Y;obtain⟨fk,Y,a3⟩:=wF s ak z Q u ap Y;rw[aq.aN s (l5 s ap)];exact aw _ _ _ _ Y
      .refine Qw (.fU s r aR) v s rfl ap (λak z Q u Y=>aw _ _ _ _ (nk _ _ Y)) λ_ h=>λak z Q u Y=>?_;rw[fR,cO ap]at Y;exact h _ _ _ _ Y
    have VG:(gf (bh.filter λq=>dG m q.i) H).next=H.next:=nY _ _
    have ahG:∀s B,s∈aY->look a5.S.A s=some B->B.real=true->∀dx bH,look (kh a5.S.A aY) dx=some bH->bH.real=true->Z dx≠Z s:=by intro s B ap Y ag dx bH iJ f7 e;have:=aS.ok.inj dx s bH B (nk _ _ iJ) Y f7 ag e;grind
    have ato:∀s B,s∈aY->look a5.S.A s=some B->B.real=true->bm (Z s)=none:=by
     intro s B ap Y ag;have be:=aS.ok.lt s B Y ag;rw[nY]at be;cases a0:bm (Z s)with
     |none=>rfl
     |some x=>
      exfalso;rcases aq.iB.new _ _ a0 with g|g|⟨dx,bH,aj,an,aM⟩|⟨fD,aj,an⟩
      all_goals grind
    have same:∀s B,s∈aY->look a5.S.A s=some B->B.real=true->az.get (Z s)=(gf (bh.filter λq=>dG m q.i) H).get (Z s):=by intro s B ap Y ag;have be:=aS.ok.lt s B Y ag;rw[nY]at be;exact aq.iB.same _ (by grind) (λdx bH aj an _=>ahG s B ap Y ag dx bH aj an) λbH pu=>by grind
    have Iu:∀a,(∀q∈jH m bh,q.id≠a)->(gf (jH m bh) az).get a=az.get a:=λa aC=>(ul QR a).2 aC;have aba:∀s B,s∈aY->look a5.S.A s=some B->B.real=true->(gf (jH m bh) az).get (Z s)=(gf bh H).get (Z s):=by
     intro s B ap Y ag;by_cases j4:∃q∈jH m bh,q.id=Z s
     .obtain⟨q,c4,cl⟩:=j4;rw[(ul QR _).1 q c4 cl,(ul aS.vB _).1 q ((uH q).1 c4).1 cl]
     .have ed:∀q∈jH m bh,q.id≠Z s:=λq c4 cl=>j4 ⟨q,c4,cl⟩;rw[Iu _ ed,same s B ap Y ag,Jl _ ed]
    have atU:∀q∈jH m bh,q.id<H.next:=λq a0=>(aS.mW q ((uH q).1 a0).1).1;have at3:H.next<=az.next:=by have:=aq.iB.next;grind
    have anB:∀s B,look ei.A s=some B->B.real=true->∀q∈jH m bh,q.id≠b2 s:=by
     intro s B Y ag q a0 e;obtain⟨c4,cl⟩:=(uH q).1 a0;obtain⟨gx,cL,er,f8,jy,lj,_⟩:=Lb q c4 cl;rcases aq.iB.fE s B Y ag with g|⟨jb,fD,aj,an,aM,_⟩
     all_goals grind
    have amB:∀a B,bm a=some B->∀q∈jH m bh,q.id≠a:=by grind
    have Kj:U.jz (fq bo.dL) bm:=aq.iB.le;have split:∀s B,look (((kI a5.S.A aY).map λp=>(p.1,nT f (fq bo.dL) p.2))++ei.A) s=some B->(s∈aY/\∃fD,look a5.S.A s=some fD/\B=nT f (fq bo.dL) fD)\/(s∉aY/\look ei.A s=some B):=by
     intro s B Y;rw[fR]at Y;by_cases ap:s∈aY
     .rw[ev ap]at Y;cases ar:look a5.S.A s<;>grind
     grind
    have cells:∀(l:bK)(r:cx),(∀e∈l,∀t∈yJ e,t∉aY)->gc bm b2 ei.A l r->gc bm b2 (((kI a5.S.A aY).map λp=>(p.1,nT f (fq bo.dL) p.2))++ei.A) l r:=by
     intro l;induction l with
     |nil=>intro r _ h;exact h
     |cons e l bQ=>
      intro r abu h;obtain⟨v,eH,rfl,aj,an⟩:=h;refine⟨v,eH,rfl,?_,bQ _ (λe aw=>abu e (by grind)) an⟩;have PW:=abu e (by simp);cases e with
      |bN s aR=>intro ak z aJ Y;rw[fR,cO (PW s (by simp[yJ]))]at Y;exact aj _ _ _ Y
      |bD s=>intro ak z Q u Y;rw[fR,cO (PW s (by simp[yJ]))]at Y;exact aj _ _ _ _ Y
      |fU s r aR=>intro ak z Q u Y;rw[fR,cO (PW s (by simp[yJ]))]at Y;exact aj _ _ _ _ Y
      |_=>exact aj
    have td:b0 bm b2 (((kI a5.S.A aY).map λp=>(p.1,nT f (fq bo.dL) p.2))++ei.A) (gf (jH m bh) az):=by
     refine⟨λa B aV=>?_,λs B Y ag=>?_,λs dx B bH Y iJ ag f7 e=>?_,λs B Y=>?_⟩
     .rw[Iu a (amB a B aV),nY];exact aq.ok.e6 a B aV
     .rw[nY];rcases split s B Y with⟨ap,fD,aj,rfl⟩|⟨ap,aj⟩
      .rw[BO]at ag;have be:=aS.ok.lt s fD aj ag;rw[nY]at be;rw[aq.aN s (l5 s ap)];grind
      .exact aq.ok.lt s B aj ag
     .rcases split s B Y with⟨ap,fD,aj,rfl⟩|⟨ap,aj⟩<;>rcases split dx bH iJ with⟨qw,TW,Bt,rfl⟩|⟨qw,Bt⟩
      .rw[BO]at ag f7;rw[aq.aN s (l5 s ap),aq.aN dx (l5 dx qw)]at e;exact aS.ok.inj s dx fD TW aj Bt ag f7 e
      .exfalso;rw[BO]at ag;rw[aq.aN s (l5 s ap)]at e;have be:=aS.ok.lt s fD aj ag;rw[nY]at be;rcases aq.iB.fE dx bH Bt f7 with g|⟨jb,dP,c4,cl,dm,_⟩
       all_goals grind
      .exfalso;rw[BO]at f7;rw[aq.aN dx (l5 dx qw)]at e;have be:=aS.ok.lt dx TW Bt f7;rw[nY]at be;rcases aq.iB.fE s B aj ag with g|⟨jb,dP,c4,cl,dm,_⟩
       all_goals grind
      .exact aq.ok.inj s dx B bH aj Bt ag f7 e
     .rcases split s B Y with⟨ap,fD,aj,rfl⟩|⟨ap,aj⟩
      .have aV:=aS.ok.obj s fD aj;cases fD with
       |box ak z aJ=>
        obtain⟨ax,cD,dp,ga,fX⟩:=aV;have bI:=aba s _ ap aj rfl;rw[<-bI,<-aq.aN s (l5 s ap)]at cD;cases aJ with
        |cb l=>show nX _ _ _ _ s (rX (fq bo.dL) (.box ak z (.cb l)));rw[wq];exact⟨ax,cD,dp,ga,by rw[ex];exact fX.1,fX.2.bJ Kj⟩
        |bS l=>exact⟨ax,cD,dp,ga,by rw[ex];exact fX.1,mp.eU fX.2⟩
       |bF ak z Q u=>show nX _ _ _ _ s (rX (fq bo.dL) (.bF ak z Q u));rw[wq];intro ag;have ag:(p4 (fq bo.dL) (.bF ak z Q u)).real=true:=ag;rw[vV]at ag;obtain⟨ax,cD,dp,ga,fX⟩:=aV ag;have bI:=aba s _ ap aj ag;rw[<-bI,<-aq.aN s (l5 s ap)]at cD;exact⟨ax,by grind,by grind,ga,fX.bJ Kj⟩
      .have aV:=aq.ok.obj s B aj;cases B with
       |box ak z aJ=>
        obtain⟨ax,cD,dp,ga,fX⟩:=aV;refine⟨ax,by rw[Iu _ (anB s _ aj rfl)];grind,dp,ga,?_⟩;cases aJ with
        |cb l=>exact fX|bS l=>exact⟨fX.1,cells l _ (abJ pi.2 s ak z l aj) fX.2⟩
       |bF ak z Q u=>intro ag;obtain⟨ax,cD,dp,ga,fX⟩:=aV ag;exact⟨ax,by grind,dp,ga,fX⟩
    have aph:∀r∈cc,dG m r.i=false->∃a,a<H.next/\(∀ie:bg,ie.get a=(gf bh H).get a->∀k,r.vc.f r.p ie k=k r.v)/\qX r.v r.v=true/\(gf (jH m bh) az).get a=(gf bh H).get a/\
     ((∃B,bm a=some B/\cn (mQ B) bo.dL=false)\/∃s B,(r.i,s)∈g2 m a5.iX/\look (((kI a5.S.A aY).map λp=>(p.1,nT f (fq bo.dL) p.2))++ei.A) s=some B/\B.real=true/\b2 s=a):=by
     intro r ag hm
     obtain⟨a,c4,dm,fp,h5⟩:=aS.rd r ag
     have dv:az.get a=(gf (bh.filter λq=>dG m q.i) H).get a/\((∃B,bm a=some B/\cn (mQ B) bo.dL=false)\/∃s B,(r.i,s)∈g2 m a5.iX/\look (((kI a5.S.A aY).map λp=>(p.1,nT f (fq bo.dL) p.2))++ei.A) s=some B/\B.real=true/\b2 s=a):=by
      rcases h5 with⟨B,er,f8⟩|⟨s,B,er,f8,jy,lj⟩
      .have:=aq.iB.jz a B er f8;exact⟨by rw[(aq.ok.e6 a B this).1,(TZ.e6 a B er).1],.inl ⟨B,this,f8⟩⟩
      .have bq:(r.i,s)∈g2 m a5.iX:=ae1.2 ⟨er,hm⟩;have o4:s∈sites (g2 m a5.iX):=ya.2 ⟨_,bq,rfl⟩;have aaW:s≠d:=λe=>aX (by grind);by_cases ap:s∈aY
       .exact⟨by grind,.inr ⟨s,nT f (fq bo.dL) B,bq,by grind,by rw[BO];grind,by rw[aq.aN s aaW];grind⟩⟩
       .cases ND:FZ with
        |false=>grind
        |true=>
         rw[ND]at lP;obtain⟨bH,dC,b3⟩:=Vw lP s (l6.2 ⟨o4,by
          cases hm:cn s aY with
          |false=>rfl
          |true=>exact absurd (DF.1 hm) ap⟩)
         refine⟨?_,.inr ⟨s,bH,bq,by grind,b3,by rw[aq.aN s aaW];grind⟩⟩;obtain⟨l1,v2,ie,cT,cN⟩:=ajI (aqm ND) h U Z _ (L++bb) T TZ Xu aaR;have aP:az=ie:=ahe (f:=λk=>(im P es ah op).f (C (max cS l1)) (L++bb) T (gf (bh.filter λq=>dG m q.i) H) k λ_ _=>false) (λk=>by have:=F (max cS l1) (Nat.le_max_left _ _) k λ_ _=>false;unfold og at this;rw[aQ]at this;omega) (λk=>cT (max cS l1) (Nat.le_max_right _ _) k λ_ _=>false);rw[aP,<-lj];exact cN s B o4 (by show look (kh a5.S.A aY) s=_;grind) jy
     refine⟨a,c4,dm,fp,?_,dv.2⟩;by_cases j4:∃q∈jH m bh,q.id=a
     .grind
     .have ed:∀q∈jH m bh,q.id≠a:=λq aP a3=>j4 ⟨q,aP,a3⟩;rw[Iu a ed,dv.1,Jl a ed]
    have alG:tw m (gf (jH m bh) az) cc=true:=WC λr ag hm=>by grind
    have ala:∀i7,cS<=i7->∀m7 a8,(im P es ah op).f (C i7) L T (gf (bh.filter λq=>dG m q.i) H) m7 a8=m7 v az:=by intro i7 Ts m7 a8;have:=F i7 Ts m7 a8;unfold og at this;rw[aQ]at this;have bO:=afw (L:=L) (bb:=bb) (T:=T) (by grind) h (C i7) (gf (bh.filter λq=>dG m q.i) H) m7 a8;grind
    refine⟨e,_,v,bm,b2,az,xP m cc,jH m bh,D,⟨cS,λi7 Ts m7 a8=>agw (ala i7 Ts) alG m7 a8⟩,
     ⟨td,mp.lC aS.sy,mp.xg aS.ru,λq a0=>?_,QR,λr ag=>?_⟩,?_,⟨aq.iB.le,?_,λa aC ap M=>?_,λa B aV=>?_,λs B Y ag=>?_⟩,λs ap=>aq.aN s I⟩
    .obtain⟨c4,cl⟩:=(uH q).1 a0;obtain⟨s,B,er,f8,jy,lj,ny⟩:=Lb q c4 cl;exact⟨by grind,.inl ⟨s,nT f (fq bo.dL) B,ny,by rw[aq.aN s (l5 s er)];grind,by grind,by rw[BO];grind⟩⟩
    .rw[Lv]at ag;obtain⟨ag,hm⟩:=l6.1 ag;obtain⟨a,c4,dm,fp,h5,io⟩:=aph r ag (by grind);refine⟨a,I,λie e k=>dm ie (e.trans h5) k,fp,?_⟩;grind
    .have aw:=pi.1;cases e with
     |J t=>exact aL
     |bD s=>
      simp[EH]at aw;have ap:s∉aY:=λap=>by rw[DF.2 ap]at aw;grind
      intro ak z Q u Y;rw[fR,cO ap]at Y;exact aL _ _ _ _ Y
     |_=>cases aw
    .rw[nY,nY];grind
    .rw[nY]at aC;by_cases j4:∃q∈jH m bh,q.id=a
     .grind
     have ed:∀q∈jH m bh,q.id≠a:=λq c4 cl=>j4 ⟨q,c4,cl⟩;rw[Iu a ed,aq.iB.same a (by grind) (λs B aj an aM=>ap s B (nk _ _ aj) an aM) M,Jl a ed]
    .rw[nY];rcases aq.iB.new a B aV with g|g|⟨s,bH,aj,an,aM⟩|g
     .exact .inl g
     .rw[VG]at g;exact .inr (.inl g)
     .exact .inr (.inr (.inl ⟨s,bH,nk _ _ aj,an,aM⟩))
     .exact .inr (.inr (.inr g))
    .rw[nY];rcases split s B Y with⟨ap,fD,aj,rfl⟩|⟨ap,aj⟩
     .rw[BO]at ag;exact .inr ⟨s,fD,aj,ag,(aq.aN s (l5 s ap)).symm,λh=>by rw[afG];exact h⟩
     .rcases aq.iB.fE s B aj ag with g|⟨jb,fD,c4,cl,dm,fp⟩
      .rw[VG]at g;exact .inl g
      .exact .inr ⟨jb,fD,nk _ _ c4,cl,dm,fp⟩
  .exact h.elim
end
section
variable{C:Nat->cE}{P:dK}{es:aO}{bo:kH}{aT:Nat}
def tR(C:Nat->cE)(X:aO)(es:aO)(f:cE->cx->ca->bg->List jF->List jC->pg->(bp->bg->Bool)->Bool)(a5:nf)(k:nf->Prop):Prop:=
 ∀(U:ek)(Z:Nat->Nat)(L:cx)(T:ca)(H:bg)(cc:List jF)(bh:List jC),w2 X es U Z a5 L T H cc bh->
  ∃nO gD bm b2 az gO fG,k nO/\(∃cS,∀m,cS<=m->∀k a8,f (C m) L T H cc bh k a8=k gD az gO fG)/\w2 X es bm b2 nO gD T az gO fG/\
   fz X U Z a5.S.A (gf bh H) bm b2 nO.S.A (gf fG az)/\∀s,1000<=s->b2 s=Z s
def tR.seq{a b:rA}{a5}{k}{cT}{X}(h:tR C X es a.f a5 cT)(cz:∀a5,cT a5->tR C X es b.f a5 k):tR C X es (Et a b).f a5 k:=by intro U Z L T H cc bh aS;have⟨z4,ja,iP,jU,cM,rO,rK,bk,⟨B8,bu⟩,b1,cP,dO⟩:=h U Z L T H cc bh aS;have⟨Hw,gK,ns,mF,ie,GI,Ds,cD,⟨l1,dp⟩,ga,fX,hO⟩:=cz z4 bk iP jU ja T cM rO rK b1;refine⟨Hw,gK,ns,mF,ie,GI,Ds,cD,⟨B8+l1,λm hm k a8=>?_⟩,ga,cP.trans fX,λs q=>(hO s q).trans (dO s q)⟩;have⟨a⟩:=a;have⟨b⟩:=b;show a (C m) L T H cc bh (λL H cc bh=>b (C m) L T H cc bh k a8) a8=_;grind
def w2.push{X}{U}{Z}{a5}{L}{T}{H}{cc}{bh}{e}{v}(h:w2 X es U Z a5 L T H cc bh)(aw:co U Z a5.S.A e v):w2 X es U Z ⟨⟨e::a5.S.L,a5.S.E,a5.S.A⟩,a5.iX,a5.jE,a5.d8⟩ (v::L) T H cc bh:=⟨h.ok,⟨v,L,rfl,aw,h.sy⟩,h.ru,h.mW,h.vB,h.rd⟩
def BA.push{X}{f}{a5}{k:nf->Prop}(h:BA C X es f a5 λv a5=>k ⟨⟨v::a5.S.L,a5.S.E,a5.S.A⟩,a5.iX,a5.jE,a5.d8⟩):tR C X es f a5 k:=by intro U Z L T H cc bh aS;have⟨e,nO,v,bm,b2,az,gO,fG,D,F,aq,aL,bO,cr⟩:=h U Z L T H cc bh aS;exact⟨_,v::L,bm,b2,az,gO,fG,D,F,aq.push aL,bO,cr⟩
def aar{X}{a5}{k}(h:k ⟨⟨.i4::a5.S.L,a5.S.E,a5.S.A⟩,a5.iX,a5.jE,a5.d8⟩):tR C X es Vt.f a5 k:=λU Z L T H cc bh aS=>
 ⟨_,.undef::L,U,Z,H,cc,bh,h,⟨0,λm _ k a8=>rfl⟩,aS.push rfl,fz.refl _ _ _ _,λ_ _=>rfl⟩
def Td{g w yes k a8}:(g.g L T=.undef->(D3 g w yes).f call L T H cc bh k a8=Vt.f call L T H cc bh k a8)/\∀b,g.g L T=.bool b->(D3 g w yes).f call L T H cc bh k a8=if b=w then yes.f call L T H cc bh k a8 else Vt.f call L T H cc bh k a8:=by
 have⟨g⟩:=g;refine⟨λh=>?_,λb h=>?_⟩
 .cases w
  .show FU (g L T) _ _=_;rw[show g L T=.undef from h];rfl
  .show GZ (g L T) _ _=_;rw[show g L T=.undef from h];rfl
 .cases w
  .show FU (g L T) _ _=_;rw[show g L T=.bool b from h];cases b<;>rfl
  .show GZ (g L T) _ _=_;rw[show g L T=.bool b from h];cases b<;>rfl
def abU{av}{ah}{B}{a5}{y}{Jz:rA}{k}(h:CL (dH C) aT av ah B a5 y k)(aE:∀a5 k,y a5 k->BA C bo.dL es Jz.f a5 k):tR C bo.dL es (sQ es aT av ah B Jz).f a5 k:=by
 have dv:(match B.guard with
  |none=>y a5 λv a5=>k ⟨⟨v::a5.S.L,a5.S.E,a5.S.A⟩,a5.iX,a5.jE,a5.d8⟩
  |some (j,w)=>match(av[j]?).bind (·.dst)with
   |some d=>Bs (dH C) ah d w a5.S
    (λS=>y ⟨S,a5.iX,a5.jE,a5.d8⟩ λv a5=>k ⟨⟨v::a5.S.L,a5.S.E,a5.S.A⟩,a5.iX,a5.jE,a5.d8⟩)
    (λS=>k ⟨⟨.i4::S.L,S.E,S.A⟩,a5.iX,a5.jE,a5.d8⟩)
   |none=>(dH C).fail)/\sQ es aT av ah B Jz=(match B.guard with
  |none=>Jz
  |some (j,w)=>match(av[j]?).bind (·.dst)with
   |some d=>D3 (ls es ah d) w Jz
   |none=>zY):=by
  unfold CL at h
  unfold sQ
  cases aY:B.dst with
  |none=>grind
  |some d=>
   rw[aY]at h;simp at h ⊢;cases aB:Nat.blt d aT with
   |false=>rw[aB]at h;exact h.elim|true=>grind
 rw[dv.2];have h:=dv.1;cases bI:B.guard with
 |none=>rw[bI]at h;exact(aE _ _ h).push
 |some g=>
  have⟨j,w⟩:=g;rw[bI]at h;simp at h ⊢;cases bl:(av[j]?).bind (·.dst)with
  |none=>rw[bl]at h;exact h.elim
  |some d=>
   rw[bl]at h;intro U Z L T H cc bh aS;rcases acV h aS.sy with⟨D,F⟩|⟨b,gD,D,F,aq⟩
   .have⟨z4,ja,iP,jU,cM,rO,rK,bk,⟨cS,bu⟩,b1⟩:=aar (C:=C) (es:=es) (X:=bo.dL) F U Z L T H cc bh aS;exact⟨z4,ja,iP,jU,cM,rO,rK,bk,⟨cS,λm hm k a8=>by rw[Td.1 D];simp_all⟩,b1⟩
   .have OC:w2 bo.dL es U Z ⟨⟨gD,a5.S.E,a5.S.A⟩,a5.iX,a5.jE,a5.d8⟩ L T H cc bh:=⟨aS.ok,F,aS.ru,aS.mW,aS.vB,aS.rd⟩;by_cases e:b=w
    .rw[ev e]at aq;have⟨z4,ja,iP,jU,cM,rO,rK,bk,⟨cS,bu⟩,b1⟩:=(aE _ _ aq).push U Z L T H cc bh OC;exact⟨z4,ja,iP,jU,cM,rO,rK,bk,⟨cS,λm hm k a8=>by simp_all[Td]⟩,b1⟩
    .rw[cO e]at aq;have⟨z4,ja,iP,jU,cM,rO,rK,bk,⟨cS,bu⟩,b1⟩:=aar (C:=C) (es:=es) (X:=bo.dL) (a5:=⟨⟨gD,a5.S.E,a5.S.A⟩,a5.iX,a5.jE,a5.d8⟩) aq U Z L T H cc bh OC;exact⟨z4,ja,iP,jU,cM,rO,rK,bk,⟨cS,λm hm k a8=>by simp_all[Td]⟩,b1⟩
def Pg{jx}:∀{l}{ah}{a5},BK (dH C) bo P es aT av jx ah l a5 k->tR C bo.dL es (t2 P es aT av jx ah l).f a5 k
 |[],ah,a5,h=>λU Z L T H cc bh aS=>⟨a5,L,U,Z,H,cc,bh,h,⟨0,λm _ k a8=>rfl⟩,aS,fz.refl _ _ _ _,λ_ _=>rfl⟩
 |i::l,ah,a5,h=>by
  unfold BK at h;unfold t2;cases aV:av[i]? with
  |none=>rw[aV]at h;exact h.elim|some B=>rw[aV]at h;exact tR.seq (abU h λa5 k ar=>aky ar) λa5 ar=>Pg ar
def Za{bb}:∀{l}{ah}{a5},Gn (dH C) bo P es aT av bb ah l a5 k->tR C bo.dL es (yb P es aT av bb ah l).f a5 k
 |[],ah,a5,h=>λU Z L T H cc bh aS=>⟨a5,L,U,Z,H,cc,bh,h,⟨0,λm _ k a8=>rfl⟩,aS,fz.refl _ _ _ _,λ_ _=>rfl⟩
 |(aH,w)::l,ah,a5,h=>by
  unfold Gn at h;unfold yb;cases aV:av[w]? with
  |none=>rw[aV]at h;exact h.elim|some B=>rw[aV]at h;exact tR.seq (Pg h) λa5 ar=>tR.seq (abU ar λa5 k ar=>aqw ar) λa5 ar=>Za ar
def al6{L l}(h:f9 U Z A L l):co U Z A (jv L 0) (Ev.aY l)/\f9 U Z A L.tail (Ev.o2 l):=by
 cases L with
 |nil=>subst h;exact⟨by simp[jv,co,dE,bR],rfl⟩
 |cons e L=>obtain⟨v,aK,rfl,aj,an⟩:=h;exact⟨aj,an⟩
def aeY:∀{ah}{L}{l}{E}{T},f9 U Z A L l->gR U Z A es.length E T->∃c6,(∀k,(xM es ah).f l T k=k c6)/\gR U Z A es.length (By es ah L E) c6/\c6.ah=T.ah
 |[],L,l,E,T,cB,bY=>⟨T,λk=>rfl,bY,rfl⟩
 |d::ah,L,l,E,T,cB,bY=>by
  have⟨D,F⟩:=al6 cB;unfold xM By;have bQ:=λ{E T} bY=>aeY (ah:=ah) (E:=E) (T:=T) F bY;cases d with
  |none=>simp_all
  |some d=>
   simp;cases aN:jB d es with
   |none=>simp_all
   |some i=>simp;have be:=P3 aN;rw[zu (show i<64 by have:=bY.1;omega)];have bq:=Jg i;simp at bq ⊢;have⟨c6,aj,an,aM⟩:=bQ (bY.set be D);exact⟨c6,λk=>by simp_all,an,by rw[aM,ca.Ki]⟩
def ao1:Vx C P es bo aT:=by
 intro av bb pl E A k bq h U Z H L T a4 cB bY;unfold Mg;rw[bq];have⟨JS,um,kU⟩:=pl;cases kU with
 |cons _ _=>exact h.elim
 |nil=>simp only at h ⊢;have ahw:w2 bo.dL es U Z ⟨⟨[],E,A⟩,[],[],[]⟩ [] T H [] []:=⟨a4,rfl,bY,λq a0=>(by grind),λq a0=>(by grind),λr ag=>(by grind)⟩;have⟨z4,ja,iP,jU,cM,rO,rK,bk,⟨B8,bu⟩,b1,cP,dO⟩:=Za h U Z [] T H [] [] ahw;have⟨Hw,gK,ns,mF,ie,GI,Ds,cD,⟨l1,dp⟩,ga,fX,hO⟩:=Pg bk iP jU ja T cM rO rK b1;have⟨c6,en,gI,l3⟩:=aeY (ah:=ml av (ol av [] JS) um) ga.sy ga.ru;refine⟨⟨[],By es (ml av (ol av [] JS) um) Hw.S.L Hw.S.E,Hw.S.A⟩,c6,gf Ds ie,ns,mF,cD,⟨B8+l1,λm hm m7 a8=>?_⟩,ga.ok,cP.trans fX,gI,l3,λs q=>(hO s q).trans (dO s q)⟩;generalize yb P es aT av bb [] JS=ON at bu;generalize t2 P es aT av none (ol av [] JS) um=O9 at dp;generalize xM es (ml av (ol av [] JS) um)=Tc at en;generalize wy es av=ZF;have⟨ON⟩:=ON;have⟨O9⟩:=O9;have⟨Tc⟩:=Tc;have⟨ZF⟩:=ZF;show ON (C m) [] T H [] [] (λL H cc bh=>O9 (C m) L T H cc bh (λL H _ bh=>xr bh H λH=>Tc L T λT=>m7 T H) _) _=_;rw[show ON (C m) [] T H [] [] _ _=_ from bu m I _ _];rw[show O9 (C m) ja T cM rO rK _ _=_ from dp m I _ _];simp_all[y1]
def abZ{f je ext ap jc args b8}(kV:∀m args H k,C (m+1) f args H k=(yI P je ext f).f m (C m) args H k)(M:ext f=none)(h:Kv (dH C) ap jc P je f args A b8):bU C (ap f).dL f args A b8:=
 afu kV M (λ_ _=>ao1) h
end
end Go.Tx
