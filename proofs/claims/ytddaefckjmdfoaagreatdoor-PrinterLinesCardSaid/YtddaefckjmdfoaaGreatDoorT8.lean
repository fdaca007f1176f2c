/- Part of the proof of PrinterLines. -/
import Derived.Test.YtddaefckjmdfoaaGreatDoorT7
set_option linter.all false
namespace Go.Tx
open Go Go.Ev
section
variable{C:Nat->cG}{P:dy}{es:aO}{ae:dv}{S:c5}{bf:Hint}{d:Nat}
def Uq:∀(args:bG)(i),oM (λ_=>false) i args=[]
 |[],_=>rfl
 |e::args,i=>by simp only[oM];exact Uq args (i+1)
def ams{r}:∀(args:bG)(i)(bc)(A),oM r i args=[]->kG r bc A i args=kG (λ_=>false) bc A i args:=by
 intro args;induction args with
 |nil=>intro i bc A _;rfl
 |cons e args bB=>
  intro i bc A av;simp only[oM] at av;simp only[kG];cases w5:r i with
  |false=>rw[w5] at av;simp only at av;simp only[bB _ bc A av]
  |true=>
   rw[w5] at av;cases e with
   |bH s z=>
    cases z with
    |zero=>cases av
    |succ z=>simp only at av;simp only[bB _ bc A av]
   |bQ s=>cases av
   |_=>simp only at av;simp only[bB _ bc A av]
variable{args:bG}{g:b2}{k:a1->c5->Prop}{op:Op}{cW:aO}{lj:jo}
def Xv(h:tV (dq C) bf g lj args S k)(ax:D5 bf lj args):∃f bY bJ,g=.fn f bY bJ/\∀(U)(Z)(H)(hH da cC),bL U Z S.A H->cJ U bY hH->eW U Z S.A args da->cJ U bJ cC->∃cy v aq,(∀m,cy<=m->∀k,C m f (hH++(da++cC)) H k=k (.val v) aq)/\∀a,a<H.next->aq.get a=H.get a:=by
 obtain⟨r,f6,aX,av,h⟩:∃(r:Nat->Bool)(f6:Bool)(aX:aO),oM r 0 args=[]/\(match f6 with
  |true=>hs (dq C) (kG r [] (keeps S.A aX) 0 args) λda=>(dq C).call [] g da [] λv _=>tU (yS v) (k (.J v) S) (tU (!cA (tu S.A (wc S.A aX)) v) (k (.J v) (S.ft (zL S.A aX))) (dq C).fail)
  |false=>hs (dq C) (kG r [] (keeps S.A aX) 0 args) λda=>(dq C).call [] g da [] λv _=>k (.J v) (S.ft aX)):=by
  cases lj with
  |none=>refine⟨λ_=>false,false,lP ((tq (λ_=>false) 0 args).flatMap (e6 S.A 3)),Uq _ _,?_⟩;unfold tV at h;simp only[Uq] at h;exact h
  |some f=>
   have av:oM (bf.sF f) 0 args=[]:=by simp only[D5] at ax;exact List.eq_nil_of_length_eq_zero (cF.1 ax)
   refine⟨bf.sF f,bf.flat f,lP ((tq (bf.sF f) 0 args).flatMap (e6 S.A 3)),av,?_⟩;unfold tV at h;simp only[av] at h;exact h
 rw[ams _ _ _ _ av] at h;cases f6 with
 |true=>obtain⟨da,B,f,bY,bJ,rfl,F⟩:=kk h;refine⟨f,bY,bJ,rfl,λU Z H hH eE cC aW I aD ap=>?_⟩;have⟨fG,bw,v,aq,bh,ah,⟨cy,g1⟩,g2,g3,g4,g5,g6,gA⟩:=Lp (S:=S) (args:=args) (aX:=aX) F B U Z H hH eE cC aW I aD ap;exact⟨cy,v,aq,g1,g5⟩
 |false=>obtain⟨da,B,f,bY,bJ,rfl,F⟩:=kk h;refine⟨f,bY,bJ,rfl,λU Z H hH eE cC aW I aD ap=>?_⟩;have⟨fG,bw,v,aq,bh,ah,⟨cy,g1⟩,g2,g3,g4,g5,g6,gA⟩:=Lp (S:=S) (args:=args) (aX:=aX) F B U Z H hH eE cC aW I aD ap;exact⟨cy,v,aq,g1,g5⟩
def ae6(ax:x9 bf es ae op S)(h:q4 (dq C) bf P es ae d op S k):∀(U)(Z)(H)(L)(T),bL U Z S.A H->eW U Z S.A S.L L->gp U Z S.A es.length S.E T->∃cy v aq,(∀m,cy<=m->∀k aU,(hN P es ae op).f (C m) L T H k aU=k v aq)/\∀a,a<H.next->aq.get a=H.get a:=by
 cases op with
 |call c=>
  unfold q4 at h;simp only at h;unfold x9 at ax;simp only at ax;cases ay:bf.own d with
  |true=>
   rw[ay] at h;simp only at h;split at h
   .rename_i f kU;have Iu:(hN P es ae (.call c))=q3 es ae f c.args.toList:=by simp only[hN,kU]
    rw[Iu];exact(Wl (X:=[]) h).2
   .exact h.elim
  |false=>
  rw[ay] at h;simp only at h;split at h
  .rename_i f kU;rw[kU] at ax;simp only at ax;have Iu:(hN P es ae (.call c))=q3 es ae f c.args.toList:=by simp only[hN,kU]
   rw[Iu];intro U Z H L T aW cn bR;have ah:=kD (ae:=ae) cn bR f;cases aI:dN es ae S f with
   |J g=>rw[aI] at h ax ah;obtain⟨n,bY,bJ,rfl,F⟩:=Xv h ax;simp only[cd,cN,bp] at ah;have⟨hH,cC,c9,aE,bt⟩:=ah;have⟨cy,v,aq,g1,g2⟩:=F U Z H hH _ cC aW aE (BQ cn bR c.args.toList) bt;refine⟨cy,v,aq,λm hm k aU=>?_,g2⟩;rw[DE c9,g1 m hm];rfl
   |fn g bY bJ=>rw[aI] at h ax ah;have⟨n,ix,z0,br,F⟩:=Xv h ax;cases br;simp only[cd] at ah;have⟨hH,cC,c9,aE,bt⟩:=ah;have⟨cy,v,aq,g1,g2⟩:=F U Z H [] _ [] aW rfl ((cd.d8 aE).append ((BQ cn bR c.args.toList).append (cd.d8 bt))) rfl;refine⟨cy,v,aq,λm hm k aU=>?_,g2⟩;rw[DE c9];have g1:=g1 m hm;simp only[kv,oK] at g1;rw[g1];rfl
   |_=>rw[aI] at h;exact h.elim
  .rename_i kU;rw[kU] at ax;cases ax
  .rename_i B F;split at ax
   .rename_i kU;exact absurd kU (B _)
   .cases ax
 |_=>cases ax
def acQ{s}:∀{bc}{n i:Nat},bc[n]?=some s->∃M,place bc i s=some M
 |[],n,i,h=>by simp at h
 |a::l,n,i,h=>by
  simp only[place];cases q:Nat.beq a s with
  |true=>exact⟨_,rfl⟩
  |false=>
   cases n with
   |zero=>simp at h;subst h;rw[cF.2 rfl] at q;cases q
   |succ n=>exact acQ (n:=n) (by simpa using h)
def aqt(h:tV (dq C) bf g lj args S k)(ax:No bf S lj args cW):∃f bY bJ,g=.fn f bY bJ/\∀(U)(Z)(H)(hH da cC),bL U Z S.A H->cJ U bY hH->eW U Z S.A args da->cJ U bJ cC->∃cy v aq,(∀m,cy<=m->∀k,C m f (hH++(da++cC)) H k=k (.val v) aq)/\∀s D,s∈cW->look S.A s=some D->D.real->aq.get (Z s)=H.get (Z s):=by
 cases lj with
 |none=>cases ax
 |some fn=>
  unfold No at ax;simp only at ax;cases ch:bf.mt fn with
  |nil=>rw[ch] at ax;cases ax
  |cons a l=>
   cases a with
   |succ a=>rw[ch] at ax;cases ax
   |zero=>
   rw[ch] at ax;simp only at ax;unfold tV at h;simp only[ch] at h;generalize im:reach S.A 9 [] (oM (bf.sF fn) 0 args)=bc at h ax;generalize v8:lP ((tq (bf.sF fn) 0 args).flatMap (e6 S.A 3))=aX at h;cases bc with
   |nil=>cases ax
   |cons b bc=>
   simp only[f0,c6] at ax;simp only at h;generalize ahi:lP (aX++(b::bc).flatMap (t9 S.A))=o0 at h;cases q:(jQ o0 (b::bc)&&kR (b::bc)&&wM (ev (0::l)) (ev bf.du)&&w8 (b::bc) (0::l) bf.du) with
   |false=>simp only[q] at h;exact h.elim
   |true=>
    simp only[q] at h;simp only[c6] at q;obtain⟨⟨⟨bq,aS⟩,bU⟩,cU⟩:=q;have⟨da,B,h⟩:=kk h;have⟨dP,F,f,bY,bJ,br,ak⟩:=kk h;refine⟨f,bY,bJ,br,λU Z H hH eE cC aW I aD ap=>?_⟩;have bP:=fx.ft (X:=bf.du) (d:=0) (S:=S) aW o0;have hle:U.le (hQ U Z S.A H o0):=rr aW;have Cc:=OY bP.ok F aS;have q2:=Js aW F aS bq B aD;have m9:=((I.z9 hle).o8 (A:=dP) (Z:=uJ Z (b::bc))).append (q2.append (ap.z9 hle).o8);have⟨fG,jX,v,aq,bh,bV,gX,⟨cy,dr⟩,c3,dY,e9,f9⟩:=ak _ _ H _ Cc m9;refine⟨cy,v,aq,dr,λs D EV K ad=>?_⟩;refine dY.same _ (aW.lt s D K ad).1 (λcP bs g1 g2 g3 g4=>?_) λbs _=>rfl;have⟨eY,ex⟩:=ax s EV;have⟨el,z,aF,aZ⟩:=DT eY;rw[K] at aZ;cases aZ;obtain⟨n,t,cQ,rfl,dc,cl,hD,rfl⟩:=(Dr F).1 _ _ g1;rw[vY dc] at g4;have lS:∃eL,look S.A t=some eL/\eL.real=true:=by
     have oo:=BP hD;cases o0 with
     |nil=>exact⟨cQ,cl,oo⟩
     |cons a o0=>
      have cl:look (fL (lk (keeps S.A (a::o0)) (a::o0)) (jS S.A (a::o0))) t=some cQ:=cl;rw[nQ,uN] at cl;cases hm:cr t (a::o0) with
      |true=>rw[hm] at cl;cases cl
      |false=>
       rw[hm] at cl;cases gS:look S.A t with
       |none=>rw[gS] at cl;cases cl
       |some eL=>rw[gS] at cl;cases cl;rw[lJ] at oo;exact⟨eL,rfl,oo⟩
    have⟨eL,oo,RH⟩:=lS;have:=aW.inj t s eL _ oo K RH rfl g4;subst this;rw[oo] at K;cases K;have afI:∃el z aF,cQ=.box el z aF:=by
     cases o0 with
     |nil=>have cl:look S.A t=some cQ:=cl;rw[oo] at cl;cases cl;exact⟨_,_,_,rfl⟩
     |cons a o0=>
      have cl:look (fL (lk (keeps S.A (a::o0)) (a::o0)) (jS S.A (a::o0))) t=some cQ:=cl;rw[nQ,uN] at cl;cases hm:cr t (a::o0) with
      |true=>rw[hm] at cl;cases cl
      |false=>rw[hm,oo] at cl;cases cl;cases aF<;>exact⟨_,_,_,rfl⟩
    obtain⟨eC,cI,fB,rfl⟩:=afI;have⟨M,bb⟩:=acQ (i:=0) dc;rw[bb] at ex;have⟨cx,aN,c9⟩:=IZ bb;have:=Te aS dc c9;subst this;rw[Bl] at g3;have g3:cr (1000+n) l=false:=g3;have hB:M=n:=Y;subst hB;have ex:cr (1000+M) l=true:=ex;rw[g3] at ex;cases ex
def apx(ax:xa bf es ae d op S cW)(h:q4 (dq C) bf P es ae d op S k):∀(U)(Z)(H)(L)(T),bL U Z S.A H->eW U Z S.A S.L L->gp U Z S.A es.length S.E T->∃cy v aq,(∀m,cy<=m->∀k aU,(hN P es ae op).f (C m) L T H k aU=k v aq)/\∀s D,s∈cW->look S.A s=some D->D.real->aq.get (Z s)=H.get (Z s):=by
 unfold xa at ax;cases ay:bf.own d with
 |true=>rw[ay] at ax;cases ax
 |false=>
 rw[ay] at ax;simp only at ax;cases op with
 |call c=>
  unfold q4 at h;simp only[ay] at h;simp only at ax;split at h
  .rename_i f kU;rw[kU] at ax;simp only at ax;have Iu:(hN P es ae (.call c))=q3 es ae f c.args.toList:=by simp only[hN,kU]
   rw[Iu];intro U Z H L T aW cn bR;have ah:=kD (ae:=ae) cn bR f;cases aI:dN es ae S f with
   |J g=>rw[aI] at h ax ah;obtain⟨n,bY,bJ,rfl,F⟩:=aqt h ax;simp only[cd,cN,bp] at ah;have⟨hH,cC,c9,aE,bt⟩:=ah;have⟨cy,v,aq,g1,g2⟩:=F U Z H hH _ cC aW aE (BQ cn bR c.args.toList) bt;refine⟨cy,v,aq,λm hm k aU=>?_,g2⟩;rw[DE c9,g1 m hm];rfl
   |_=>rw[aI] at ax;cases ax
  .rename_i kU;rw[kU] at ax;cases ax
  .rename_i B F;split at ax
   .rename_i kU;exact absurd kU (B _)
   .cases ax
 |_=>cases ax
def akR(ax:(x9 bf es ae op S||xa bf es ae d op S cW))(h:q4 (dq C) bf P es ae d op S k):∀(U)(Z)(H)(L)(T),bL U Z S.A H->eW U Z S.A S.L L->gp U Z S.A es.length S.E T->∃cy v aq,(∀m,cy<=m->∀k aU,(hN P es ae op).f (C m) L T H k aU=k v aq)/\∀s D,s∈cW->look S.A s=some D->D.real->aq.get (Z s)=H.get (Z s):=by
 intro U Z H L T aW cn bR;rcases Bool.or_eq_true_iff.1 ax with ax|ax
 .have⟨cy,v,aq,g1,g2⟩:=ae6 ax h U Z H L T aW cn bR;exact⟨cy,v,aq,g1,λs D _ K ad=>g2 _ (aW.lt s D K ad).1⟩
 .exact apx ax h U Z H L T aW cn bR
def anS{f:(bl->bd->Bool)->Bool}{v km}{H aq}(h:∀k,f k=k v H)(b5:∀k,f k=k km aq):H=aq:=by
 classical
 have B:=h λ_ X=>decide (X=aq)
 have F:=b5 λ_ X=>decide (X=aq)
 rw[B] at F
 simpa using F
end
variable{H:bd}{L:cv}{T:b4}{call:cG}{ae:dv}{k:mE->Prop}{m:Nat}{op:Op}{an:gu}{bm:List jy}{b6:List jk}{A:be}{U:dO}{Z:Nat->Nat}
def abQ{l N}:N∈gK m l↔N∈l/\dd m N.1=false:=by unfold gK;rw[kf];simp
def Zi{m H}:∀{b6},(∀r∈b6,dd m r.i=false->(∀k,r.tp.f r.N H k=k r.v)/\qW r.v r.v)->sK m H b6
 |[],_=>rfl
 |r::l,h=>by
  have bB:=Zi (m:=m) (H:=H) (b6:=l) λr ad=>h r (by simp [ad]);unfold sK;cases q:dd m r.i with
  |true=>rw[fz];exact bB
  |false=>have⟨B,F⟩:=h r (by simp) q;rw[mF,B,F,fz];exact bB
def ZV{aJ}:∀{A},vs aJ A->∀s el z l,look A s=some (.box el z (.bE l))->∀e∈l,∀t∈yH e,t∉aJ
 |[],_,_,_,_,_,h=>by cases h
 |(a,D)::r,h,s,el,z,l,K=>by
  rw[hO] at K;have ad:vs aJ r=true:=by
   cases D with
   |box eC cI aF=>
    cases aF with
    |cc x=>exact h
    |bE x=>simp only[vs,c6] at h;exact h.2
   |arr=>exact h
  by_cases e:s=a
  .rw[b3 e] at K;cases K;simp only[vs,c6,f0] at h;intro e ar t al;exact Cr (h.1 e ar) t al
  .rw[bA e] at K;exact ZV ad s el z l K
def Uk:∀{l},(!true||ym A l)->∀s,s∈l->∃D,look A s=some D/\D.real
 |[],_,_,ak=>by cases ak
 |a::l,h,s,ak=>by
  simp only[xp,Gc] at h;simp only[ym] at h;cases az:look A a with
  |none=>rw[az] at h;cases h
  |some D=>
   rw[az] at h;cases D with
   |box el z aF=>
    rcases fS.1 ak with rfl|ak
    .exact⟨_,az,rfl⟩
    .exact Uk (by simpa using h) s ak
   |arr el z ab u=>
    simp only[c6] at h;rcases fS.1 ak with rfl|ak
    .refine⟨_,az,?_⟩;cases u with
     |false=>cases ab<;>rfl
     |true=>cases ab with
      |nil=>cases h.1
      |cons=>rfl
    .exact Uk (by simpa using h.2) s ak
section
variable{C:Nat->cG}{P:dy}{es:aO}{bf:Hint}{aP:Nat}
def anH{v aq}(aI:∀k aU,(hN P es ae op).f call L T (g9 (bm.filter λq=>dd m q.i) H) k aU=k v aq)(ad:sK m aq b6=true)(k:o6)(aU:bl->bd->Bool):(zF P es ae m op).f call L T H b6 bm k aU=k (v::L) aq (xh m b6) (kX m bm):=by
 unfold zF;generalize hN P es ae op=q at aI;have⟨f⟩:=q;simp only at aI ⊢;cases bm with
 |nil=>
  show f call L T H _ aU=_;rw[show f call L T H _ aU=_ from aI _ aU];cases b6 with
  |nil=>rfl
  |cons r b6=>show a7 (sK m aq (r::b6)) _ false=_;rw[ad];rfl
 |cons q bm=>show AL m (q::bm) H _=_;rw[N5,show f call L T (g9 _ H) _ aU=_ from aI _ aU,ad];rfl
def apn{d aY k}(h:Jz (dq C) bf P es ae m d op aY k):Am C bf.du es (zF P es ae m op).f aY k:=by
 intro U Z L T H b6 bm bi;obtain⟨aJ,Gi,UY,amL,Pz,aj4,h⟩:∃aJ Gi,(∀x,x∈sites (gK m aY.iV)->x∈aJ)/\(Gi=false->∀x,x∈sites (gK m aY.iM)->x∈aJ)/\(∀x,x∈aJ->x∈sites (gK m aY.iV)++sites (gK m aY.iM))/\(Gi=true->(x9 bf es ae op (AO aY aJ)||xa bf es ae d op (AO aY aJ) (sites (gK m aY.iM)))=true)/\(match aJ,lN P op with
  |aJ,.wr=>match Nat.blt d 1000&&jQ [d] (sites (gK m aY.iV)++sites (gK m aY.iM))&&aY.dk.all (λi=>dd m i)&&Nat.ble ae.length aY.S.L.length with
   |true=>q4 (dq C) bf P es ae d op ⟨aY.S.L++pt (ka aY.S.A aJ),aY.S.E,jS aY.S.A aJ⟩ λv S=>tU (DD aJ v&&vs aJ S.A&&(!Gi||ym S.A (sites (gK m aY.iM)))) (k v ⟨⟨S.L.take aY.S.L.length,S.E,xi (ev bf.du) (ka aY.S.A aJ) (S.L.drop aY.S.L.length)++S.A⟩,gK m aY.iM,gK m aY.iV,[]⟩) (dq C).fail
   |false=>(dq C).fail
  |_,_=>(dq C).fail):=by
  unfold Jz at h
  simp only at h
  cases ax:(x9 bf es ae op (AO aY (sites (gK m aY.iV)))||xa bf es ae d op (AO aY (sites (gK m aY.iV))) (sites (gK m aY.iM))) with
  |true=>rw[ax] at h;exact⟨sites (gK m aY.iV),true,λx I=>I,λI=>(by cases I),λx I=>EB _ I,λ_=>ax,h⟩
  |false=>rw[ax] at h;exact⟨sites (gK m aY.iV)++sites (gK m aY.iM),false,λx I=>EB _ I,λ_ x I=>FU _ I,λx I=>I,λI=>(by cases I),h⟩
 cases aw:lN P op with
 |pure=>rw[aw] at h;exact h.elim
 |sf=>rw[aw] at h;exact h.elim
 |wr=>
  rw[aw] at h;simp only at h;split at h
  .rename_i q;simp only[c6,f0] at q;obtain⟨⟨⟨bq,aS⟩,bU⟩,cU⟩:=q;have bq:=cZ.1 bq;have aS:=Cr aS d (by simp);have cU:=dn.1 cU;have Hd:∀q∈bm,dd m q.i=false->∃s D,s∈aJ/\Z s=q.id/\look aY.S.A s=some D/\D.real=true/\(q.i,s)∈gK m aY.iV:=by
    intro q ax hm;obtain⟨dl,⟨s,D,cB,dV,gO,l3⟩|⟨cB,_⟩⟩:=bi.lV q ax
    .have:(q.i,s)∈gK m aY.iV:=abQ.2 ⟨cB,hm⟩;exact⟨s,D,UY _ (re.2 ⟨_,this,rfl⟩),dV,gO,l3,this⟩
    .have:=bU _ cB;rw[hm] at this;cases this
   have RC:∀q∈(bm.filter λq=>dd m q.i),∀eh∈(bm.filter λq=>dd m q.i),q.id=eh.id->q=eh:=λq ax eh js=>bi.tb q (kf.1 ax).1 eh (kf.1 js).1;have Pe:∀q∈kX m bm,∀eh∈kX m bm,q.id=eh.id->q=eh:=λq ax eh js=>by rw[Ez] at ax js;exact bi.tb q (kf.1 ax).1 eh (kf.1 js).1
   have oW:∀q,q∈kX m bm↔q∈bm/\dd m q.i=false:=λq=>by rw[Ez,kf];simp
   have NF:∀a,(∀q∈kX m bm,q.id≠a)->(g9 (bm.filter λq=>dd m q.i) H).get a=(g9 bm H).get a:=by
    intro a aD;by_cases jA:∃q∈bm,q.id=a
    .obtain⟨q,dl,cB⟩:=jA;have hm:dd m q.i=true:=by
      cases hm:dd m q.i with
      |true=>rfl
      |false=>exact absurd cB (aD q ((oW q).2 ⟨dl,hm⟩))
     rw[(qS RC a).1 q (kf.2 ⟨dl,hm⟩) cB,(qS bi.tb a).1 q dl cB]
    .have dB:∀q∈bm,q.id≠a:=λq dl cB=>jA ⟨q,dl,cB⟩;rw[(qS bi.tb a).2 dB,(qS RC a).2 λq ax=>dB q (kf.1 ax).1]
   have iI:∀s D,s∉aJ->look aY.S.A s=some D->D.real=true->∀q∈kX m bm,q.id≠Z s:=by intro s D ak K ad q ax e;obtain⟨dl,cB⟩:=(oW q).1 ax;obtain⟨cP,bs,m1,m2,m3,m4,_⟩:=Hd q dl cB;have:=bi.ok.inj cP s bs D m3 K m4 ad (m2.trans e);subst this;exact ak m1
   have aiF:∀a D,U a=some D->∀q∈kX m bm,q.id≠a:=by intro a D aD q ax e;obtain⟨dl,cB⟩:=(oW q).1 ax;obtain⟨cP,bs,m1,m2,m3,m4,_⟩:=Hd q dl cB;rw[<-e,<-m2,(bi.ok.lt cP bs m3 m4).2] at aD;cases aD
   have GI:∀s,look (jS aY.S.A aJ) s=if s∈aJ then none else look aY.S.A s:=by
    intro s;rw[uN];cases hm:cr s aJ with
    |true=>rw[b3 (EW.1 hm)]
    |false=>rw[bA λe=>by rw[EW.2 e] at hm;cases hm]
   have nh:∀s D,look (jS aY.S.A aJ) s=some D->look aY.S.A s=some D:=by
    intro s D K;rw[GI] at K;by_cases e:s∈aJ
    .rw[b3 e] at K;cases K
    .rw[bA e] at K;exact K
   have Tk:bL U Z (jS aY.S.A aJ) (g9 (bm.filter λq=>dd m q.i) H):=by
    refine(Vg (X:=[]) nh bi.ok).1.local (λa D ay=>NF a (aiF a D ay)) (λs D K ad=>NF _ ?_) (by rw[oh,oh]);have gS:=K;rw[GI] at gS;by_cases e:s∈aJ
    .rw[b3 e] at gS;cases gS
    .exact iI s D e (nh s D K) ad
   obtain⟨bg,gn⟩:=aeb bi.ok nh (l:=aJ);have fy:=bi.sy.len;have ac9:eW U Z (jS aY.S.A aJ) (aY.S.L++pt (ka aY.S.A aJ)) (L++bg):=by have:=(GY (U:=U) (Z:=Z) nh).o8 bi.sy;rw[we] at this;exact this.append gn
   have aaB:gp U Z (jS aY.S.A aJ) es.length aY.S.E T:=by have:=(GY (U:=U) (Z:=Z) nh).wh bi.rq;rwa [we] at this
   have anO:=WD aw h;obtain⟨e,dM,v,aq,bh,bV,B,⟨cy,F⟩,ah,aE⟩:=anO U Z _ (L++bg) T Tk ac9 aaB;cases mC:(DD aJ e&&vs aJ dM.A&&(!Gi||ym dM.A (sites (gK m aY.iM)))) with
   |false=>rw[mC] at B;exact B.elim
   |true=>
    rw[mC] at B;simp only[c6] at mC;obtain⟨mC,nT⟩:=mC;obtain⟨f,gN,gj,hU,iw,jm⟩:=ah.mp;have agc:dM.L.take aY.S.L.length=aY.S.L.map (dJ f):=by rw[hU,qn,List.take_left' (by simp)]
    have akY:dM.L.drop aY.S.L.length=(pt (ka aY.S.A aJ)).map (dJ f):=by rw[hU,qn,List.drop_left' (by simp)]
    have zX:tU true (k e ⟨⟨dM.L.take aY.S.L.length,dM.E,xi (ev bf.du) (ka aY.S.A aJ) (dM.L.drop aY.S.L.length)++dM.A⟩,gK m aY.iM,gK m aY.iV,[]⟩) (dq C).fail=k e ⟨⟨aY.S.L.map (dJ f),aY.S.E.map (dJ f),((ka aY.S.A aJ).map λN=>(N.1,nU f (ev bf.du) N.2))++dM.A⟩,gK m aY.iM,gK m aY.iV,[]⟩:=by rw[agc,akY,Lu,iw];rfl
    have B:k e ⟨⟨aY.S.L.map (dJ f),aY.S.E.map (dJ f),((ka aY.S.A aJ).map λN=>(N.1,nU f (ev bf.du) N.2))++dM.A⟩,gK m aY.iM,gK m aY.iV,[]⟩:=by rw[<-zX];exact B
    have l0:∀s,s∈aJ->s≠d:=λs ak e=>aS (by rw[<-e];exact Pz s ak);have G0:∀s,s∈aJ->Gt f s/\look dM.A s=none:=by
     intro s ak;have:look (jS aY.S.A aJ) s=none:=by rw[GI,b3 ak]
     exact⟨gj s (l0 s ak) this,ah.fresh s (l0 s ak) this⟩
    have e8:∀s,look (((ka aY.S.A aJ).map λN=>(N.1,nU f (ev bf.du) N.2))++dM.A) s=if s∈aJ then(look aY.S.A s).map (nU f (ev bf.du)) else look dM.A s:=by
     intro s;rw[XR,aaO,RK];by_cases ak:s∈aJ
     .rw[b3 ak,b3 ak];cases K:look aY.S.A s with
      |none=>simp only[Option.map_none];exact(G0 s ak).2
      |some D=>rfl
     .rw[bA ak,bA ak];rfl
    have aj7:∀s el z aF,s∈aJ->look (((ka aY.S.A aJ).map λN=>(N.1,nU f (ev bf.du) N.2))++dM.A) s=some (.box el z aF)->∃i6,look aY.S.A s=some (.box el z i6):=by
     intro s el z aF ak K;rw[e8,b3 ak] at K;cases az:look aY.S.A s with
     |none=>rw[az] at K;cases K
     |some D=>rw[az] at K;simp only[A5,Option.some.injEq] at K;obtain⟨i6,rfl⟩:=afx K;exact⟨i6,rfl⟩
    have sD:∀s el z ab u,s∈aJ->look (((ka aY.S.A aJ).map λN=>(N.1,nU f (ev bf.du) N.2))++dM.A) s=some (.arr el z ab u)->∃ey,look aY.S.A s=some (.arr el z ey u)/\ey.length=ab.length:=by
     intro s el z ab u ak K;rw[e8,b3 ak] at K;cases az:look aY.S.A s with
     |none=>rw[az] at K;cases K
     |some D=>rw[az] at K;simp only[A5,Option.some.injEq] at K;obtain⟨ey,rfl,aN⟩:=af6 K;exact⟨ey,rfl,aN⟩
    have mp:ji f U Z aY.S.A bh bV (((ka aY.S.A aJ).map λN=>(N.1,nU f (ev bf.du) N.2))++dM.A):=by
     have Ui:∀e v s,yH e=[s]->s∉aJ->cN U Z (jS aY.S.A aJ) e v->(f e=e->cN bh bV dM.A e v->cN bh bV (((ka aY.S.A aJ).map λN=>(N.1,nU f (ev bf.du) N.2))++dM.A) e v)->cN bh bV (((ka aY.S.A aJ).map λN=>(N.1,nU f (ev bf.du) N.2))++dM.A) (f e) v:=by
      intro e v s _ ak ar aoE;have:=jm e v ar;rcases gN e with h|⟨t,h⟩
      .rw[h] at this ⊢;exact aoE h this
      .rw[h] at this ⊢;exact this
     intro e v ar;cases e with
     |J t=>
      have:=jm (.J t) v ar;rcases gN (.J t) with h|⟨kH,h⟩
      .rw[h] at this ⊢;exact this
      .rw[h] at this ⊢;exact this
     |bT=>
      have:=jm .bT v ar;rcases gN .bT with h|⟨kH,h⟩
      .rw[h] at this ⊢;exact this
      .rw[h] at this ⊢;exact this
     |iy=>
      have:=jm .iy v ar;rcases gN .iy with h|⟨kH,h⟩
      .rw[h] at this ⊢;exact this
      .rw[h] at this ⊢;exact this
     |agg l=>exact ar.elim
     |fn g x y=>exact ar.elim
     |bH s aT=>
      by_cases ak:s∈aJ
      .rw[((G0 s ak).1 aT 0).1];intro el z aF K;obtain⟨i6,K⟩:=aj7 s el z aF ak K;rw[ah.aH s (l0 s ak)];exact ar _ _ _ K
      .refine Ui (.bH s aT) v s rfl ak (λel z aF K=>ar _ _ _ (nh _ _ K)) λ_ h=>λel z aF K=>?_;rw[e8,bA ak] at K;exact h _ _ _ K
     |bQ s=>
      by_cases ak:s∈aJ
      .rw[((G0 s ak).1 0 0).2.1];intro el z ab u K;obtain⟨ey,K,aN⟩:=sD s el z ab u ak K;rw[ah.aH s (l0 s ak)];exact So aN (ar _ _ _ _ K)
      .refine Ui (.bQ s) v s rfl ak (λel z ab u K=>ar _ _ _ _ (nh _ _ K)) λ_ h=>λel z ab u K=>?_;rw[e8,bA ak] at K;exact h _ _ _ _ K
     |fF s r aT=>
      by_cases ak:s∈aJ
      .rw[((G0 s ak).1 aT r).2.2];intro el z ab u K;obtain⟨ey,K,aN⟩:=sD s el z ab u ak K;rw[ah.aH s (l0 s ak)];exact ar _ _ _ _ K
      .refine Ui (.fF s r aT) v s rfl ak (λel z ab u K=>ar _ _ _ _ (nh _ _ K)) λ_ h=>λel z ab u K=>?_;rw[e8,bA ak] at K;exact h _ _ _ _ K
    have vZ:(g9 (bm.filter λq=>dd m q.i) H).next=H.next:=oh _ _
    have Kb:∀s D,s∈aJ->look aY.S.A s=some D->D.real=true->∀cP bs,look (jS aY.S.A aJ) cP=some bs->bs.real=true->Z cP≠Z s:=by intro s D ak K ad cP bs hJ fN e;have:=bi.ok.inj cP s bs D (nh _ _ hJ) K fN ad e;subst this;rw[GI,b3 ak] at hJ;cases hJ
    have Z9:∀s D,s∈aJ->look aY.S.A s=some D->D.real=true->bh (Z s)=none:=by
     intro s D ak K ad;have aV:=bi.ok.lt s D K ad;rw[oh] at aV;cases ax:bh (Z s) with
     |none=>rfl
     |some x=>
      exfalso;rcases ah.hZ.new _ _ ax with g|g|⟨cP,bs,g1,g2,g3⟩|⟨ei,g1,g2⟩
      .rw[aV.2] at g;cases g
      .rw[vZ] at g;omega
      .exact Kb s D ak K ad cP bs g1 g2 g3
      .rw[aV.2] at g1;cases g1
    have same:∀s D,s∈aJ->look aY.S.A s=some D->D.real=true->aq.get (Z s)=(g9 (bm.filter λq=>dd m q.i) H).get (Z s):=by intro s D ak K ad;have aV:=bi.ok.lt s D K ad;rw[oh] at aV;exact ah.hZ.same _ (by rw[vZ];exact aV.1) (λcP bs g1 g2 _=>Kb s D ak K ad cP bs g1 g2) λbs lU=>by rw[aV.2] at lU;cases lU
    have Hh:∀a,(∀q∈kX m bm,q.id≠a)->(g9 (kX m bm) aq).get a=aq.get a:=λa aD=>(qS Pe a).2 aD;have X1:∀s D,s∈aJ->look aY.S.A s=some D->D.real=true->(g9 (kX m bm) aq).get (Z s)=(g9 bm H).get (Z s):=by
     intro s D ak K ad;by_cases jA:∃q∈kX m bm,q.id=Z s
     .obtain⟨q,dl,cB⟩:=jA;rw[(qS Pe _).1 q dl cB,(qS bi.tb _).1 q ((oW q).1 dl).1 cB]
     .have dB:∀q∈kX m bm,q.id≠Z s:=λq dl cB=>jA ⟨q,dl,cB⟩;rw[Hh _ dB,same s D ak K ad,NF _ dB]
    have abp:∀q∈kX m bm,q.id<H.next:=λq ax=>(bi.lV q ((oW q).1 ax).1).1;have aio:H.next<=aq.next:=by have:=ah.hZ.next;rwa [vZ] at this
    have aam:∀s D,look dM.A s=some D->D.real=true->∀q∈kX m bm,q.id≠bV s:=by
     intro s D K ad q ax e;obtain⟨dl,cB⟩:=(oW q).1 ax;obtain⟨eK,cQ,m1,m2,m3,m4,_⟩:=Hd q dl cB;rcases ah.hZ.eO s D K ad with g|⟨ij,ei,g1,g2,g3,_⟩
     .have:=abp q ax;rw[vZ] at g;omega
     .exact Kb eK cQ m1 m3 m4 ij ei g1 g2 (g3.trans (e.symm.trans m2.symm))
    have apZ:∀a D,bh a=some D->∀q∈kX m bm,q.id≠a:=by intro a D aD q ax e;obtain⟨dl,cB⟩:=(oW q).1 ax;obtain⟨eK,cQ,m1,m2,m3,m4,_⟩:=Hd q dl cB;rw[<-e,<-m2,Z9 eK cQ m1 m3 m4] at aD;cases aD
    have HO:U.iz (ev bf.du) bh:=ah.hZ.le;have split:∀s D,look (((ka aY.S.A aJ).map λN=>(N.1,nU f (ev bf.du) N.2))++dM.A) s=some D->(s∈aJ/\∃ei,look aY.S.A s=some ei/\D=nU f (ev bf.du) ei)\/(s∉aJ/\look dM.A s=some D):=by
     intro s D K;rw[e8] at K;by_cases ak:s∈aJ
     .rw[b3 ak] at K;cases az:look aY.S.A s with
      |none=>rw[az] at K;cases K
      |some ei=>rw[az] at K;cases K;exact .inl ⟨ak,ei,rfl,rfl⟩
     .rw[bA ak] at K;exact .inr ⟨ak,K⟩
    have cells:∀(l:bG)(r:cv),(∀e∈l,∀t∈yH e,t∉aJ)->fl bh bV dM.A l r->fl bh bV (((ka aY.S.A aJ).map λN=>(N.1,nU f (ev bf.du) N.2))++dM.A) l r:=by
     intro l;induction l with
     |nil=>intro r _ h;exact h
     |cons e l bB=>
      intro r acG h;obtain⟨v,gC,rfl,g1,g2⟩:=h;refine⟨v,gC,rfl,?_,bB _ (λe ar=>acG e (by simp [ar])) g2⟩;have QW:=acG e (by simp);cases e with
      |bH s aT=>intro el z aF K;rw[e8,bA (QW s (by simp [yH]))] at K;exact g1 _ _ _ K
      |bQ s=>intro el z ab u K;rw[e8,bA (QW s (by simp [yH]))] at K;exact g1 _ _ _ _ K
      |fF s r aT=>intro el z ab u K;rw[e8,bA (QW s (by simp [yH]))] at K;exact g1 _ _ _ _ K
      |_=>exact g1
    have nz:bL bh bV (((ka aY.S.A aJ).map λN=>(N.1,nU f (ev bf.du) N.2))++dM.A) (g9 (kX m bm) aq):=by
     refine⟨λa D ay=>?_,λs D K ad=>?_,λs cP D bs K hJ ad fN e=>?_,λs D K=>?_⟩
     .rw[Hh a (apZ a D ay),oh];exact ah.ok.gf a D ay
     .rw[oh];rcases split s D K with⟨ak,ei,g1,rfl⟩|⟨ak,g1⟩
      .rw[BV] at ad;have aV:=bi.ok.lt s ei g1 ad;rw[oh] at aV;rw[ah.aH s (l0 s ak)];exact⟨Y,Z9 s ei ak g1 ad⟩
      .exact ah.ok.lt s D g1 ad
     .rcases split s D K with⟨ak,ei,g1,rfl⟩|⟨ak,g1⟩<;>rcases split cP bs hJ with⟨oq,Mc,qi,rfl⟩|⟨oq,qi⟩
      .rw[BV] at ad fN;rw[ah.aH s (l0 s ak),ah.aH cP (l0 cP oq)] at e;exact bi.ok.inj s cP ei Mc g1 qi ad fN e
      .exfalso;rw[BV] at ad;rw[ah.aH s (l0 s ak)] at e;have aV:=bi.ok.lt s ei g1 ad;rw[oh] at aV;rcases ah.hZ.eO cP bs qi fN with g|⟨ij,eL,dl,cB,dV,_⟩
       .rw[vZ] at g;omega
       .exact Kb s ei ak g1 ad ij eL dl cB (dV.trans e.symm)
      .exfalso;rw[BV] at fN;rw[ah.aH cP (l0 cP oq)] at e;have aV:=bi.ok.lt cP Mc qi fN;rw[oh] at aV;rcases ah.hZ.eO s D g1 ad with g|⟨ij,eL,dl,cB,dV,_⟩
       .rw[vZ] at g;omega
       .exact Kb cP Mc oq qi fN ij eL dl cB (dV.trans e)
      .exact ah.ok.inj s cP D bs g1 qi ad fN e
     .rcases split s D K with⟨ak,ei,g1,rfl⟩|⟨ak,g1⟩
      .have ay:=bi.ok.obj s ei g1;cases ei with
       |box el z aF=>
        obtain⟨am,cw,c7,fu,fh⟩:=ay;have br:=X1 s _ ak g1 rfl;rw[<-br,<-ah.aH s (l0 s ak)] at cw;cases aF with
        |cc l=>show ox _ _ _ _ s (rX (ev bf.du) (.box el z (.cc l)));rw[xC];exact⟨am,cw,c7,fu,by rw[dt];exact fh.1,fh.2.bz HO⟩
        |bE l=>exact⟨am,cw,c7,fu,by rw[dt];exact fh.1,mp.d8 fh.2⟩
       |arr el z ab u=>show ox _ _ _ _ s (rX (ev bf.du) (.arr el z ab u));rw[xC];intro ad;have ad:(ob (ev bf.du) (.arr el z ab u)).real=true:=ad;rw[uZ] at ad;obtain⟨am,cw,c7,fu,fh⟩:=ay ad;have br:=X1 s _ ak g1 ad;rw[<-br,<-ah.aH s (l0 s ak)] at cw;exact⟨am,by rw[dt];exact cw,by rw[dt];exact c7,fu,fh.bz HO⟩
      .have ay:=ah.ok.obj s D g1;cases D with
       |box el z aF=>
        obtain⟨am,cw,c7,fu,fh⟩:=ay;refine⟨am,by rw[Hh _ (aam s _ g1 rfl)];exact cw,c7,fu,?_⟩;cases aF with
        |cc l=>exact fh
        |bE l=>exact⟨fh.1,cells l _ (ZV mC.2 s el z l g1) fh.2⟩
       |arr el z ab u=>intro ad;obtain⟨am,cw,c7,fu,fh⟩:=ay ad;exact⟨am,by rw[Hh _ (aam s _ g1 ad)];exact cw,c7,fu,fh⟩
    have WK:∀r∈b6,dd m r.i=false->∃a,a<H.next/\(∀q∈bm,q.id≠a)/\(∀hM:bd,hM.get a=H.get a->∀k,r.tp.f r.N hM k=k r.v)/\qW r.v r.v=true/\aq.get a=H.get a/\
     ((∃D,bh a=some D/\cr (l1 D) bf.du=false)\/∃s D,(r.i,s)∈gK m aY.iM/\look (((ka aY.S.A aJ).map λN=>(N.1,nU f (ev bf.du) N.2))++dM.A) s=some D/\D.real=true/\bV s=a):=by
     intro r ad hm
     obtain⟨a,dl,cB,dV,gO,l3⟩:=bi.rd r ad
     have me:(g9 (bm.filter λq=>dd m q.i) H).get a=H.get a:=(qS RC a).2 λq ax=>cB q (kf.1 ax).1
     refine⟨a,dl,cB,dV,gO,?_⟩
     rcases l3 with⟨D,m1,m2⟩|⟨s,D,m1,m2,m3,m4⟩
     .have:=ah.hZ.iz a D m1 m2;exact⟨by rw[(ah.ok.gf a D this).1,<-me,(Tk.gf a D m1).1],.inl ⟨D,this,m2⟩⟩
     .have hp:(r.i,s)∈gK m aY.iM:=abQ.2 ⟨m1,hm⟩;have m6:s∈sites (gK m aY.iM):=re.2 ⟨_,hp,rfl⟩;have XQ:s≠d:=λe=>aS (by rw[<-e];exact FU _ m6);cases CG:Gi with
      |false=>have ak:s∈aJ:=amL CG s m6;exact⟨by rw[<-me,<-m4];exact same s D ak m2 m3,.inr ⟨s,nU f (ev bf.du) D,hp,by rw[e8,b3 ak,m2];rfl,by rw[BV];exact m3,by rw[ah.aH s XQ];exact m4⟩⟩
      |true=>
       rw[CG] at nT;obtain⟨bs,dc,cl⟩:=Uk nT s m6;have ak:s∉aJ:=λak=>by rw[(G0 s ak).2] at dc;cases dc
       refine⟨?_,.inr ⟨s,bs,hp,by rw[e8,bA ak];exact dc,cl,by rw[ah.aH s XQ];exact m4⟩⟩;obtain⟨ln,v2,hM,dr,c3⟩:=akR (aj4 CG) h U Z _ (L++bg) T Tk ac9 aaB;have aZ:aq=hM:=anS (f:=λk=>(hN P es ae op).f (C (max cy ln)) (L++bg) T (g9 (bm.filter λq=>dd m q.i) H) k λ_ _=>false) (λk=>by have:=F (max cy ln) (Nat.le_max_left _ _) k λ_ _=>false;unfold oi at this;rw[aw] at this;exact this) (λk=>dr (max cy ln) (Nat.le_max_right _ _) k λ_ _=>false);rw[aZ,<-m4,c3 s D m6 (by show look (jS aY.S.A aJ) s=_;rw[GI,bA ak];exact m2) m3,m4,me]
    have agj:sK m aq b6=true:=Zi λr ad hm=>by obtain⟨a,dl,cB,dV,gO,l3,_⟩:=WK r ad hm;exact⟨λk=>dV aq l3 k,gO⟩
    have aoc:∀iL,cy<=iL->∀mA aU,(hN P es ae op).f (C iL) L T (g9 (bm.filter λq=>dd m q.i) H) mA aU=mA v aq:=by intro iL Py mA aU;have:=F iL Py mA aU;unfold oi at this;rw[aw] at this;have bt:=akW (L:=L) (bg:=bg) (T:=T) (by rw[fy];exact cU) h (C iL) (g9 (bm.filter λq=>dd m q.i) H) mA aU;rw[<-bt];exact this
    refine⟨e,_,v,bh,bV,aq,xh m b6,kX m bm,B,⟨cy,λiL Py mA aU=>anH (aoc iL Py) agj mA aU⟩,
     ⟨nz,mp.o8 bi.sy,mp.wh bi.rq,λq ax=>?_,Pe,λr ad=>?_⟩,?_,⟨ah.hZ.le,?_,λa aD ak I=>?_,λa D ay=>?_,λs D K ad=>?_⟩,λs ak=>ah.aH s Y⟩
    .obtain⟨dl,cB⟩:=(oW q).1 ax;obtain⟨s,D,m1,m2,m3,m4,m5⟩:=Hd q dl cB;exact⟨by have:=abp q ax;omega,.inl ⟨s,nU f (ev bf.du) D,m5,by rw[ah.aH s (l0 s m1)];exact m2,by show look _ s=_;rw[e8,b3 m1,m3];rfl,by rw[BV];exact m4⟩⟩
    .rw[Mi] at ad;obtain⟨ad,hm⟩:=kf.1 ad;obtain⟨a,dl,cB,dV,gO,l3,me⟩:=WK r ad (by simpa using hm);refine⟨a,Y,λq ax=>cB q ((oW q).1 ax).1,λhM e k=>dV hM (e.trans l3) k,gO,?_⟩;rcases me with me|⟨s,D,m1,m2,m3,m4⟩
     .exact .inl me
     .exact .inr ⟨s,D,m1,m2,m3,m4⟩
    .have ar:=mC.1;cases e with
     |J t=>exact aE
     |bQ s=>
      simp only[DD,AP] at ar;have ak:s∉aJ:=λak=>by rw[EW.2 ak] at ar;cases ar
      intro el z ab u K;have K:look (((ka aY.S.A aJ).map λN=>(N.1,nU f (ev bf.du) N.2))++dM.A) s=some (.arr el z ab u):=K;rw[e8,bA ak] at K;exact aE _ _ _ _ K
     |_=>cases ar
    .rw[oh,oh];exact aio
    .rw[oh] at aD;by_cases jA:∃q∈kX m bm,q.id=a
     .obtain⟨q,dl,cB⟩:=jA;rw[(qS Pe _).1 q dl cB,(qS bi.tb _).1 q ((oW q).1 dl).1 cB]
     have dB:∀q∈kX m bm,q.id≠a:=λq dl cB=>jA ⟨q,dl,cB⟩;rw[Hh a dB,ah.hZ.same a (by rw[vZ];exact aD) (λs D g1 g2 g3=>ak s D (nh _ _ g1) g2 g3) I,NF a dB]
    .rw[oh];rcases ah.hZ.new a D ay with g|g|⟨s,bs,g1,g2,g3⟩|g
     .exact .inl g
     .rw[vZ] at g;exact .inr (.inl g)
     .exact .inr (.inr (.inl ⟨s,bs,nh _ _ g1,g2,g3⟩))
     .exact .inr (.inr (.inr g))
    .rw[oh];rcases split s D K with⟨ak,ei,g1,rfl⟩|⟨ak,g1⟩
     .rw[BV] at ad;exact .inr ⟨s,ei,g1,ad,(ah.aH s (l0 s ak)).symm,λh=>by rw[agd];exact h⟩
     .rcases ah.hZ.eO s D g1 ad with g|⟨ij,ei,dl,cB,dV,gO⟩
      .rw[vZ] at g;exact .inl g
      .exact .inr ⟨ij,ei,nh _ _ dl,cB,dV,gO⟩
  .exact h.elim
end
section
variable{C:Nat->cG}{P:dy}{es:aO}{bf:Hint}{aP:Nat}
def ur(C:Nat->cG)(X:aO)(es:aO)(f:cG->cv->b4->bd->List jk->List jy->o6->(bl->bd->Bool)->Bool)(aY:mE)(k:mE->Prop):Prop:=
 ∀(U:dO)(Z:Nat->Nat)(L:cv)(T:b4)(H:bd)(b6:List jk)(bm:List jy),v4 X es U Z aY L T H b6 bm->
  ∃nA fX bh bV aq gm fE,k nA/\(∃cy,∀m,cy<=m->∀k aU,f (C m) L T H b6 bm k aU=k fX aq gm fE)/\v4 X es bh bV nA fX T aq gm fE/\
   eQ X U Z aY.S.A (g9 bm H) bh bV nA.S.A (g9 fE aq)/\∀s,1000<=s->bV s=Z s
def ur.seq{a b:rK}{aY}{k}{dr}{X}(h:ur C X es a.f aY dr)(b5:∀aY,dr aY->ur C X es b.f aY k):ur C X es (FW a b).f aY k:=by intro U Z L T H b6 bm bi;have⟨zV,h9,iv,jz,ct,rS,rI,bN,⟨Bs,a2⟩,a3,a4,a5⟩:=h U Z L T H b6 bm bi;have⟨Hn,ia,nO,mx,hM,Ea,Ai,cw,⟨ln,c7⟩,fu,fh,hC⟩:=b5 zV bN iv jz h9 T ct rS rI a3;refine⟨Hn,ia,nO,mx,hM,Ea,Ai,cw,⟨Bs+ln,λm hm k aU=>?_⟩,fu,a4.trans fh,λs q=>(hC s q).trans (a5 s q)⟩;have⟨a⟩:=a;have⟨b⟩:=b;show a (C m) L T H b6 bm (λL H b6 bm=>b (C m) L T H b6 bm k aU) aU=_;rw[show a (C m) L T H b6 bm _ aU=_ from a2 m Y _ _];exact c7 m Y _ _
def v4.push{X}{U}{Z}{aY}{L}{T}{H}{b6}{bm}{e}{v}(h:v4 X es U Z aY L T H b6 bm)(ar:cd U Z aY.S.A e v):v4 X es U Z ⟨⟨e::aY.S.L,aY.S.E,aY.S.A⟩,aY.iM,aY.iV,aY.dk⟩ (v::L) T H b6 bm:=⟨h.ok,⟨v,L,rfl,ar,h.sy⟩,h.rq,h.lV,h.tb,h.rd⟩
def Am.push{X}{f}{aY}{k:mE->Prop}(h:Am C X es f aY λv aY=>k ⟨⟨v::aY.S.L,aY.S.E,aY.S.A⟩,aY.iM,aY.iV,aY.dk⟩):ur C X es f aY k:=by intro U Z L T H b6 bm bi;have⟨e,nA,v,bh,bV,aq,gm,fE,B,F,ah,aE,bt,b1⟩:=h U Z L T H b6 bm bi;exact⟨_,v::L,bh,bV,aq,gm,fE,B,F,ah.push aE,bt,b1⟩
def aar{X}{aY}{k}(h:k ⟨⟨.iy::aY.S.L,aY.S.E,aY.S.A⟩,aY.iM,aY.iV,aY.dk⟩):ur C X es Sk.f aY k:=λU Z L T H b6 bm bi=>
 ⟨_,.undef::L,U,Z,H,b6,bm,h,⟨0,λm _ k aU=>rfl⟩,bi.push rfl,eQ.refl _ _ _ _,λ_ _=>rfl⟩
def Q8{g w yes k aU}:(g.g L T=.undef->(Fh g w yes).f call L T H b6 bm k aU=Sk.f call L T H b6 bm k aU)/\∀b,g.g L T=.bool b->(Fh g w yes).f call L T H b6 bm k aU=if b=w then yes.f call L T H b6 bm k aU else Sk.f call L T H b6 bm k aU:=by
 have⟨g⟩:=g;have⟨y⟩:=yes;refine⟨λh=>?_,λb h=>?_⟩
 .cases w
  .show ES (g L T) _ _=_;rw[show g L T=.undef from h];rfl
  .show DF (g L T) _ _=_;rw[show g L T=.undef from h];rfl
 .cases w
  .show ES (g L T) _ _=_;rw[show g L T=.bool b from h];cases b<;>rfl
  .show DF (g L T) _ _=_;rw[show g L T=.bool b from h];cases b<;>rfl
def acH{an}{ae}{D}{aY}{y}{If:rK}{k}(h:xQ (dq C) aP an ae D aY y k)(ap:∀aY k,y aY k->Am C bf.du es If.f aY k):ur C bf.du es (rt es aP an ae D If).f aY k:=by
 have dC:(match D.guard with
  |none=>y aY λv aY=>k ⟨⟨v::aY.S.L,aY.S.E,aY.S.A⟩,aY.iM,aY.iV,aY.dk⟩
  |some (M,w)=>match(an[M]?).bind (·.dst) with
   |some d=>zl (dq C) ae d w aY.S
    (λS=>y ⟨S,aY.iM,aY.iV,aY.dk⟩ λv aY=>k ⟨⟨v::aY.S.L,aY.S.E,aY.S.A⟩,aY.iM,aY.iV,aY.dk⟩)
    (λS=>k ⟨⟨.iy::S.L,S.E,S.A⟩,aY.iM,aY.iV,aY.dk⟩)
   |none=>(dq C).fail)/\rt es aP an ae D If=(match D.guard with
  |none=>If
  |some (M,w)=>match(an[M]?).bind (·.dst) with
   |some d=>Fh (ki es ae d) w If
   |none=>AQ):=by
  unfold xQ at h
  unfold rt
  cases aJ:D.dst with
  |none=>rw[aJ] at h;exact⟨h,rfl⟩
  |some d=>
   rw[aJ] at h;simp only at h ⊢;cases av:Nat.blt d aP with
   |false=>rw[av] at h;exact h.elim
   |true=>rw[av] at h;exact⟨h,rfl⟩
 rw[dC.2];have h:=dC.1;cases br:D.guard with
 |none=>rw[br] at h;exact(ap _ _ h).push
 |some g=>
  have⟨M,w⟩:=g;rw[br] at h;simp only at h ⊢;cases bb:(an[M]?).bind (·.dst) with
  |none=>rw[bb] at h;exact h.elim
  |some d=>
   rw[bb] at h;simp only at h ⊢;intro U Z L T H b6 bm bi;rcases ZK h bi.sy with⟨B,F⟩|⟨b,fX,B,F,ah⟩
   .have⟨zV,h9,iv,jz,ct,rS,rI,bN,⟨cy,a2⟩,a3⟩:=aar (C:=C) (es:=es) (X:=bf.du) F U Z L T H b6 bm bi;exact⟨zV,h9,iv,jz,ct,rS,rI,bN,⟨cy,λm hm k aU=>by rw[Q8.1 B];exact a2 m hm k aU⟩,a3⟩
   .have N6:v4 bf.du es U Z ⟨⟨fX,aY.S.E,aY.S.A⟩,aY.iM,aY.iV,aY.dk⟩ L T H b6 bm:=⟨bi.ok,F,bi.rq,bi.lV,bi.tb,bi.rd⟩;by_cases e:b=w
    .rw[b3 e] at ah;have⟨zV,h9,iv,jz,ct,rS,rI,bN,⟨cy,a2⟩,a3⟩:=(ap _ _ ah).push U Z L T H b6 bm N6;exact⟨zV,h9,iv,jz,ct,rS,rI,bN,⟨cy,λm hm k aU=>by rw[Q8.2 b B,b3 e];exact a2 m hm k aU⟩,a3⟩
    .rw[bA e] at ah;have⟨zV,h9,iv,jz,ct,rS,rI,bN,⟨cy,a2⟩,a3⟩:=aar (C:=C) (es:=es) (X:=bf.du) (aY:=⟨⟨fX,aY.S.E,aY.S.A⟩,aY.iM,aY.iV,aY.dk⟩) ah U Z L T H b6 bm N6;exact⟨zV,h9,iv,jz,ct,rS,rI,bN,⟨cy,λm hm k aU=>by rw[Q8.2 b B,bA e];exact a2 m hm k aU⟩,a3⟩
def PP{jg}:∀{l}{ae}{aY},Bi (dq C) bf P es aP an jg ae l aY k->ur C bf.du es (sm P es aP an jg ae l).f aY k
 |[],ae,aY,h=>λU Z L T H b6 bm bi=>⟨aY,L,U,Z,H,b6,bm,h,⟨0,λm _ k aU=>rfl⟩,bi,eQ.refl _ _ _ _,λ_ _=>rfl⟩
 |i::l,ae,aY,h=>by
  unfold Bi at h;unfold sm;cases ay:an[i]? with
  |none=>rw[ay] at h;exact h.elim
  |some D=>rw[ay] at h;simp only at h ⊢;exact ur.seq (acH h λaY k az=>ape az) λaY az=>PP az
def ZN{bg}:∀{l}{ae}{aY},Gu (dq C) bf P es aP an bg ae l aY k->ur C bf.du es (wd P es aP an bg ae l).f aY k
 |[],ae,aY,h=>λU Z L T H b6 bm bi=>⟨aY,L,U,Z,H,b6,bm,h,⟨0,λm _ k aU=>rfl⟩,bi,eQ.refl _ _ _ _,λ_ _=>rfl⟩
 |(aQ,w)::l,ae,aY,h=>by
  unfold Gu at h;unfold wd;cases ay:an[w]? with
  |none=>rw[ay] at h;exact h.elim
  |some D=>rw[ay] at h;simp only at h ⊢;exact ur.seq (PP h) λaY az=>ur.seq (acH az λaY k az=>apn az) λaY az=>ZN az
def ahp{L l}(h:eW U Z A L l):cd U Z A (i5 L 0) (Ev.aJ l)/\eW U Z A L.tail (Ev.oa l):=by
 cases L with
 |nil=>simp only[eW] at h;subst h;exact⟨by simp only[i5,cd,cN,bp],rfl⟩
 |cons e L=>obtain⟨v,aM,rfl,g1,g2⟩:=h;exact⟨g1,g2⟩
def VM:∀{ae}{L}{l}{E}{T},eW U Z A L l->gp U Z A es.length E T->∃cO,(∀k,(sL es ae).f l T k=k cO)/\gp U Z A es.length (AY es ae L E) cO/\cO.ae=T.ae
 |[],L,l,E,T,cn,bR=>⟨T,λk=>rfl,bR,rfl⟩
 |d::ae,L,l,E,T,cn,bR=>by
  have⟨B,F⟩:=ahp cn;unfold sL AY;have bB:=λ{E T} bR=>VM (ae:=ae) (E:=E) (T:=T) F bR;generalize sL es ae=q at bB;have⟨r⟩:=q;cases d with
  |none=>exact bB bR
  |some d=>
   simp only;cases aH:i2 d es with
   |none=>exact bB bR
   |some i=>simp only;have aV:=TD aH;rw[wW (show i<64 by have:=bR.1;omega)];have hp:=JN i;generalize xZ i=N at hp;have⟨N⟩:=N;simp only at hp ⊢;have⟨cO,g1,g2,g3⟩:=bB (bR.set aV B);exact⟨cO,λk=>by rw[hp];exact g1 k,g2,by rw[g3,b4.Kq]⟩
def aiv:Tn C P es bf aP:=by
 intro an bg pl E A k hp h U Z H L T aW cn bR;have QJ:L=[]:=cn;subst QJ;unfold Iy at h;unfold Kz;rw[hp];simp only;have⟨Ju,Pg,kt⟩:=pl;cases kt with
 |cons _ _=>exact h.elim
 |nil=>simp only at h ⊢;have aic:v4 bf.du es U Z ⟨⟨[],E,A⟩,[],[],[]⟩ [] T H [] []:=⟨aW,rfl,bR,λq ax=>(by cases ax),λq ax=>(by cases ax),λr ad=>(by cases ad)⟩;have⟨zV,h9,iv,jz,ct,rS,rI,bN,⟨Bs,a2⟩,a3,a4,a5⟩:=ZN h U Z [] T H [] [] aic;have⟨Hn,ia,nO,mx,hM,Ea,Ai,cw,⟨ln,c7⟩,fu,fh,hC⟩:=PP bN iv jz h9 T ct rS rI a3;have⟨cO,dz,gg,mg⟩:=VM (ae:=k3 an (nH an [] Ju) Pg) fu.sy fu.rq;refine⟨⟨[],AY es (k3 an (nH an [] Ju) Pg) Hn.S.L Hn.S.E,Hn.S.A⟩,cO,g9 Ai hM,nO,mx,cw,⟨Bs+ln,λm hm mA aU=>?_⟩,fu.ok,a4.trans fh,gg,mg,λs q=>(hC s q).trans (a5 s q)⟩;generalize wd P es aP an bg [] Ju=NL at a2;generalize sm P es aP an none (nH an [] Ju) Pg=NX at c7;generalize sL es (k3 an (nH an [] Ju) Pg)=Qd at dz;generalize uO es an=abK;have⟨NL⟩:=NL;have⟨NX⟩:=NX;have⟨Qd⟩:=Qd;have⟨abK⟩:=abK;show NL (C m) [] T H [] [] (λL H b6 bm=>NX (C m) L T H b6 bm (λL H _ bm=>CB bm H λH=>Qd L T λT=>mA T H) _) _=_;rw[show NL (C m) [] T H [] [] _ _=_ from a2 m Y _ _];rw[show NX (C m) h9 T ct rS rI _ _=_ from c7 m Y _ _];show CB Ai hM _=_;rw[UR];exact dz _
def VD{f iZ ext ak jI args bZ}(sG:∀m args H k,C (m+1) f args H k=(xR P iZ ext f).f m (C m) args H k)(I:ext f=none)(h:IH (dq C) ak jI P iZ f args A bZ):bj C (ak f).du f args A bZ:=
 aov sG I (λ_ _=>aiv) h
end
end Go.Tx
