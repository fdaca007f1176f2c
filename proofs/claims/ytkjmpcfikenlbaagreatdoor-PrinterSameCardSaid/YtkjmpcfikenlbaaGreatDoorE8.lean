/- A part. -/
import Derived.Test.YtkjmpcfikenlbaaGreatDoorE7
set_option linter.all false
namespace Go.Ev
open Go
section
variable{P:Program}{es:aO}{aT:Nat}{T:ca}{av:gT}
def Qt{H az:bg}(h:az.t=H.t)(a):az.get a=H.get a:=by unfold bg.get;rw[h]
variable{H az:bg}{bb:aO}{a:Nat}{jN jx:jX}{bA:List lF}{p v:bp}{bh fG:List jC}{cc gO:List jF}
theorem abj(h:∀a,az.get a=H.get a)(p:bp)(k:Nat->Nat->cx->Bool):rowOf p az k=rowOf p H k:=by unfold rowOf;congr 1;funext a r s z;rw[pC,pC,h]
def arl(h:∀a,az.get a=H.get a)(t:TypeId)(p:bp)(k:bp->Bool):(js P t).f p az k=(js P t).f p H k:=by
 unfold js;split
 .exact abj h p _
 .exact abj h p _
 .rfl
def o3.congr(h:∀a,az.get a=H.get a){t:TypeId}(l:o3 P H t p v):o3 P az t p v:=λk=>by rw[arl h];exact l k
def aq9{r aR z}{t}(aI:v=.ptr a r aR z)(bI:az.get a=H.get a)(k:bp->Bool):(js P t).f v az k=(js P t).f v H k:=by
 have dv:∀k,rowOf v az k=rowOf v H k:=λk=>by simp_all[rowOf,CM,pC]
 unfold js;split
 .simp_all
 .simp_all
 .rfl
def o3.at{t:TypeId}(l:o3 P H t p v)(h:∀a,(H.get a).live->az.get a=H.get a):o3 P az t p v:=by
 have⟨a,r,s,z,e,Y,_⟩:=l.run;exact λk=>by rw[aq9 e (h a Y)];exact l k
def Ia(H:bg):Prop:=∀x,H.next<=x->(H.get x).live=false
def FM(aC:∀q∈bh,∀eP∈bh,q.id=eP.id->q=eP)(x):(∀q∈bh,q.id=x->(gf bh H).get x=q.obj)/\((∀q∈bh,q.id≠x)->(gf bh H).get x=H.get x):=
 Hz gp bh H (λ_ _=>gp) aC
def yX(done:Nat)(bA:List lF):Prop:=∀j,dG done j=true↔n4 bA j
def yX.add{done}(h:yX done bA)(e):yX (Nat.lor done (Nat.pow 2 e.i)) (e::bA):=by
 intro j;rw[ED,G4,h j];constructor
 .rintro(⟨b7,D,F⟩|D)
  .exact⟨b7,by simp[D],F⟩
  .exact⟨e,by simp,D.symm⟩
 .rintro⟨b7,D,F⟩;rcases hS.1 D with rfl|D
  .exact .inr F.symm
  .exact .inl ⟨b7,D,F⟩
def Uo{b j}(h:sub a b)(bl:dG a j):dG b j:=by
 have h:=dA.1 h;rw[IX]at bl ⊢;have F:(a&&& b).testBit j=true:=by simp_all
 grind
def yp(H:bg)(bh:List jC):Prop:=(∀q∈bh,q.id<H.next)/\∀q∈bh,∀eP∈bh,q.id=eP.id->q=eP
def o3.grown{t:TypeId}{bh fG:List jC}(l:o3 P (gf bh H) t p v)(bI:∀a,az.get a=H.get a)(aY:Ia H)(aC:yp H bh)(ki:yp az fG)(ar:∀q∈bh,q∈fG)(aD:∀q∈fG,q∈bh\/H.next<=q.id):o3 P (gf fG az) t p v:=by
 refine l.at λa Y=>?_;by_cases j4:∃q∈bh,q.id=a
 .have⟨q,D,F⟩:=j4;rw[(FM aC.2 a).1 q D F,(FM ki.2 a).1 q (ar q D) F]
 .have br:=(FM (H:=H) aC.2 a).2 λq D F=>j4 ⟨q,D,F⟩;rw[br]at Y ⊢;rw[(FM ki.2 a).2 λq D F=>?_,bI];rcases aD q D with h|h
  .simp_all
  .rw[F]at h;rw[aY a h]at Y;grind
def D4(P:Program)(l:List jF):Prop:=∀r∈l,∃t,r.vc=js P t
structure qR(P:Program)(bb:aO)(jx jN:jX)(bA:List lF)(H:bg)(cc:List jF)(bh:List jC)(lh:List lF)(az:bg)(gO:List jF)(fG:List jC):Prop where
 xL:∃E,lh=E++bA/\(∀e∈E,e.k≠.writer/\(∀w,jN=some w->dG (mk bb e.i) w=true)/\
  (∀t p,e.k=.load t p->(Ia H->yp H bh->o3 P (gf fG az) t p e.v)/\((⟨e.i,p,js P t,e.v⟩:jF)∈gO\/∀m,jx=some m->dG m e.i=true))/\
  (∀id bN,e.k=.alloc id bN->(⟨e.i,id,bN⟩:jC)∈fG))/\
  ∀q∈fG,q∈bh\/∃e∈E,e.i=q.i/\e.k=.alloc q.id q.obj/\H.next<=q.id
 au:az.t=H.t
 next:H.next<=az.next
 cap:fv H.next->fv az.next
 NS:∀r∈cc,r∈gO
 g2:∀q∈bh,q∈fG
 apart:yp H bh->yp az fG
 ou:D4 P cc->D4 P gO
def qR.refl:qR P bb jx jN bA H cc bh bA H cc bh:=
 ⟨⟨[],rfl,by simp,λ_ h=>.inl h⟩,rfl,fI _,id,λ_ h=>h,λ_ h=>h,id,id⟩
def qR.dead{lh}(g:qR P bb jx jN bA H cc bh lh az gO fG)(aY:Ia H):Ia az:=λx M=>by rw[Qt g.au];exact aY x (nR g.next M)
def qR.trans{bb}{jx jN}{bA aeq QT}{H cM ie}{cc rO GI}{bh rK Ds}(g:qR P bb jx jN bA H cc bh aeq cM rO rK)(lx:qR P bb jx jN aeq cM rO rK QT ie GI Ds):qR P bb jx jN bA H cc bh QT ie GI Ds:=by
 have⟨E,aP,a3,c4⟩:=g.xL;have⟨fe,cW,g5,cl⟩:=lx.xL;refine⟨⟨fe++E,by simp_all,λe aw=>?_,λq h=>?_⟩,lx.au.trans g.au,nR g.next lx.next,λh=>lx.cap (g.cap h),λr h=>lx.NS r (g.NS r h),λq h=>lx.g2 q (g.g2 q h),λh=>lx.apart (g.apart h),λh=>lx.ou (g.ou h)⟩
 .rcases l8.1 aw with aw|aw
  .have⟨bk,bu,b1,cP⟩:=g5 e aw;exact⟨bk,bu,λt p h=>by have⟨cD,dp⟩:=b1 t p h;exact⟨λaY aC=>cD (g.dead aY) (g.apart aC),dp⟩,cP⟩
  .have⟨bk,bu,b1,cP⟩:=a3 e aw;refine⟨bk,bu,λt p h=>?_,λid bN h=>lx.g2 _ (cP id bN h)⟩;have⟨cD,dp⟩:=b1 t p h;refine⟨λaY aC=>(cD aY aC).grown (Qt lx.au) (g.dead aY) (g.apart aC) (lx.apart (g.apart aC)) lx.g2 λq a0=>?_,dp.imp (lx.NS _) (λh=>h)⟩;grind
 .rcases cl q h with h|⟨e,D,F,aq,aL⟩
  .grind
  .exact .inr ⟨e,N0 _ D,F,aq,nR g.next aL⟩
def qR.one{gX e}(cw:∀w,jN=some w->dG (Ev.mk bb e.i) w=true)(abp:gX=false->∀m,jx=some m->dG m e.i=true)(h:fM P e.i gX e H az cc gO bh fG):qR P bb jx jN bA H cc bh (e::bA) az gO fG:=by
 have⟨i,v,aiW⟩:=e;cases aiW with
 |pure=>obtain⟨rfl,rfl,rfl⟩:=h;exact⟨⟨[⟨i,v,.pure⟩],rfl,by simp_all,λ_ h=>.inl h⟩,rfl,fI _,id,λ_ h=>h,λ_ h=>h,id,id⟩
 |writer=>exact h.elim
 |load t p=>
  obtain⟨rfl,rfl,aq,rfl⟩:=h;refine⟨⟨[⟨i,v,.load t p⟩],rfl,λe aw=>?_,λ_ h=>.inl h⟩,rfl,fI _,id,λr ag=>?_,λ_ h=>h,id,λaQ r ag=>?_⟩
  .grind
  .grind
  .cases gX with
   |true=>
    rcases hS.1 ag with h|h
    .grind
    .exact aQ r h
   |false=>exact aQ r ag
 |alloc id bN=>
  obtain⟨rfl,F,rfl,rfl,rfl⟩:=h;refine⟨⟨[⟨i,v,.alloc H.next bN⟩],rfl,λe aw=>?_,λq a0=>?_⟩,rfl,by simp,λ_=>gp,λ_ h=>h,λq a0=>by grind,λaC=>⟨λq a0=>?_,λq a0 eP lD ND=>?_⟩,id⟩
  .simp_all
  .rcases hS.1 a0 with rfl|a0
   all_goals simp_all
  .show q.id<H.next+1;rcases hS.1 a0 with rfl|a0
   .simp
   .have:=aC.1 q a0;omega
  .rcases hS.1 a0 with rfl|a0<;>rcases hS.1 lD with rfl|lD
   .rfl
   .have:=aC.1 eP lD;simp_all
   .have:=aC.1 q a0;simp_all
   .exact aC.2 q a0 eP lD ND
end
section
variable{P:Program}{es:aO}{aT:Nat}{T:ca}{av:gT}{bb:aO}
def Vi(jx:jX)(i:Nat):Bool:=match jx with|some m=> !dG m i|none=>false
def ajR(e)(bA):gF av (e::bA)=((av[e.i]?).bind (·.dst))::gF av bA:=rfl
def VQ{jx call a8 jN}:∀(aH){bA}{H}{cc}{bh}{k}{done ze},(t2 P es aT av jx (gF av bA) aH).f call (ik bA) T H cc bh k a8->u9 P av bb jN done aH=some ze->yX done bA->nm P es aT T av bb bA->∃lh az gO fG,k (ik lh) az gO fG/\nm P es aT T av bb lh/\yX ze lh/\gF av lh=ml av (gF av bA) aH/\qR P bb jx jN bA H cc bh lh az gO fG
 |[],bA,H,cc,bh,k,done,ze,h,Y,aY,bI=>by cases Y;exact⟨bA,H,cc,bh,h,bI,aY,rfl,qR.refl⟩
 |i::aH,bA,H,cc,bh,k,done,ze,h,Y,aY,bI=>by
  unfold u9 at Y;cases aV:av[i]? with
  |none=>simp_all
  |some B=>
   rw[aV]at Y;simp at Y;split at Y
   .rename_i aQ;simp at aQ;obtain⟨⟨⟨en,gI⟩,l3⟩,tz⟩:=aQ;unfold t2 at h;rw[aV]at h;change(Et (sQ es aT av (gF av bA) B (pI P es (gF av bA) i (Vi jx i) B.op)) (t2 P es aT av jx (B.dst::gF av bA) aH)).f call (ik bA) T H cc bh k a8=true at h;generalize abp:Vi jx i=gX at h;have gd:=λk=>apb (P:=P) (es:=es) (aT:=aT) (T:=T) (av:=av) (bA:=bA) (i:=i) (B:=B) (gX:=gX) (call:=call) (H:=H) (cc:=cc) (bh:=bh) (k:=k) (a8:=a8);have a3:ml av (gF av bA) (i::aH)=ml av (B.dst::gF av bA) aH:=by simp_all[ml]
    generalize pi:t2 P es aT av jx (B.dst::gF av bA) aH=r at h;have⟨vv,e,cM,rO,rK,aj,an,aM,bs⟩:=gd _ h;have agH:QM P es aT T av bb bA e:=by refine⟨B,by simp_all,vv,λj bl=>(aY j).1 (Uo gI (by simp_all)),λbo=>?_,an⟩;rw[aj]at bo;rw[(aY i).2 bo]at l3;grind
    have Ft:gF av (e::bA)=B.dst::gF av bA:=by rw[ajR,aj,aV];rfl
    have GG:yX (Nat.lor done (Nat.pow 2 i)) (e::bA):=by rw[<-aj];exact aY.add e
    have F:(t2 P es aT av jx (gF av (e::bA)) aH).f call (ik (e::bA)) T cM rO rK k a8=true:=by rw[Ft,pi];exact aM
    have⟨lh,az,gO,fG,bC,aX,b4,dc,eC⟩:=VQ aH F Y GG ⟨agH,bI⟩;refine⟨lh,az,gO,fG,bC,aX,b4,by simp_all,qR.trans (qR.one (gX:=gX) ?_ ?_ (by simp_all)) eC⟩
    .grind
    grind[Vi]
   grind
end
def Np(m):∀(l)(H)(k),AX m l H k=k (gf (l.filter λq=>dG m q.i) H)
 |[],H,k=>rfl
 |q::l,H,k=>by
  show bd (dG m q.i) (qz H q.id q.obj λH=>AX m l H k) (AX m l H k)=_;cases aB:dG m q.i with
  |true=>rw[s9,Np];simp[aB];rfl|false=>rw[o9,Np,TC];simp_all
def Eo(m):∀l,jH m l=l.filter λq=> !dG m q.i
 |[]=>rfl
 |q::l=>by rw[jH,TC,Eo m l];grind
def Lv(m):∀l,xP m l=l.filter λq=> !dG m q.i
 |[]=>rfl
 |q::l=>by rw[xP,TC,Lv m l];grind
variable{H:bg}{a b:bp}{i j m:Nat}{bA:List lF}{cd:Array Bool}{ae:cX}
def WM(h:pw a b):a=b:=by
 cases a<;>cases b<;>simp only[pw,ig,dA,mz,p7]at h<;>first
  |(exact ci h)
  |(simp_all)
  |simp_all
  |simp_all
  |simp_all
def YW:∀{a b},Bi a b->a=b
 |[],[],_=>rfl|[],_::_,h=>ci h|_::_,[],h=>ci h
 |a::l,b::aK,h=>by
  unfold Bi at h;split at h
  .rename_i D;rw[WM D,YW h]
  simp_all
def aoZ(h:qX a b):a=b:=by
 unfold qX at h;split at h
 .simp at h;rw[h.1,YW h.2]
 .exact WM h
def TQ{P}:∀{l},D4 P l->tw m H l->∀r∈l,dG m r.i=false->∀t,r.vc=js P t->o3 P H t r.p r.v
 |[],_,_,r,ag,_,_,_=>by grind
 |x::l,aQ,h,r,ag,hm,t,e=>by
  unfold tw at h;rcases hS.1 ag with rfl|ag
  .rw[hm,e]at h;have⟨iq,D,F⟩:=VI h;have⟨aq,_⟩:=fi D;rw[<-aoZ aq];grind
  .have wE:D4 P l:=λr h=>aQ r (by grind);rcases iE h with⟨_,h⟩|⟨_,h⟩
   .exact TQ wE h r ag hm t e
   .have⟨a6,aw⟩:=aQ x (by simp);rw[aw]at h;have⟨iq,D,F⟩:=VI h;exact TQ wE (fi D).2 r ag hm t e
section
variable{P:Program}{es:aO}{aT:Nat}{T:ca}{av:gT}{bb:aO}
def W9{x}:∀{l}{oq},O7 av bb i x oq l->∀n y,l[n]?=some y->CW av x y (dG (mk bb i) (oq+n)||dG (mk bb (oq+n)) i)
 |[],oq,_,n,y,h=>by grind
 |z::l,oq,h,n,y,aE=>by
  unfold O7 at h;rw[ig]at h;cases n with
  |zero=>simp_all
  |succ n=>have:=W9 h.2 n y (by simp_all);grind
def VD:∀{l}{eB},ty av bb eB l->∀n m x y,n<m->l[n]?=some x->l[m]?=some y->CW av x y (dG (mk bb (eB+n)) (eB+m)||dG (mk bb (eB+m)) (eB+n))
 |[],eB,_,n,m,x,y,_,h,_=>by grind
 |z::l,eB,h,n,m,x,y,be,M,aE=>by
  unfold ty at h;rw[ig]at h;cases m with
  |zero=>omega
  |succ m=>
   cases n with
   |zero=>simp at M;subst M;have:=W9 h.1 m y (by simp_all);grind
   |succ n=>have:=VD h.2 n m x y I (by simp_all) (by simp_all);grind
def P2(h:ty av bb 0 av){i j}{x y:Oper}(Cg:i≠j)(M:av[i]?=some x)(aE:av[j]?=some y):(∀d,x.dst=some d->y.dst≠some d)/\∀d,x.dst=some d->d∈uU av y->dG (mk bb i) j\/dG (mk bb j) i:=by
 have dv:CW av x y (dG (mk bb i) j||dG (mk bb j) i)=true\/CW av y x (dG (mk bb j) i||dG (mk bb i) j)=true:=by
  rcases Nat.lt_or_gt_of_ne Cg with be|be
  .exact .inl (by have:=VD h i j x y be M aE;simp_all)
  .exact .inr (by have:=VD h j i y x be aE M;simp_all)
 have N:∀(x y:Oper)(b:Bool),CW av x y b=true->(∀d,x.dst=some d->y.dst≠some d)/\(b=true\/(∀d,x.dst=some d->d∉uU av y)/\∀d,y.dst=some d->d∉uU av x):=by
  intro x y b bq;unfold CW at bq;rw[ig,arC,ig]at bq;have⟨D,F⟩:=bq;refine⟨λd aY GG=>?_,F.imp id λF=>⟨λd aY hm=>?_,λd aY hm=>?_⟩⟩
  all_goals simp_all
 grind
def nm.E7:∀{bA},nm P es aT T av bb bA->∀e∈bA,∃E lt,bA=E++e::lt/\QM P es aT T av bb lt e/\nm P es aT T av bb lt
 |[],_,e,aw=>by cases aw
 |x::bA,h,e,aw=>by
  rcases hS.1 aw with rfl|aw
  .exact⟨[],bA,rfl,h.1,h.2⟩
  .have⟨E,lt,D,F⟩:=nm.E7 h.2 e aw;exact⟨x::E,lt,by rw[D];rfl,F⟩
def nm.before{e}(h:nm P es aT T av bb bA)(aw:e∈bA)(bl:dG (mk bb e.i) j):n4 bA j:=by have⟨E,lt,D,⟨B,_,_,F,_⟩,_⟩:=h.E7 e aw;have⟨b7,aj,an⟩:=F j bl;exact⟨b7,by simp_all,an⟩
def nm.Lh:∀{bA},nm P es aT T av bb bA->∀e∈bA,∀b7∈bA,e.i=b7.i->e=b7
 |[],_,e,aw,_,_,_=>by grind
 |x::bA,h,e,aw,b7,Av,aN=>by
  have⟨⟨B,_,_,_,ju,_⟩,F⟩:=h;rcases hS.1 aw with g|g<;>rcases hS.1 Av with lx|lx
  .grind
  .exact absurd ⟨b7,lx,by grind⟩ ju
  .exact absurd ⟨e,g,by grind⟩ ju
  .exact nm.Lh F e g b7 lx aN
def RJ:∀{l}{t},j2 t l=none->some t∉l
 |[],t,_=>by simp
 |none::l,t,h=>by simp only[j2,Option.map_eq_none_iff]at h;simp[RJ h]
 |some a::l,t,h=>by
  simp[j2]at h;split at h
  .cases h
  .rename_i aB;simp at h;have:=tC aB;simp;exact⟨λe=>this e.symm,RJ h⟩
structure DN(aT:Nat)(av:gT)(cd:Array Bool)(a dS:Act)(ae:cX)(bA:List lF):Prop where
 size:a.tmps.size=aT
 defers:a.defers=dS.defers
 val:∀e∈bA,cd.getD e.i false=true->∀B d,av[e.i]?=some B->B.dst=some d->bP ae e.v (a.tmps.getD d undef)
 pk:∀t,(∀j B,av[j]?=some B->cd.getD j false=true->B.dst≠some t)->a.tmps.getD t undef=dS.tmps.getD t undef
def Gz{cd:Array Bool}{i}(h:cd.getD i true=false):cd.getD i false=false:=by
 grind
def Xp{cd:Array Bool}{i}(aN:i<cd.size)(h:cd.getD i false=false):cd.getD i true=false:=by simp_all
def DN.uU{a dS gQ lt B}(h:DN aT av cd a dS ae bA)(bq:ty av bb 0 av)(gU:bb=jG [] av)(aS:Down av.toArray cd)(sG:TR gQ es aT T dS)(hle:gQ.le ae)(be:∀e∈lt,e∈bA)(CP:nm P es aT T av bb lt)(aV:av[i]?=some B)(ju:¬n4 lt i)(aB:∀j,dG (Ev.mk bb i) j->n4 lt j)(ag:∀j,dG (Ev.mk bb i) j->cd.getD j false)(aN:cd.getD i false=false):rI es T av ae B lt a:=by
 subst gU;intro t au;unfold xn ls;cases a0:j2 t (gF av lt)with
 |some k=>
  rw[CF];have ar:=UK a0;unfold gF at ar;rw[yR]at ar;cases ab5:lt[k]? with
  |none=>simp_all
  |some e=>
   rw[ab5]at ar;simp at ar;have uH:e∈lt:=Kg ab5;have cB:(ik lt).getD k .any=e.v:=by simp_all[ik]
   rw[cB];cases vE:av[e.i]? with
   |none=>simp_all
   |some bH=>
    rw[vE]at ar;have aY:bH.dst=some t:=ar;have ed:e.i≠i:=λaw=>ju ⟨e,uH,aw⟩;have Y:cd.getD e.i false=true:=by
     rcases(P2 bq ed vE aV).2 t aY au with g|g
     .exact absurd (CP.before uH g) ju
     simp_all
    exact h.val e (be e uH) Y bH t vE aY
 |none=>
  cases ap:jB t es with
  |none=>exact Cr _
  |some s=>
   simp only;cases kR:Nat.blt s 64 with
   |false=>exact Cr _
   |true=>
    rw[NL,h.pk t λj bH bl Y aY=>?_]
    .exact bP.mono hle _ _ (sG.tmp t s ap (dg.1 kR))
    .have ed:j≠i:=λe=>by simp_all
     rcases(P2 bq ed bl aV).2 t aY au with g|g
     .have:=aS.YE (by simpa using bl) Y g;simp_all
     .have⟨e,aw,oR⟩:=aB j g;refine RJ a0 ?_;unfold gF;grind
def DN.put{cd}{a dS}{ae bG}{bA lh:List lF}(h:DN aT av cd a dS ae bA)(bq:ty av bb 0 av)(hle:ae.le bG){i}{B:Oper}(aV:av[i]?=some B)(iH:i<cd.size)(aN:cd.getD i false=false)(aY:∀d,B.dst=some d->d<aT){V}(D:∀e∈lh,e.i=i->bP bG e.v V)(F:∀e∈lh,e.i≠i->e∈bA):DN aT av (cd.setIfInBounds i true) (a.put B.dst V) dS bG lh:=by
 have nJ:(cd.setIfInBounds i true).getD i false=true:=by simp[iH]
 have oh:∀t,B.dst≠some t->(a.put B.dst V).tmps.getD t undef=a.tmps.getD t undef:=by
  intro t au;cases kG:B.dst with
  |none=>rfl|some d=>simp_all[Bm]
 refine⟨?_,?_,λe aw Y arV d vE S0=>?_,λt au=>?_⟩
 .cases kG:B.dst with
  |none=>exact h.size|some d=>rw[Bm,Array.size_setIfInBounds];exact h.size
 .cases kG:B.dst<;>exact h.defers
 .by_cases oR:e.i=i
  .rw[oR,aV]at vE;cases vE;rw[S0,Bm,NW _ _ _ _ (by rw[h.size];simp_all),ev rfl];simp_all
  .rw[SW false (λb7=>oR b7.symm)]at Y;rw[oh d λb7=>(P2 bq (λb7=>oR b7.symm) aV vE).1 d b7 S0];exact bP.mono hle _ _ (h.val e (F e aw oR) Y arV d vE S0)
 .rw[oh t λb7=>au i B aV nJ b7];exact h.pk t λj bH bl Y=>au j bH bl (AF Y)
end
def lL(cd:Array Bool)(bh:List jC)(H:bg):bg:=gf (bh.filter λq=>cd.getD q.i false) H
def ss(cd)(bh)(H):(lL cd bh H).next=H.next:=nY _ _
def oY{bh x}(aQ:fv H.next)(aC:yp H bh)(M:fv x):(∀q∈bh,cd.getD q.i false->q.id=x->(lL cd bh H).get x=q.obj)/\((∀q∈bh,cd.getD q.i false->q.id≠x)->(lL cd bh H).get x=H.get x):=by
 have⟨D,F⟩:=Hz M (bh.filter λq=>cd.getD q.i false) H (λq h=>gp)
  (λq h eP cz=>aC.2 q (l6.1 h).1 eP (l6.1 cz).1)
 exact⟨λq a0 Y=>D q (l6.2 ⟨a0,Y⟩),λh=>F λq a0=>h q (l6.1 a0).1 (l6.1 a0).2⟩
structure Inv(P:Program)(es:aO)(aT:Nat)(bT:World)(T:ca)(av:gT)(bb:aO)(gQ:cX)(gH:bg)(iK:World)(dS:Act)(rj:Nat->Prop)
 (cd:Array Bool) (a:Act) (w:World) (ae:cX) (bA:List lF) (H:bg) (cc:List jF) (bh:List jC):Prop where
 size:cd.size=av.length
 down:Down av.toArray cd
 log:nm P es aT T av bb bA
 sub:∀j,cd.getD j false=true->n4 bA j
 wr:∀e∈bA,e.k=.writer->cd.getD e.i false=true
 tmps:DN aT av cd a dS ae bA
 m0:hB bT ae (lL cd bh H) w
 iy:Step gQ gH iK ae (lL cd bh H) w
 apart:yp H bh
 mW:∀q∈bh,gH.next<=q.id/\(H.get q.id).live=false/\(∃e∈bA,e.i=q.i/\e.k=.alloc q.id q.obj)/\(cd.getD q.i false=false->ae q.id=none)
 jI:∀e∈bA,∀id bN,e.k=.alloc id bN->cd.getD e.i false=false->(⟨e.i,id,bN⟩:jC)∈bh
 vc:∀e∈bA,∀t p,e.k=.load t p->cd.getD e.i false=false->o3 P (gf bh H) t p e.v/\((⟨e.i,p,js P t,e.v⟩:jF)∈cc\/rj e.i)
 rd:D4 P cc
section
variable{P:Program}{es:aO}{aT:Nat}{bT:World}{T:ca}{av:gT}{bb:aO}{gQ:cX}{gH:bg}{iK:World}{dS:Act}{rj:Nat->Prop}
variable{cd:Array Bool}{a:Act}{w:World}{ae:cX}{bA:List lF}{H:bg}{cc:List jF}{bh:List jC}
def Inv.cap(bv:Inv P es aT bT T av bb gQ gH iK dS rj cd a w ae bA H cc bh):fv H.next:=by simp_all
def A2(h:(cd.setIfInBounds i true).getD j false=false):cd.getD j false=false:=by
 cases a0:cd.getD j false with
 |false=>rfl
 |true=>rw[AF a0]at h;cases h
def Inv.after(bv:Inv P es aT bT T av bb gQ gH iK dS rj cd a w ae bA H cc bh)(bq:ty av bb 0 av){i}{B:Oper}(aV:av[i]?=some B)(ag:i∈Region.ready .any av.toArray cd){e}(aw:e∈bA)(oR:e.i=i)(aY:∀d,B.dst=some d->d<aT){bG}(hle:ae.le bG){V}(gm:bP bG e.v V){bi}(m0:hB bT bG (lL (cd.setIfInBounds i true) bh H) bi)(iy:Step gQ gH iK bG (lL (cd.setIfInBounds i true) bh H) bi)(acj:∀q∈bh,(cd.setIfInBounds i true).getD q.i false=false->bG q.id=none):Inv P es aT bT T av bb gQ gH iK dS rj (cd.setIfInBounds i true) (a.put B.dst V) bi bG bA H cc bh:=by
 have a1:=Gz (uw.1 ag).1;have iH:i<cd.size:=by rw[bv.size];grind
 refine⟨by simp[bv.size],bv.down.add ag,bv.log,λj bl=>?_,λe aw ar=>AF (bv.wr e aw ar),?_,m0,iy,bv.apart,λq a0=>?_,λe aw id bN ar Y=>bv.jI e aw id bN ar (A2 Y),λe aw t p ar Y=>bv.vc e aw t p ar (A2 Y),bv.rd⟩
 .rcases N3 bl with rfl|bl
  .exact⟨e,aw,oR⟩
  .exact bv.sub j bl
 .exact bv.tmps.put bq hle aV iH a1 aY (λb7 Av DV=>by rw[bv.log.Lh b7 Av e aw (DV.trans oR.symm)];grind) λb7 Av _=>Av
 .have⟨D,F,aq,_⟩:=bv.mW q a0;simp_all
def Inv.O0{K b8}(bv:Inv P es aT bT T av bb gQ gH iK dS rj cd a w ae bA H cc bh)(gU:bb=jG [] av)(bq:ty av bb 0 av)(sG:TR gQ es aT T dS)(ag:i∈Region.ready .any av.toArray cd)(aN:n4 bA i)(gP:∀bz bi bG,Inv P es aT bT T av bb gQ gH iK dS rj (cd.setIfInBounds i true) bz bi bG bA H cc bh->K bz bi):wpOp P av.toArray b8 i K a w:=by
 have⟨e,aw,oR⟩:=aN;have a1:=Gz (uw.1 ag).1;have⟨E,lt,asN,⟨B,aV,aY,aB,ju,ws⟩,be⟩:=bv.log.E7 e aw;have qL:rI es T av ae B lt a:=by refine bv.tmps.uU bq gU bv.down sG bv.iy.le (λb7 Av=>by simp_all) be aV ju aB (λj bl=>?_) (by simp_all);subst gU;rw[oR]at bl;exact bv.down.ready ag (by simp_all)
 rw[oR]at aV;have pu:av.toArray[i]?=some B:=by simp_all
 have iH:i<cd.size:=by rw[bv.size];grind
 have same:(∀id bN,e.k≠.alloc id bN)->lL (cd.setIfInBounds i true) bh H=lL cd bh H:=by intro ar;unfold lL;congr 1;refine List.filter_congr λq a0=>?_;have⟨_,_,⟨b7,D,F,aq⟩,_⟩:=bv.mW q a0;refine SW false λahi=>?_;have:b7=e:=bv.log.Lh b7 D e aw (F.trans (ahi.symm.trans oR.symm));simp_all
 have iB:(∀id bN,e.k≠.alloc id bN)->∀V,bP ae e.v V->Inv P es aT bT T av bb gQ gH iK dS rj (cd.setIfInBounds i true) (a.put B.dst V) w ae bA H cc bh:=by intro ar V gm;refine bv.after bq aV ag aw oR aY (cX.le_refl _) gm (by rw[same ar];exact bv.m0) (by rw[same ar];exact bv.iy) λq a0 Y=>(bv.mW q a0).2.2.2 (A2 Y)
 unfold AH at ws;cases ar:e.k with
 |writer=>have:=bv.wr e aw ar;simp_all
 |pure=>rw[ar]at ws;have⟨V,gm,ll⟩:=ws ae a qL;exact ll.wpOp pu (gP _ _ _ (iB (by grind) V gm))
 |load t p=>
  rw[ar]at ws;have⟨cw,MZ,akA,kX⟩:=ws.2 ae a qL;have⟨y9,_⟩:=bv.vc e aw t p ar (by simp_all);have⟨x,r,s,z,ad2,wg,akM⟩:=y9.run;have wj:∃y,ae x=some y:=by grind[bP]
  have⟨y,aE⟩:=wj;have M:=bP.lt bv.m0.rel aE;have oh:(lL cd bh H).get x=(gf bh H).get x:=by
   by_cases j4:∃q∈bh,q.id=x
   .have⟨q,aj,an⟩:=j4;cases a0:cd.getD q.i false with
    |true=>rw[(oY bv.cap bv.apart M).1 q aj a0 an,(FM bv.apart.2 x).1 q aj an]|false=>have:=(bv.mW q aj).2.2.2 a0;simp_all
   .rw[(oY bv.cap bv.apart M).2 λq aj _ an=>j4 ⟨q,aj,an⟩,(FM bv.apart.2 x).2 λq aj an=>j4 ⟨q,aj,an⟩]
  have Y8:=bv.m0.rel.obj x M;rw[oh]at Y8;have⟨V,gm,ahz⟩:=akM ae w MZ akA Y8;unfold wpOp;simp[pu];rw[ev cw];refine .inl ?_;unfold Oper.wp;rw[kX w V ahz];exact gP _ _ _ (iB (by grind) V gm)
 |alloc id bN=>
  rw[ar]at ws;have⟨_,atZ,ws⟩:=ws;have⟨cw,obj,cm,gX,q3,abp,sU,kX⟩:=ws ae a qL;have a0:=bv.jI e aw id bN ar (by simp_all);have⟨bC,aX,_,dc⟩:=bv.mW _ a0;have uy:=dc (by simp_all);have atW:=bv.apart.1 _ a0;have nJ:(cd.setIfInBounds i true).getD i false=true:=by simp[iH]
  have⟨dC,b3,iQ,my⟩:=afW (az:=lL (cd.setIfInBounds i true) bh H) bv.m0 bv.iy bC (by rw[ss];simp_all) uy sU (by rw[ss,ss]) (λx M=>by
   by_cases RU:x=id
   .rw[ev RU];exact(oY bv.cap bv.apart M).1 _ a0 (by simp_all) RU.symm
   .rw[cO RU];by_cases j4:∃q∈bh,cd.getD q.i false=true/\q.id=x
    .have⟨q,D,F,aq⟩:=j4;rw[(oY bv.cap bv.apart M).1 q D F aq,(oY bv.cap bv.apart M).1 q D (AF F) aq]
    .rw[(oY (cd:=cd) bv.cap bv.apart M).2 λq D F aq=>j4 ⟨q,D,F,aq⟩,(oY bv.cap bv.apart M).2 λq D F aq=>?_];rcases N3 F with F|F
     .have⟨_,_,⟨b7,aj,an,aM⟩,_⟩:=bv.mW q D;have:b7=e:=bv.log.Lh b7 aj e aw (an.trans (F.trans oR.symm));simp_all
     simp_all)
  unfold wpOp;simp[pu];rw[ev cw];refine .inl ?_;unfold Oper.wp;rw[kX w];refine gP _ _ _ (bv.after bq aV ag aw oR aY my (by simp_all) dC b3 λq lD Y=>?_);rw[cX.rr]
  .exact(bv.mW q lD).2.2.2 (A2 Y)
  .intro b7;have:=bv.apart.2 q lD _ a0 b7;simp_all
end
def Rel.grow{ae}{H cM}{w}(R:Rel ae H w)(aD:H.next<=cM.next)(aQ:fv cM.next)(bI:∀x,fv x->cM.get x=H.get x):Rel ae cM w:=
 ⟨aQ,λa x h=>pD (R.p0 a x h) aD,λa aC=>by rw[bI a aC];exact R.obj a aC,λa bz D F cH cq=>R.inj a bz D F (by simp_all) (by simp_all)⟩
def lk.grow{ae}{H cM}(bI:∀x,fv x->cM.get x=H.get x){b}(h:lk ae cM b):lk ae H b:=by have⟨a,aC,Y,cm,ag⟩:=h;exact⟨a,aC,by simp_all,cm,ag⟩
def hB.grow{bT}{ae}{H cM}{w}(R:hB bT ae H w)(aD:H.next<=cM.next)(aQ:fv cM.next)(bI:∀x,fv x->cM.get x=H.get x):hB bT ae cM w:=
 ⟨R.rel.grow aD aQ bI,⟨R.kv.size,R.kv.same,λb h=>R.kv.zH b (h.grow bI),R.kv.tape,R.kv.os,R.kv.output⟩⟩
def Step.grow{gQ ae}{gH H cM}{bT w}(S:Step gQ gH bT ae H w)(t7:fv gH.next)(aD:H.next<=cM.next)(bI:∀x,fv x->cM.get x=H.get x):Step gQ gH bT ae cM w:=
 ⟨S.le,S.iB,nR S.next aD,S.size,S.frame,λb h=>S.own b (h.grow bI),λx M aY=>by rw[bI x I];exact S.dead x M aY,S.tape,S.os,S.output⟩
def hB.weaken{bT w cM}(R:hB bT ae H w)(aD:cM.next=H.next)(bI:∀x,fv x->cM.get x=H.get x\/(cM.get x).live=false):hB bT ae cM w:=
 ⟨R.rel.weaken aD bI,R.kv.weaken bI⟩
section
variable{P:Program}{es:aO}{aT:Nat}{bT:World}{T:ca}{av:gT}{bb:aO}{gQ:cX}{gH:bg}{iK:World}{dS:Act}{rj:Nat->Prop}
variable{cd:Array Bool}{a:Act}{w:World}{ae:cX}{bA:List lF}{H:bg}{cc:List jF}{bh:List jC}
def nm.apart:∀{E}{bA},nm P es aT T av bb (E++bA)->∀e∈E,¬n4 bA e.i
 |[],_,_,e,aw=>by grind
 |x::E,bA,h,e,aw=>by
  rcases hS.1 aw with rfl|aw
  .have⟨⟨B,_,_,_,ju,_⟩,_⟩:=h;rintro⟨b7,D,F⟩;exact ju ⟨b7,by simp[D],F⟩
  .exact nm.apart h.2 e aw
def Inv.grow(bv:Inv P es aT bT T av bb gQ gH iK dS (λ_=>False) cd a w ae bA H cc bh){jx jN}{lh}{az}{gO}{fG}(Gv:fv gH.next)(g:qR P bb jx jN bA H cc bh lh az gO fG)(CP:nm P es aT T av bb lh):Inv P es aT bT T av bb gQ gH iK dS (λi=>∀m,jx=some m->dG m i) cd a w ae lh az gO fG:=by
 have⟨E,bY,am0,sU⟩:=g.xL;have BU:=g.cap bv.cap;have Aj:=g.apart bv.apart;have oh:∀x,az.get x=H.get x:=Qt g.au;have auU:∀e∈E,cd.getD e.i false=false:=by
  intro e aw;cases a0:cd.getD e.i false with
  |false=>rfl|true=>subst bY;exact absurd (bv.sub _ a0) (CP.apart e aw)
 have aep:Ia H:=λx M=>by
  cases Bp:(H.get x).live with
  |false=>rfl
  |true=>
   have kW:fv x:=gp;have:=bv.m0.rel.aaP kW (by
    rw[(oY bv.cap bv.apart kW).2 λeP aj an aM=>?_]
    .grind
    .have:=bv.apart.1 eP aj;omega)
   rw[ss]at this;omega
 have adu:∀x,fv x->(lL cd fG az).get x=(lL cd bh H).get x:=by
  intro x M;by_cases j4:∃q∈bh,cd.getD q.i false=true/\q.id=x
  .have⟨q,D,F,aq⟩:=j4;rw[(oY bv.cap bv.apart M).1 q D F aq,(oY BU Aj M).1 q (g.g2 q D) F aq]
  .rw[(oY (cd:=cd) bv.cap bv.apart M).2 λq D F aq=>j4 ⟨q,D,F,aq⟩,(oY BU Aj M).2 λq D F aq=>?_,oh];grind
 have nv:hB bT ae (lL cd fG az) w:=bv.m0.grow (by rw[ss,ss];exact g.next) (by simp_all) adu;refine⟨bv.size,bv.down,CP,λj bl=>?_,λe aw ar=>?_,⟨bv.tmps.size,bv.tmps.defers,λe aw Y=>?_,bv.tmps.pk⟩,nv,bv.iy.grow Gv (by rw[ss,ss];exact g.next) adu,Aj,λq a0=>?_,λe aw id bN ar Y=>?_,λe aw t p ar Y=>?_,g.ou bv.rd⟩
 .have⟨e,D,F⟩:=bv.sub j bl;exact⟨e,by simp_all,F⟩
 .rw[bY]at aw;rcases l8.1 aw with aw|aw
  .simp_all
  .exact bv.wr e aw ar
 .rw[bY]at aw;rcases l8.1 aw with aw|aw
  .simp_all
  .exact bv.tmps.val e aw Y
 .rcases sU q a0 with h|⟨e,D,F,aq,aL⟩
  .have⟨bC,aX,⟨e,b4,dc⟩,eC⟩:=bv.mW q h;grind
  .have pG:=bv.iy.next;rw[ss]at pG;refine⟨nR pG aL,?_,⟨e,by simp_all,F,aq⟩,λ_=>?_⟩
   .rw[oh];cases Bp:(H.get q.id).live with
    |false=>rfl
    |true=>
     have lD:fv q.id:=I;have:=bv.m0.rel.aaP lD (by
      rw[(oY bv.cap bv.apart lD).2 λeP aj an aM=>?_]
      .grind
      .have:=bv.apart.1 eP aj;omega)
     rw[ss]at this;omega
   .cases wj:ae q.id with
    |none=>rfl|some y=>have:=bv.m0.rel.p0 _ _ wj;rw[ss]at this;omega
 .rw[bY]at aw;rcases l8.1 aw with aw|aw
  .simp_all
  .exact g.g2 _ (bv.jI e aw id bN ar Y)
 .rw[bY]at aw;rcases l8.1 aw with aw|aw
  .have⟨D,F⟩:=(am0 e aw).2.2.1 t p ar;exact⟨D aep bv.apart,F⟩
  .have⟨D,F⟩:=bv.vc e aw t p ar Y;exact⟨D.grown oh aep bv.apart Aj g.g2 λq a0=>(sU q a0).imp id λ⟨_,_,_,_,h⟩=>h,.inl (g.NS _ (F.resolve_right id))⟩
def Inv.wrote(bv:Inv P es aT bT T av bb gQ gH iK dS rj cd a w ae bA H cc bh)(bq:ty av bb 0 av){i}{B:Oper}(aV:av[i]?=some B)(ag:i∈Region.ready .any av.toArray cd)(ju:¬n4 bA i)(aY:∀d,B.dst=some d->d<aT)(aB:∀j,dG (Ev.mk bb i) j->n4 bA j){bG}(hle:ae.le bG){v}{V}(gm:bP bG v V){bi}{az}{gO}{fG}(m0:hB bT bG (lL (cd.setIfInBounds i true) fG az) bi)(iy:Step gQ gH iK bG (lL (cd.setIfInBounds i true) fG az) bi)(Gd:yp az fG)(acj:∀q∈fG,q∈bh/\(az.get q.id).live=false/\(cd.getD q.i false=false->bG q.id=none))(z1:∀q∈bh,cd.getD q.i false=false->q∈fG)(y9:∀e∈bA,∀t p,e.k=.load t p->cd.getD e.i false=false->o3 P (gf fG az) t p e.v/\(⟨e.i,p,js P t,e.v⟩:jF)∈gO)(aiM:D4 P gO):Inv P es aT bT T av bb gQ gH iK dS (λ_=>False) (cd.setIfInBounds i true) (a.put B.dst V) bi bG (⟨i,v,.writer⟩::bA) az gO fG:=by
 have a1:=Gz (uw.1 ag).1;have iH:i<cd.size:=by rw[bv.size];grind
 have nJ:(cd.setIfInBounds i true).getD i false=true:=by simp[iH]
 refine⟨by simp[bv.size],bv.down.add ag,⟨⟨B,aV,aY,aB,ju,trivial⟩,bv.log⟩,λj bl=>?_,λe aw ar=>?_,?_,m0,iy,Gd,λq a0=>?_,λe aw id bN ar Y=>?_,λe aw t p ar Y=>?_,aiM⟩
 .rcases N3 bl with rfl|bl
  .exact⟨_,ua,rfl⟩
  .have⟨e,D,F⟩:=bv.sub j bl;exact⟨e,by grind,F⟩
 .rcases hS.1 aw with rfl|aw
  .grind
  .exact AF (bv.wr e aw ar)
 .refine bv.tmps.put bq hle aV iH a1 aY (λe aw oR=>?_) λe aw oR=>?_
  .rcases hS.1 aw with rfl|aw
   .grind
   .exact absurd ⟨e,aw,oR⟩ ju
  grind
 .have⟨D,F,aq⟩:=acj q a0;have⟨aj,_,⟨e,aM,bs⟩,_⟩:=bv.mW q D;exact⟨aj,F,⟨e,by grind,bs⟩,λY=>aq (A2 Y)⟩
 .rcases hS.1 aw with rfl|aw
  .grind
  .exact z1 _ (bv.jI e aw id bN ar (A2 Y)) (A2 Y)
 .rcases hS.1 aw with rfl|aw
  .grind
  .have⟨D,F⟩:=y9 e aw t p ar (A2 Y);simp_all
def aj6{ah op call L k a8}(h:(zP P es ah m op).f call L T H cc bh k a8):∃df,(im P es ah op).f call L T (gf (bh.filter λq=>dG m q.i) H) df a8/\∀v az,df v az->tw m (gf (jH m bh) az) cc/\k (v::L) az (xP m cc) (jH m bh):=by
 unfold zP at h;generalize im P es ah op=c at h;have⟨f⟩:=c;cases bh with
 |nil=>
  refine⟨_,h,λv az ar=>?_⟩;cases cc with
  |nil=>exact⟨rfl,ar⟩|cons r l=>exact fi ar
 |cons q l=>have h:AX m (q::l) H (λH=>f call L T H (λv H=>xr (jH m (q::l)) H λCv=>bd (tw m Cv cc) (k (v::L) H (xP m cc) (jH m (q::l))) false) a8)=true:=h;rw[Np]at h;exact⟨_,h,λv az ar=>by rw[y1]at ar;exact fi ar⟩
def aj9{i:Nat}{B}{y}{call}{k}{a8}(h:(sQ es aT av (gF av bA) B y).f call (ik bA) T H cc bh k a8):(∀d,B.dst=some d->d<aT)/\(((∀ae a,rI es T av ae B bA a->Region.wanted B (yielded av.toArray a.tmps))/\y.f call (ik bA) T H cc bh k a8)\/((∀ae a,rI es T av ae B bA a->Region.wanted B (yielded av.toArray a.tmps)=false)/\k (.undef::ik bA) H cc bh)):=by
 have aY:∀d,B.dst=some d->Nat.blt d aT=true:=by
  intro d kG;cases a0:Nat.blt d aT with
  |true=>rfl|false=>unfold sQ at h;simp only[kG,a0]at h;exact ci h
 have h:(match B.guard with
  |none=>y
  |some (j,w)=>match(av[j]?).bind (·.dst)with
   |some d=>D3 (ls es (gF av bA) d) w y
   |none=>zY).f call (ik bA) T H cc bh k a8=true:=by
  unfold sQ at h
  cases vv:B.dst with
  |none=>simp only[vv]at h;exact h|some d=>simp only[vv,aY d vv]at h;exact h
 refine⟨λd kG=>dg.1 (aY d kG),?_⟩;cases bI:B.guard with
 |none=>rw[bI]at h;exact .inl ⟨λae a _=>by unfold Region.wanted;rw[bI],h⟩
 |some H5=>
  have⟨j,lB⟩:=H5;rw[bI]at h;simp only at h;cases kG:(av[j]?).bind (·.dst)with
  |none=>rw[kG]at h;exact ci h
  |some d=>
   rw[kG]at h;simp only at h;have G6:(av.toArray[j]?).bind (·.dst)=some d:=by simpa using kG
   have ef:∀b,(ls es (gF av bA) d).g (ik bA) T=.bool b->∀ae a,rI es T av ae B bA a->Region.wanted B (yielded av.toArray a.tmps)=(b==lB):=λb aB ae a Y=>(J1 bI G6 (Y.guard bI kG)).1 b aB;have fO:(ls es (gF av bA) d).g (ik bA) T=.undef->∀ae a,rI es T av ae B bA a->Region.wanted B (yielded av.toArray a.tmps)=false:=λaB ae a Y=>(J1 bI G6 (Y.guard bI kG)).2 aB;generalize ls es (gF av bA) d=g at h ef fO;have⟨g⟩:=g;have⟨y⟩:=y;cases lB with
   |true=>
    rcases FN h with⟨b,e,aq⟩|⟨e,aq⟩
    .rcases iE aq with⟨aB,aL⟩|⟨aB,aL⟩
     .exact .inl ⟨λae a Y=>by rw[ef b e ae a Y,aB];rfl,aL⟩
     .exact .inr ⟨λae a Y=>by rw[ef b e ae a Y,aB];rfl,aL⟩
    .exact .inr ⟨fO e,aq⟩
   |false=>
    rcases FN h with⟨b,e,aq⟩|⟨e,aq⟩
    .rcases iE aq with⟨aB,aL⟩|⟨aB,aL⟩
     .exact .inr ⟨λae a Y=>by rw[ef b e ae a Y,aB];rfl,aL⟩
     .exact .inl ⟨λae a Y=>by rw[ef b e ae a Y,aB];rfl,aL⟩
    .exact .inr ⟨fO e,aq⟩
end
section
variable{P:Program}{es:aO}{aT:Nat}{bT:World}{T:ca}{av:gT}{bb:aO}{gQ:cX}{gH:bg}{iK:World}{dS:Act}{rj:Nat->Prop}
variable{cd:Array Bool}{a:Act}{w:World}{ae:cX}{bA:List lF}{H:bg}{cc:List jF}{bh:List jC}
def Px(aT:Nat)(av:gT)(dS a:Act):Prop:=a.tmps.size=aT/\a.defers=dS.defers/\∀t,(∀B∈av,B.dst≠some t)->a.tmps.getD t undef=dS.tmps.getD t undef
def Inv.amP(bv:Inv P es aT bT T av bb gQ gH iK dS rj cd a w ae bA H cc bh):Px aT av dS a:=
 ⟨bv.tmps.size,bv.tmps.defers,λt au=>bv.tmps.pk t λj B bl _=>au B (Kg bl)⟩
def Inv.writer(bv:Inv P es aT bT T av bb gQ gH iK dS rj cd a w ae bA H cc bh)(gU:bb=jG [] av)(bq:ty av bb 0 av)(sG:TR gQ es aT T dS)(Gv:fv gH.next){i}{B}(aV:av[i]?=some B)(ag:i∈Region.ready .any av.toArray cd)(ju:¬n4 bA i)(aB:∀j,dG (Ev.mk bb i) j->n4 bA j)(asW:∀j,rj j->dG (Ev.mk bb i) j){call}(gM:pZ P bT call)(aD:oL P){k}{a8}(h:(sQ es aT av (gF av bA) B (zP P es (gF av bA) (Ev.mk bb i) B.op)).f call (ik bA) T H cc bh k a8){K}{b8}(gP:∀bz bi bG v az gO fG,Inv P es aT bT T av bb gQ gH iK dS (λ_=>False) (cd.setIfInBounds i true) bz bi bG (⟨i,v,.writer⟩::bA) az gO fG->k (v::ik bA) az gO fG->K bz bi)(I8:∀bz bG az v V bi,Px aT av dS bz->hB bT bG az bi->Step gQ gH iK bG az bi->bP bG v V->a8 v az->b8 (.panic [{v:=V,recovered:=false}]) bz bi):wpOp P av.toArray b8 i K a w:=by
 have a1:=Gz (uw.1 ag).1;have pu:av.toArray[i]?=some B:=by simp_all
 have abH:∀j,dG (Ev.mk bb i) j=true->cd.getD j false=true:=λj bl=>by subst gU;exact bv.down.ready ag (by simp_all)
 have qL:rI es T av ae B bA a:=bv.tmps.uU bq gU bv.down sG bv.iy.le (λe aw=>aw) bv.log aV ju aB abH a1;have ed:∀q∈bh,q.i≠i:=λq a0 e=>by have⟨_,_,⟨b7,aj,an,_⟩,_⟩:=bv.mW q a0;exact ju ⟨b7,aj,an.trans e⟩
 have nJ:∀q∈bh,(cd.setIfInBounds i true).getD q.i false=cd.getD q.i false:=λq a0=>SW false λe=>ed q a0 e.symm;have Wn:∀e∈bA,∀t p,e.k=.load t p->cd.getD e.i false=false->o3 P (gf bh H) t p e.v/\(⟨e.i,p,js P t,e.v⟩:jF)∈cc:=λe aw t p ar Y=>by have⟨D,F⟩:=bv.vc e aw t p ar Y;grind
 obtain⟨aY,h|h⟩:=aj9 (i:=i) h
 .have⟨cw,h⟩:=h;have⟨df,D,F⟩:=aj6 h;have cw:=cw ae a qL;have af0:∀q∈bh.filter (λq=>dG (Ev.mk bb i) q.i),∀eP∈bh.filter (λq=>dG (Ev.mk bb i) q.i),q.id=eP.id->q=eP:=λq h eP cz=>bv.apart.2 q (l6.1 h).1 eP (l6.1 cz).1;have aif:∀q∈bh.filter (λq=>dG (Ev.mk bb i) q.i),fv q.id:=λq h=>gp;generalize ahT:gf (bh.filter λq=>dG (Ev.mk bb i) q.i) H=cM at D;have rD:cM.next=H.next:=by rw[<-ahT];exact nY _ _
  have Lw:∀x,fv x->(∀q∈bh,dG (Ev.mk bb i) q.i=true->q.id=x->cM.get x=q.obj)/\((∀q∈bh,dG (Ev.mk bb i) q.i=true->q.id≠x)->cM.get x=H.get x):=λx M=>by have⟨aj,an⟩:=Hz M _ H aif af0;grind
  let X:Nat->Prop:=λx=>∃q∈bh,q.id=x/\cd.getD q.i false=true/\dG (Ev.mk bb i) q.i=false
  have cR:∀x,X x->x<(lL cd bh H).next/\gH.next<=x/\(cM.get x).live=false/\((lL cd bh H).get x).live=true:=by
   rintro x ⟨q,a0,rfl,Y,au⟩;have⟨ic,hF,⟨e,oa,uR,H0⟩,_⟩:=bv.mW q a0;have M:fv q.id:=gp;refine⟨by rw[ss];exact bv.apart.1 q a0,ic,?_,?_⟩
   .rw[(Lw _ M).2 λeP cz iL b7=>by rw[bv.apart.2 eP cz q a0 b7,au]at iL;grind];grind
   .rw[(oY bv.cap bv.apart M).1 q a0 Y rfl];have⟨E,lt,_,⟨bH,_,_,_,_,ws⟩,_⟩:=bv.log.E7 e oa;simp_all[AH]
  have acx:∀x,fv x->¬X x->cM.get x=(lL cd bh H).get x\/(cM.get x).live=false:=by
   intro x M t7;by_cases j4:∃q∈bh,cd.getD q.i false=true/\q.id=x
   .have⟨q,aj,an,aM⟩:=j4;have au:dG (Ev.mk bb i) q.i=true:=by
     grind
    exact .inl (by rw[(Lw x M).1 q aj au aM,(oY bv.cap bv.apart M).1 q aj an aM])
   .exact .inl (by rw[(Lw x M).2 λq aj an aM=>j4 ⟨q,aj,abH _ an,aM⟩,(oY bv.cap bv.apart M).2 λq aj an aM=>j4 ⟨q,aj,an,aM⟩])
  have A4:∀x,fv x->cM.get x=(lL cd bh H).get x\/(cM.get x).live=false:=λx M=>by
   grind
  have BW:cM.next=(lL cd bh H).next:=by rw[rD,ss]
  have Kl:hB bT ae cM w:=bv.m0.weaken BW A4;have ow:Step gQ gH iK ae cM w:=bv.iy.weaken Gv BW A4;have zI:=adk (es:=es) (ah:=gF av bA) (L:=ik bA) (T:=T) (B:=B) (a:=a) Kl gM aD D (λx M=>qL.wG x M);unfold wpOp;simp[pu];rw[ev cw];refine .inl (zI K b8 (λbG az v V bi bC aX b4 dc=>?_) λbG az v V bi bC aX b4 dc=>I8 a bG az v V bi bv.amP bC (ow.trans aX) b4 dc);have⟨bO,cr⟩:=F v az dc;have Aj:yp az (jH (Ev.mk bb i) bh):=by
   have:=aX.next;refine⟨λq a0=>?_,λq a0 eP lD=>?_⟩
   .rw[Eo]at a0;have:=bv.apart.1 q (l6.1 a0).1;omega
   .rw[Eo]at a0 lD;exact bv.apart.2 q (l6.1 a0).1 eP (l6.1 lD).1
  have So:∀q,q∈jH (Ev.mk bb i) bh↔q∈bh/\dG (Ev.mk bb i) q.i=false:=λq=>by rw[Eo];simp
  have⟨dC,b3⟩:=anv (Ed:=lL (cd.setIfInBounds i true) (jH (Ev.mk bb i) bh) az) bv.m0 bv.iy bC aX BW X cR acx (ss _ _ _) (λx M=>by
   by_cases a0:X x
   .rw[ev a0];have⟨q,aj,an,aM,bs⟩:=a0;rw[(oY bC.rel.next Aj M).1 q ((So q).2 ⟨aj,bs⟩) (by simp_all) an,(oY bv.cap bv.apart M).1 q aj aM an]
   .rw[cO a0,(oY bC.rel.next Aj M).2 λq aj an aM=>?_];grind)
  refine gP _ _ _ v _ _ _ (bv.wrote bq aV ag ju aY aB aX.le b4 dC b3 Aj (λq a0=>?_) (λq a0 Y=>(So q).2 ⟨a0,?_⟩) (λe aw t p ar Y=>?_) λr f7=>?_) cr
  .have⟨aj,bs⟩:=(So q).1 a0;have⟨ic,hF,oa,uR⟩:=bv.mW q aj;have be:=bv.apart.1 q aj;have M:fv q.id:=gp;refine⟨aj,aX.dead _ (by grind) ?_,λY=>?_⟩
   .rw[(Lw _ M).2 λeP cz iL b7=>by rw[bv.apart.2 eP cz q aj b7,bs]at iL;grind];grind
   .rw[aX.iB _ (by grind)];grind
  .grind
  .have⟨aj,an⟩:=Wn e aw t p ar Y;have hm:dG (Ev.mk bb i) e.i=false:=by
    grind
   refine⟨TQ bv.rd bO _ an hm t rfl,?_⟩;rw[Lv,l6];grind
  .rw[Lv,l6]at f7;exact bv.rd r f7.1
 .have⟨cw,h⟩:=h;have cw:=cw ae a qL;have ac0:lL (cd.setIfInBounds i true) bh H=lL cd bh H:=by simp_all[lL,List.filter_congr]
  unfold wpOp;simp[pu];rw[cO (by simp_all)];exact gP _ _ ae .undef H cc bh (bv.wrote bq aV ag ju aY aB (cX.le_refl _) Fh (by rw[ac0];exact bv.m0) (by rw[ac0];exact bv.iy) bv.apart (λq a0=>⟨a0,(bv.mW q a0).2.1,(bv.mW q a0).2.2.2⟩) (λq a0 _=>a0) Wn bv.rd) h
end
end Go.Ev
