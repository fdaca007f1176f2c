/- A part. -/
import Derived.Test.YtkjmpcfikenlbaaGreatDoorE8
set_option linter.all false
namespace Go.Ev
open Go
def aaF(x y)(call)(L)(T)(H)(cc)(bh)(k)(a8):(Et x y).f call L T H cc bh k a8=x.f call L T H cc bh (λL H cc bh=>y.f call L T H cc bh k a8) a8:=by rfl
section
variable{P:Program}{es:aO}{aT:Nat}{T:ca}{av:gT}{bb:aO}
variable{l:List (Prod aO Nat)}{jN:jX}{cd:Array Bool}
def Q1:∀{aH}{done ze},u9 P av bb jN done aH=some ze->∀j,dG ze j->¬dG done j->∀v,jN=some v->dG (mk bb j) v
 |[],done,ze,h,j,bl,aD,v,aI=>by simp_all[u9]
 |i::aH,done,ze,h,j,bl,aD,v,aI=>by
  unfold u9 at h;split at h
  .split at h
   .rename_i aQ;simp at aQ;by_cases ZW:j=i
    .simp_all
    .refine Q1 h j bl (λbo=>?_) v aI;rcases ED.1 bo with bo|bo
     .simp_all
     .exact ZW (G4.1 bo)
   grind
  grind
def YT(gU:bb=jG [] av)(aS:Down av.toArray cd):∀{l}{jN mo}{done ly},x1 P av bb jN done l=some (mo,ly)->∀v,jN=some v->(∃u,mo=some u/\(cd.getD u false->cd.getD v false))/\∀j,dG ly j->¬dG done j->(∀ql,dG (mk bb j) ql->cd.getD ql false)->cd.getD v false
 |[],jN,mo,done,ly,h,v,aI=>by grind[x1]
 |(aH,w)::l,jN,mo,done,ly,h,v,aI=>by
  unfold x1 at h;split at h
  .rename_i d1 D;split at h
   .rename_i B aV;split at h
    .rename_i aQ;simp at aQ;have aur:dG (mk bb w) v=true:=by simp_all
     have X5:cd.getD w false=true->cd.getD v false=true:=λY=>by subst gU;exact aS.YE (by simpa using aV) Y (by simp_all)
     have⟨⟨u,F,aq⟩,aL⟩:=YT gU aS h w rfl;refine⟨⟨u,F,λhu=>X5 (aq hu)⟩,λj bl aD Y=>?_⟩;by_cases qd:dG d1 j=true
     .exact Y _ (Q1 D j qd aD v aI)
     .by_cases akX:j=w
      .simp_all
      .refine X5 (aL j bl (λbo=>?_) Y);rcases ED.1 bo with bo|bo
       .simp_all
       .exact akX (G4.1 bo)
    grind
   grind
  grind
structure Oc(P:Program)(av:gT)(bb:aO)(kU:aO)(ly:Nat):Prop where
 all:∀j,j<av.length->dG ly j=true
def MA(bb:aO):List (aO×Nat)->jX
 |[]=>none|(_,w)::_=>some (mk bb w)
noncomputable def Jr(P:Program)(es:aO)(aT:Nat)(T:ca)(av:gT)(bb:aO)(last:aO)(call:cE)(jT:pg)(a8:bp->bg->Bool)(ah:dM)(l:List (aO×Nat)):pg:=
 λL H cc bh=>(t2 P es aT av none (ol av ah l) last).f call L T H cc bh jT a8
def Og(P:Program)(es:aO)(aT:Nat)(T:ca)(av:gT)(bb:aO)(last kU:aO)(call:cE)(jT:pg)(a8:bp->bg->Bool)(pf:dM)(l:List (aO×Nat))(jN:jX)(bA:List lF)(H:bg)(cc:List jF)(bh:List jC):Prop:=
 ∃done,yX done bA/\ml av (ol av (gF av bA) l) last=pf/\(∃mo ly qN,x1 P av bb jN done l=some (mo,ly)/\u9 P av bb mo ly last=some qN/\Oc P av bb kU qN)/\
  (yb P es aT av bb (gF av bA) l).f call (ik bA) T H cc bh (Jr P es aT T av bb last call jT a8 (gF av bA) l) a8=true
def EM(P:Program)(es:aO)(aT:Nat)(T:ca)(av:gT)(bb:aO)(last kU:aO)(call:cE)(jT:pg)(a8:bp->bg->Bool)(pf:dM):List (aO×Nat)->List lF->bg->List jF->List jC->Prop
 |[],bA,H,cc,bh=>gF av bA=pf/\(∃ly,yX ly bA/\Oc P av bb kU ly)/\jT (ik bA) H cc bh=true
 |(_,w)::l,bA,H,cc,bh=>∃done B,yX done bA/\av[w]?=some B/\HQ P B.op=false/\sub (mk bb w) done=true/\dG done w=false/\ml av (ol av (B.dst::gF av bA) l) last=pf/\
  (∃mo ly qN,x1 P av bb (some w) (Nat.lor done (Nat.pow 2 w)) l=some (mo,ly)/\u9 P av bb mo ly last=some qN/\Oc P av bb kU qN)/\
  (sQ es aT av (gF av bA) B (zP P es (gF av bA) (mk bb w) B.op)).f call (ik bA) T H cc bh
   (λL H cc bh=>(yb P es aT av bb (B.dst::gF av bA) l).f call L T H cc bh (Jr P es aT T av bb last call jT a8 (B.dst::gF av bA) l) a8) a8=true
variable{last kU:aO}{call:cE}{jT:pg}{a8:bp->bg->Bool}{pf:dM}{bA:List lF}{H:bg}{cc:List jF}{bh:List jC}
def Og.advance(h:Og P es aT T av bb last kU call jT a8 pf l jN bA H cc bh)(CP:nm P es aT T av bb bA):∃lh az gO fG,EM P es aT T av bb last kU call jT a8 pf l lh az gO fG/\nm P es aT T av bb lh/\qR P bb (MA bb l) jN bA H cc bh lh az gO fG:=by
 have⟨done,D,F,⟨mo,ly,qN,aq,aL,bO⟩,cr⟩:=h
 match l,F,aq,cr with
 |[],F,aq,cr=>obtain⟨rfl,rfl⟩:=aq;have⟨lh,az,gO,fG,bC,aX,b4,dc,eC⟩:=VQ last cr aL D CP;exact⟨lh,az,gO,fG,⟨dc.trans F,⟨qN,b4,bO⟩,bC⟩,aX,eC⟩
 |(aH,w)::l,F,aq,cr=>
  unfold x1 at aq;split at aq
  .rename_i d1 aj;split at aq
   .rename_i B aV;split at aq
    .rename_i aQ;simp only[ig]at aQ;obtain⟨⟨⟨en,gI⟩,l3⟩,tz⟩:=aQ;unfold yb at cr;rw[aV]at cr;simp only at cr;rw[aaF]at cr;have⟨lh,az,gO,fG,bC,aX,b4,dc,eC⟩:=VQ aH cr aj D CP;have a3:ol av (gF av bA) ((aH,w)::l)=ol av (B.dst::gF av lh) l:=by simp_all[ol]
     refine⟨lh,az,gO,fG,⟨d1,B,b4,aV,by simp_all,gI,by simp_all,by simp_all,⟨mo,ly,qN,aq,aL,bO⟩,?_⟩,aX,eC⟩;rw[aaF]at bC;rw[<-dc]at bC;unfold Jr at bC ⊢;simp_all
    grind
   grind
  grind
def EM.ready{aH qO i}(h:EM P es aT T av bb last kU call jT a8 pf ((aH,qO)::l) bA H cc bh)(gU:bb=jG [] av)(aS:Down av.toArray cd)(nk:∀j,cd.getD j false->n4 bA j)(ag:i∈Region.ready .any av.toArray cd):n4 bA i\/i=qO:=by
 have⟨done,B,D,F,aq,aL,bO,cr,⟨mo,ly,qN,aj,an,aM⟩,fK⟩:=h;by_cases aN:n4 bA i
 .simp_all
 by_cases cw:i=qO
 .simp_all
 exfalso;have akC:¬cd.getD qO false=true:=λY=>by have:=(D qO).2 (nk _ Y);simp_all
 have Y:∀ql,dG (mk bb i) ql=true->cd.getD ql false=true:=λql xT=>by subst gU;exact aS.ready ag (by simp_all)
 have⟨⟨u,en,gI⟩,l3⟩:=YT gU aS aj qO rfl;have BV:i<av.length:=by have⟨_,bH,pu,_⟩:=uw.1 ag;grind
 have aik:¬dG (Nat.lor done (Nat.pow 2 qO)) i=true:=λbo=>by
  rcases ED.1 bo with bo|bo
  .exact aN ((D i).1 bo)
  .exact cw (G4.1 bo)
 have aY:=aM.all i BV;by_cases amu:dG ly i=true
 .grind
 .exact akC (gI (Y _ (Q1 an i aY amu u en)))
def nm.first(gU:bb=jG [] av)(iH:cd.size=av.length):∀{bA},nm P es aT T av bb bA->(∃e∈bA,cd.getD e.i false=false)->∃i,i∈Region.ready .any av.toArray cd
 |[],_,⟨e,aw,_⟩=>by grind
 |x::bA,h,⟨e,aw,Y⟩=>by
  by_cases j4:∃e∈bA,cd.getD e.i false=false
  .exact nm.first gU iH h.2 j4
  .rcases hS.1 aw with rfl|aw
   .have⟨⟨B,aV,_,aB,_,_⟩,_⟩:=h;have be:=(oo.1 aV).1;refine⟨e.i,abE (by simpa using aV) (Xp I Y) λj bl=>?_⟩;have⟨b7,aj,an⟩:=aB j (by simp_all);grind
   simp_all
end
section
variable{P:Program}{es:aO}{aT:Nat}{bT:World}{T:ca}{av:gT}{bb:aO}{gQ:cX}{gH:bg}{iK:World}{dS:Act}
def aaD{k}:∀(bA){T},(xM es (gF av bA)).f (ik bA) T k->∃c6,k c6/\c6.ah=T.ah/\∀(ae)(a:Act),(∀e∈bA,∀d,(av[e.i]?).bind (·.dst)=some d->bP ae e.v (a.tmps.getD d undef))->∀t s,jB t es=some s->s<64->(bP ae (T.slot s) (a.tmps.getD t undef)\/∃e∈bA,(av[e.i]?).bind (·.dst)=some t)->bP ae (c6.slot s) (a.tmps.getD t undef)
 |[],T,h=>⟨T,h,rfl,λae a _ t s _ _ bo=>by
  simp_all⟩
 |e::bA,T,h=>by
  have bQ:=λT=>aaD (k:=k) bA (T:=T);unfold gF at h bQ;rw[gg]at h;unfold xM at h;generalize xM es (bA.map λe=>(av[e.i]?).bind (·.dst))=r at h bQ;have⟨r⟩:=r;have same:r (ik bA) T k=true->(∀d,(av[e.i]?).bind (·.dst)=some d->jB d es=none)->∃c6,k c6=true/\c6.ah=T.ah/\∀(ae:cX)(a:Act),
   (∀b7∈e::bA,∀d,(av[b7.i]?).bind (·.dst)=some d->bP ae b7.v (a.tmps.getD d undef))->∀t s,jB t es=some s->s<64->(bP ae (T.slot s) (a.tmps.getD t undef)\/∃b7∈e::bA,(av[b7.i]?).bind (·.dst)=some t)->bP ae (c6.slot s) (a.tmps.getD t undef):=by
   intro h aD
   have⟨c6,bC,aX,b4⟩:=bQ T h
   refine⟨c6,bC,aX,λae a aI t s au ap bo=>b4 ae a (λb7 Av=>aI b7 (by grind)) t s au ap ?_⟩
   grind
  cases aY:(av[e.i]?).bind (·.dst)with
  |none=>rw[aY]at h;exact same h λd GG=>by simp_all
  |some d=>
   rw[aY]at h;simp at h;split at h
   .rename_i aN;exact same h λcC GG=>by simp_all
   .rename_i i aN;split at h
    .rename_i p ap bq;have bO:(Cu i).p T (Ev.aY (ik (e::bA))) (λT=>r (ik bA) T k)=true:=by rw[bq];exact h
     rw[Jg]at bO;have⟨c6,bC,aX,b4⟩:=bQ _ bO;refine⟨c6,bC,by rw[aX,ca.Ki],λae a aI t s au qw bo=>b4 ae a (λb7 Av=>aI b7 (by grind)) t s au qw ?_⟩;rw[ca.LZ _ _ _ _ (dg.1 ap) qw];by_cases xA:s=i
     .have ao9:t=d:=Zd (by simp_all) aN;rw[ev xA,ao9];exact .inl (aI e (by simp) d aY)
     grind
    simp_all
def aeM{L k}:∀(av){T},(wy es av).f L T k->∃c6,k c6/\c6.ah=T.ah/\∀(ae)(a:Act),∀t s,jB t es=some s->s<64->(bP ae (T.slot s) (a.tmps.getD t undef)\/∃B∈av,B.dst=some t)->bP ae (c6.slot s) (a.tmps.getD t undef)
 |[],T,h=>⟨T,h,rfl,λae a t s _ _ bo=>by
  simp_all⟩
 |B::l,T,h=>by
  have bQ:=λT=>aeM (L:=L) (k:=k) l (T:=T);unfold wy at h;generalize wy es l=r at h bQ;have⟨r⟩:=r;have same:r L T k=true->(∀d,B.dst=some d->jB d es=none)->∃c6,k c6=true/\c6.ah=T.ah/\∀(ae:cX)(a:Act),
   ∀t s,jB t es=some s->s<64->(bP ae (T.slot s) (a.tmps.getD t undef)\/∃bH∈B::l,bH.dst=some t)->bP ae (c6.slot s) (a.tmps.getD t undef):=by
   grind
  cases aY:B.dst with
  |none=>simp_all
  |some d=>
   rw[aY]at h;simp at h;split at h
   .simp_all
   .rename_i i aN;split at h
    .rename_i p ap bq;have bO:(Cu i).p T .any (λT=>r L T k)=true:=by simp_all
     rw[Jg]at bO;have⟨c6,bC,aX,b4⟩:=bQ _ bO;refine⟨c6,bC,by rw[aX,ca.Ki],λae a t s au qw bo=>b4 ae a t s au qw ?_⟩;rw[ca.LZ _ _ _ _ (dg.1 ap) qw];by_cases xA:s=i
     .simp_all[Cr]
     grind
    simp_all
end
def sN(cd:Array Bool):Nat->Nat
 |0=>0|n+1=>sN cd n+(if cd.getD n false=true then 0 else 1)
variable{H cM:bg}{b8:Exit->Act->World->Prop}{T:ca}{a:Act}{c:Code}{eU:List Frame}{kz:Frame}{es:aO}{bJ:X->ca->bg->Bool}{l:cx}{cd:Array Bool}{m:FrameMode}{aT:Nat}{u:e7}{w ef:World}{ae oP:cX}
def aeR:∀{n},sN cd n=0->∀j,j<n->cd.getD j false
 |0,_,j,bl=>I
 |n+1,h,j,bl=>by
  unfold sN at h;have D:sN cd n=0:=I;by_cases auj:j=n
  .simp_all
  .exact aeR D j I
def Wm{cd}(i):∀n,sN (cd.setIfInBounds i true) n<=sN cd n
 |0=>fI _
 |n+1=>by
  unfold sN;have:=Wm (cd:=cd) i n;by_cases a0:cd.getD n false=true
  .rw[ev (AF a0)];omega
  grind
def adl{i cd}(aN:cd.getD i false=false)(ap:i<cd.size):∀{n},i<n->sN (cd.setIfInBounds i true) n<sN cd n
 |0,h=>I
 |n+1,h=>by
  unfold sN;by_cases BV:i=n
  .subst BV;have:=Wm (cd:=cd) i i;rw[ev (by simp[ap]),cO (by simp_all)];omega
  .have:=adl aN ap (n:=n) I;simp_all
section
variable{P:Program}{es:aO}{aT:Nat}{bT:World}{T:ca}{av:gT}{bb:aO}{gQ:cX}{gH:bg}{iK:World}{dS:Act}
def aoE{bA OZ k}(sG:TR gQ es aT T dS)(au:DN aT av cd a dS ae bA)(om:∀e∈bA,cd.getD e.i false=true)(vv:∀j B d,av[j]?=some B->B.dst=some d->n4 bA j)(R:hB bT ae OZ w)(S:Step gQ gH iK ae OZ w)(pz:(xM es (gF av bA)).f (ik bA) T (λT=>k T OZ)=true)(ar:tT b8 bT es aT gQ gH iK k):b8 .normal a w:=by
 have⟨c6,D,F,aq⟩:=aaD bA pz;refine ar ae OZ c6 a w ⟨au.size,λt s ap be=>aq ae a (λe aw d aY=>?_) t s ap be ?_,by rw[F,au.defers];exact sG.defers.mono S.le⟩ R S D
 .cases aV:av[e.i]? with
  |none=>simp_all|some B=>rw[aV]at aY;exact au.val e aw (om e aw) B d aV aY
 .by_cases j4:∃e∈bA,(av[e.i]?).bind (·.dst)=some t
  .simp_all
  .refine .inl ?_;rw[au.pk t λj B bl Y aY=>?_]
   .exact bP.mono S.le _ _ (sG.tmp t s ap be)
   .have⟨e,aw,oR⟩:=vv j B t bl aY;grind
end
section
variable{P:Program}{es:aO}{aT:Nat}{bT:World}{T:ca}{av:gT}{bb:aO}{gQ:cX}{gH:bg}{iK:World}{dS:Act}
noncomputable def Ap(P:Program)(es:aO)(T:ca)(av:gT)(pf:dM)(kU:aO)(k:ca->bg->Bool):pg:=λL H _ bh=>
 xr bh H λH=>(xM es pf).f L T λT=>k T H
variable{last kU:aO}{call:cE}{k:ca->bg->Bool}{a8:bp->bg->Bool}{pf:dM}
def aiT(gU:bb=jG [] av)(bq:ty av bb 0 av)(sG:TR gQ es aT T dS)(Gv:fv gH.next)(gM:pZ P bT call)(aD:oL P)(ar:tT b8 bT es aT gQ gH iK k)(I8:∀bz bG az v V bi,Px aT av dS bz->hB bT bG az bi->Step gQ gH iK bG az bi->bP bG v V->a8 v az->b8 (.panic [{v:=V,recovered:=false}]) bz bi):∀(EQ){cd}{a}{w}{ae}{bA}{H}{cc}{bh}{l},sN cd av.length<=EQ->Inv P es aT bT T av bb gQ gH iK dS (λi=>∀m,MA bb l=some m->dG m i) cd a w ae bA H cc bh->EM P es aT T av bb last kU call (Ap P es T av pf kU k) a8 pf l bA H cc bh->wpAny P .any av.toArray b8 EQ cd a w:=by
 have jT:∀{cd:Array Bool}{a:Act}{w:World}{ae:cX}{bA:List lF}{H:bg}{cc:List jF}{bh:List jC}{l:List (aO×Nat)},(∀j,j<av.length->cd.getD j false=true)->
  Inv P es aT bT T av bb gQ gH iK dS (λi=>∀m,MA bb l=some m->dG m i=true) cd a w ae bA H cc bh->EM P es aT T av bb last kU call (Ap P es T av pf kU k) a8 pf l bA H cc bh->b8 .normal a w:=by
  intro cd a w ae bA H cc bh l om bv eZ
  cases l with
  |cons mo l=>have⟨aH,qO⟩:=mo;have⟨done,B,D,F,aq,aL,bO,_⟩:=eZ;have:=(D qO).2 (bv.sub qO (om qO (oo.1 F).1));simp_all
  |nil=>
   have⟨D,⟨ly,F,aq⟩,aL⟩:=eZ;unfold Ap at aL;rw[y1]at aL;rw[<-D]at aL;have aw:lL cd bh H=gf bh H:=by unfold lL;congr 1;refine List.filter_eq_self.2 λq a0=>?_;have⟨_,_,⟨e,aw,oR,_⟩,_⟩:=bv.mW q a0;have⟨_,_,_,⟨B,aV,_⟩,_⟩:=bv.log.E7 e aw;grind
   refine aoE sG bv.tmps (λe aw=>?_) (λj B d bl aY=>?_) (aw▸bv.m0) (aw▸bv.iy) aL ar
   .have⟨_,_,_,⟨B,aV,_⟩,_⟩:=bv.log.E7 e aw;grind
   .exact bv.sub j (om j (oo.1 bl).1)
 have afX:∀{cd:Array Bool}{a:Act}{w:World}{ae:cX}{bA:List lF}{H:bg}{cc:List jF}{bh:List jC}{l:List (aO×Nat)},
  Inv P es aT bT T av bb gQ gH iK dS (λi=>∀m,MA bb l=some m->dG m i=true) cd a w ae bA H cc bh->EM P es aT T av bb last kU call (Ap P es T av pf kU k) a8 pf l bA H cc bh->
  Region.ready .any av.toArray cd=[]->∀j,j<av.length->cd.getD j false=true:=by
  intro cd a w ae bA H cc bh l bv eZ XD
  have aak:∀j,n4 bA j->cd.getD j false=true:=by
   rintro j ⟨e,aw,rfl⟩;cases a0:cd.getD e.i false with
   |true=>rfl|false=>have⟨i,aN⟩:=bv.log.first gU bv.size ⟨e,aw,a0⟩;simp_all
  have none:∀j B,av[j]?=some B->(∀ql,dG (Ev.mk bb j) ql=true->n4 bA ql)->cd.getD j false=true:=by
   intro j B aV aB;have bl:=(oo.1 aV).1;cases a0:cd.getD j false with
   |true=>rfl
   |false=>have:=abE (av:=av.toArray) (i:=j) (B:=B) (by simp_all) (Xp (by rw[bv.size];grind) a0) λql xT=>aak ql (aB ql (by simp_all));simp_all
  cases l with
  |cons mo l=>have⟨aH,qO⟩:=mo;have⟨done,B,D,F,aq,aL,bO,_⟩:=eZ;have:=none qO B F λql xT=>(D ql).1 (Uo aL xT);have:=(D qO).2 (bv.sub qO this);simp_all|nil=>have⟨D,⟨ly,F,aq⟩,aL⟩:=eZ;intro j bl;exact aak j ((F j).1 (aq.all j bl))
 intro EQ;induction EQ with
 |zero=>
  intro cd a w ae bA H cc bh l hu bv eZ;have om:=aeR (Nat.le_zero.1 hu);refine⟨?_,jT om bv eZ⟩;cases a0:Region.ready .any av.toArray cd with
  |nil=>rfl
  |cons i l=>
   have aN:i∈Region.ready .any av.toArray cd:=by simp_all
   have a1:=Gz (uw.1 aN).1;have BV:i<av.length:=by have⟨_,bH,pu,_⟩:=uw.1 aN;grind
   simp_all
 |succ EQ bQ=>
  intro cd a w ae bA H cc bh l hu bv eZ;refine⟨λXD=>jT (afX bv eZ XD) bv eZ,λi aN=>?_⟩;have a1:=Gz (uw.1 aN).1;have BV:i<av.length:=by have⟨_,bH,pu,_⟩:=uw.1 aN;grind
  have vn:sN (cd.setIfInBounds i true) av.length<=EQ:=by have:=adl a1 (by rw[bv.size];grind) BV;omega
  by_cases Lz:n4 bA i
  .exact bv.O0 gU bq sG aN Lz λbz bi bG LA=>bQ vn LA eZ
  cases l with
  |cons mo l=>
   have⟨aH,qO⟩:=mo;have ar4:=(eZ.ready gU bv.down bv.sub aN).resolve_left Lz;subst ar4;have⟨done,B,D,F,aq,aL,bO,cr,fK,hI⟩:=eZ;have aB:∀j,dG (Ev.mk bb i) j=true->n4 bA j:=λj bl=>(D j).1 (Uo aL bl);refine bv.writer gU bq sG Gv F aN Lz aB (λj bl=>bl _ rfl) gM aD hI (λbz bi bG v az gO fG LA zj=>?_) I8;have Ft:gF av ((⟨i,v,.writer⟩:lF)::bA)=B.dst::gF av bA:=by simp_all[gF]
   have mB:Og P es aT T av bb last kU call (Ap P es T av pf kU k) a8 pf l (some i) (⟨i,v,.writer⟩::bA) az gO fG:=
    ⟨Nat.lor done (Nat.pow 2 i),D.add ⟨i,v,.writer⟩,by simp_all,fK,by rw[Ft];exact zj⟩
   have⟨QT,ie,GI,Ds,aj,an,aM⟩:=mB.advance LA.log;exact bQ vn (LA.grow Gv aM an) aj
  |nil=>have⟨D,⟨ly,F,aq⟩,aL⟩:=eZ;exact absurd ((F i).1 (aq.all i BV)) Lz
end
section
variable{P:Program}{es:aO}{aT:Nat}{bT:World}
def apC{n j:Nat}:dG (Nat.pow 2 n - 1) j=true↔j<n:=by rw[IX];simp_all
def amS{bb av pl}(h:xS P bb av pl):ty av bb 0 av/\∃mo ly qN,x1 P av bb none 0 pl.pE=some (mo,ly)/\u9 P av bb mo ly pl.last=some qN/\Oc P av bb pl.kU qN:=by
 unfold xS at h;simp at h;have⟨⟨D,_⟩,F⟩:=h;refine⟨D,?_⟩;split at F
 .rename_i mo ly arU;split at F
  .rename_i qN Y;refine⟨mo,ly,qN,arU,Y,?_⟩;split at F
   .have:=dA.1 F;exact⟨λj bl=>by rw[this];exact apC.2 bl⟩
   grind
  grind
 grind
def hB.drew(R:hB bT ae H w):hB bT ae H w.drew:=⟨R.rel.drew,R.kv.step (Step.drew ae H w)⟩
def ajg(hm:P.follows .mixedOrders){id}{av}{call}(gM:pZ P bT call)(aD:oL P){ae}{H}{w}{T}{a}{k}{a8}{b8}(R:hB bT ae H w)(bv:TR ae es aT T a)(h:(Jf P es aT av.toList).f call [] T H k a8)(D:tT b8 bT es aT ae H w k)(F:wL b8 bT es aT ae H w a8):(Code.region id av true).wp P b8 a w:=by
 refine wp_region_any hm ?_;show wpAny P .any av b8 av.size (Array.replicate av.size false) a w.drew;have vW:=R.drew;have s8:=D.step (Step.drew ae H w);have On:=F.step (Step.drew ae H w);generalize w.drew=iK at vW s8 On;generalize asY:av.toList=m8 at h;have iH:av.size=m8.length:=by grind
 have wF:av=m8.toArray:=by grind
 unfold Jf Mg at h;generalize gU:jG [] m8=bb at h;generalize EA P bb m8=pl at h;cases Di:xS P bb m8 pl with
 |false=>rw[Di]at h;exact ci h
 |true=>
  rw[Di]at h;have⟨bq,mo,ly,qN,aj,an,aM⟩:=amS Di;have an7:=λk=>aeM (es:=es) (L:=[]) (k:=k) m8 (T:=T);have eZ:(yb P es aT m8 bb [] pl.pE).f call [] T H [] [] (Jr P es aT T m8 bb pl.last call (Ap P es T m8 (ml m8 (ol m8 [] pl.pE) pl.last) pl.kU k) (λv H=>(wy es m8).f [] T λT=>a8 T v H) [] pl.pE)
   (λv H=>(wy es m8).f [] T λT=>a8 T v H)=true:=by
   unfold Jr Ap
   simp_all
  have mB:Og P es aT T m8 bb pl.last pl.kU call (Ap P es T m8 (ml m8 (ol m8 [] pl.pE) pl.last) pl.kU k) (λv H=>(wy es m8).f [] T λT=>a8 T v H) (ml m8 (ol m8 [] pl.pE) pl.last) pl.pE none [] H [] []:=
   ⟨0,λj=>⟨λh=>absurd h Ps,λ⟨e,aw,_⟩=>by grind⟩,rfl,⟨mo,ly,qN,aj,an,aM⟩,eZ⟩
  have a1:∀j,(Array.replicate av.size false).getD j false=false:=λj=>by simp[Array.getElem?_replicate];grind
  have VP:Inv P es aT bT T m8 bb ae H iK a (λ_=>False) (Array.replicate av.size false) a iK ae [] H [] []:=by
   refine⟨by grind,λi B aV Y=>?_,trivial,λj bl=>?_,λe aw=>(by grind),⟨bv.size,rfl,λe aw=>(by grind),λ_ _=>rfl⟩,vW,Step.refl _ _ _,⟨λq a0=>(by grind),λq a0=>(by grind)⟩,λq a0=>(by grind),λe aw=>(by grind),λe aw=>(by grind),λr ag=>(by grind)⟩
   all_goals simp_all
  have⟨lh,az,gO,fG,bC,aX,b4⟩:=mB.advance trivial;have kX:=aiT (b8:=b8) gU.symm bq bv R.rel.next gM aD s8 (a8:=λv H=>(wy es m8).f [] T λT=>a8 T v H) (λbz bG az v V bi aV dC b3 iQ my=>by
   have⟨c6,ic,hF,oa⟩:=an7 _ my;refine On bG az c6 bz v V bi ⟨aV.1,λt s ap be=>oa bG bz t s ap be ?_,by rw[hF,aV.2.1];exact bv.defers.mono b3.le⟩ dC b3 iQ ic;by_cases j4:∃B∈m8,B.dst=some t
   .simp_all
   .refine .inl ?_;rw[aV.2.2 t λB pu aY=>j4 ⟨B,pu,aY⟩];exact bP.mono b3.le _ _ (bv.tmp t s ap be)) av.size (l:=pl.pE) ?_ (VP.grow R.rel.next b4 aX) bC
  .simp_all
  .rw[iH];have:∀(n m:Nat),sN (Array.replicate m false) n<=n:=by
    intro n m;induction n with
    |zero=>exact fI _|succ n bQ=>unfold sN;grind
   simp_all
end
section
variable{P:Program}{es:aO}{aT:Nat}{bT:World}
def Hs(ae:cX):X->Exit->Prop
 |.exit i,e=>e=.exit i|.ret,e=>e=.ret|.panic v,e=>∃V,bP ae v V/\e=.panic [{v:=V,recovered:=false}]
def Il(b8:Exit->Act->World->Prop)(bT:World)(es:aO)(aT:Nat)(ae:cX)(H:bg)(w:World)(bJ:X->ca->bg->Bool):Prop:=
 ∀bG az c6 bz bi x e,TR bG es aT c6 bz->hB bT bG az bi->Step ae H w bG az bi->Hs bG x e->bJ x c6 az=true->b8 e bz bi
def Il.step(h:Il b8 bT es aT ae H w bJ)(s:Step ae H w oP cM ef):Il b8 bT es aT oP cM ef bJ:=
 λbG az c6 bz bi x e D F aq aL bO=>h bG az c6 bz bi x e D F (s.trans aq) aL bO
def MS(P:Program)(c:Code)(b8:Exit->Act->World->Prop)(a:Act)(w:World):Prop:=
 ∀(b:Frame)(k:List Item)(eU:List Frame),∃e bz bi,b8 e bz bi/\Arrives P (lone (b.at a (.code c::.inLoop c::k)) eU w) b k eU e bz bi
def amN(h:MS P c b8 a w):(Code.loop c).wp P b8 a w:=
 λb k eU=>let⟨e,bz,bi,q,r⟩:=h b k eU;⟨e,bz,bi,q,.of_steps (.one step_loop) r⟩
def arB(h:c.wp P (Exit.then (MS P c b8) b8) a w):MS P c b8 a w:=by
 intro b k eU;have⟨e,Hq,IJ,a0,wF⟩:=h b (.inLoop c::k) eU;cases e with
 |normal=>have⟨afR,ah8,apQ,apq,ahQ⟩:=a0 b k eU;exact⟨afR,ah8,apQ,apq,.of_steps (Steps.trans wF (.one step_inLoop)) ahQ⟩
 |exit id=>exact⟨_,Hq,IJ,a0,.pass (x:=.inLoop c) rfl (λ_ _=>.inl (by simp)) wF⟩
 |goto l=>exact⟨_,Hq,IJ,a0,.pass (x:=.inLoop c) rfl (λ_ _=>.inl (by simp)) wF⟩
 |ret=>exact⟨_,Hq,IJ,a0,.pass (x:=.inLoop c) rfl (λ_ _=>.inl (by simp)) wF⟩
 |panic as3=>exact⟨_,Hq,IJ,a0,.pass (x:=.inLoop c) rfl (λ_ _=>.inl (by simp)) wF⟩
 |outgrown=>exact⟨_,Hq,IJ,a0,.pass (x:=.inLoop c) rfl (λ_ _=>.inl (by simp)) wF⟩
def Wi(P:Program)(bT:World)(es:aO)(aT:Nat)(c:Code)(f:Ok):Prop:=
 ∀(n:Nat)(call:cE)(ae:cX)(H:bg)(w:World)(T:ca)(a:Act)(ce:ca->bg->Bool)(bJ:X->ca->bg->Bool)(b8:Exit->Act->World->Prop),pZ P bT call->hB bT ae H w->TR ae es aT T a->
  f.f n call T H ce bJ=true->tT b8 bT es aT ae H w ce->Il b8 bT es aT ae H w bJ->c.wp P b8 a w
def acC(h:Il b8 bT es aT ae H w bJ):wL b8 bT es aT ae H w λT v H=>bJ (.panic v) T H:=
 λbG az c6 bz v V bi D F aq aL bO=>h bG az c6 bz bi (.panic v) _ D F aq ⟨V,aL,rfl⟩ bO
def xb(hm:P.follows .mixedOrders)(aD:oL P):∀c,Wi P bT es aT c (lo P es aT c)
 |.skip=>by intro n call ae H w T a ce bJ b8 gM R bv h D F;exact wp_skip (D ae H T a w bv R (Step.refl _ _ _) h)
 |.region id av d=>by
  intro n call ae H w T a ce bJ b8 gM R bv h D F;cases d with
  |false=>
   have ap:=T2 (es:=es) (aT:=aT) gM aD av.toList 0 [] (λj B bl=>by simpa using bl);unfold lo at h;generalize vJ P es aT av [] av.toList=r at h ap;have⟨r⟩:=r;refine wp_region ?_;have:=ap ae H w [] T a ce _ b8 R (lW.start bv) h D (acC F);simp_all[List.range_eq_range',Lk]
  |true=>have dv:∀k a8,(Jf P es aT av.toList).f call [] T H k a8=true->tT b8 bT es aT ae H w k->wL b8 bT es aT ae H w a8->(Code.region id av true).wp P b8 a w:=λk a8=>ajg hm gM aD R bv;exact dv ce _ h D (acC F)
 |.seq x y=>by
  intro n call ae H w T a ce bJ b8 gM R bv h D F;have M:=xb hm aD x;have aE:=xb hm aD y;refine wp_seq (M n call ae H w T a _ bJ _ gM R bv h ?_ ?_)
  .intro bG az c6 bz bi bC aX b4 dc;exact aE n call bG az bi c6 bz ce bJ b8 gM aX bC dc (D.step b4) (F.step b4)
  .intro bG az c6 bz bi x e bC aX b4 dc eC;have:=F bG az c6 bz bi x e bC aX b4 dc eC;cases x<;>simp only[Hs]at dc
   .subst dc;exact this
   .subst dc;exact this
   .obtain⟨V,_,rfl⟩:=dc;exact this
 |.cond c x y=>by
  intro n call ae H w T a ce bJ b8 gM R bv h D F;have M:=xb hm aD x;have aE:=xb hm aD y;have aQ:=(lW.start bv).wG c;unfold j7 at aQ;unfold lo at h;generalize eF es [] c=DR at h aQ;have⟨DR⟩:=DR;have⟨b,e,aq⟩:=AC h;simp at aQ;rw[e]at aQ;refine wp_cond aQ ?_;rcases iE aq with⟨aB,aL⟩|⟨aB,aL⟩
  .rw[aB];exact M n call ae H w T a ce bJ b8 gM R bv aL D F
  .rw[aB];exact aE n call ae H w T a ce bJ b8 gM R bv aL D F
 |.block id c=>by
  intro n call ae H w T a ce bJ b8 gM R bv h D F;have M:=xb hm aD c;refine wp_block (M n call ae H w T a ce _ _ gM R bv h (λbG az c6 bz bi bC aX b4 dc=>D bG az c6 bz bi bC aX b4 dc) ?_);intro bG az c6 bz bi x e bC aX b4 dc eC;cases x with
  |exit i=>
   subst dc;simp[Exit.inBlock];rcases iE eC with⟨aB,aL⟩|⟨aB,aL⟩
   .rw[ev (dA.1 aB)];exact D bG az c6 bz bi bC aX b4 aL
   .rw[cO (tC aB)];exact F bG az c6 bz bi (.exit i) _ bC aX b4 rfl aL
  |ret=>subst dc;exact F bG az c6 bz bi .ret _ bC aX b4 rfl eC
  |panic v=>obtain⟨V,aI,rfl⟩:=dc;exact F bG az c6 bz bi (.panic v) _ bC aX b4 ⟨V,aI,rfl⟩ eC
 |.loop c=>by
  intro n call ae H w T a ce bJ b8 gM R bv h D F;have M:=xb hm aD c;unfold lo at h;generalize lo P es aT c=HW at h M;have⟨HW⟩:=HW;refine amN ?_;have dv:∀(m:Nat)(oP:cX)(cM:bg)(ef:World)(mO:ca)(bk:Act),hB bT oP cM ef->TR oP es aT mO bk->Step ae H w oP cM ef->GD (λba T H=>HW n call T H ba bJ) m mO cM=true->MS P c b8 bk ef:=by
   intro m;induction m with
   |zero=>simp_all[ahX]
   |succ m bQ=>
    intro oP cM ef mO bk Kl arz ow Y;refine arB (M n call oP cM ef mO bk _ bJ _ gM Kl arz Y ?_ ?_)
    .intro bG az c6 bz bi bC aX b4 dc;exact bQ bG az bi c6 bz aX bC (ow.trans b4) dc
    .intro bG az c6 bz bi x e bC aX b4 dc eC;have:=F bG az c6 bz bi x e bC aX (ow.trans b4) dc eC;cases x<;>simp only[Hs]at dc
     .subst dc;exact this
     .subst dc;exact this
     .obtain⟨V,_,rfl⟩:=dc;exact this
  exact dv n ae H w T a R bv (Step.refl _ _ _) h
 |.exit i=>by intro n call ae H w T a ce bJ b8 gM R bv h D F;exact wp_exit (F ae H T a w (.exit i) _ bv R (Step.refl _ _ _) rfl h)
 |.ret=>by intro n call ae H w T a ce bJ b8 gM R bv h D F;exact wp_ret (F ae H T a w .ret _ bv R (Step.refl _ _ _) rfl h)
 |.rangeFunc .. |.scope _|.label _|.goto _|.refuse _=>by intro n call ae H w T a ce bJ b8 gM R bv h D F;exact ci h
end
section
variable{P:Program}{es:aO}{aT:Nat}{bT:World}
def zQ(tmps:Array Value):ResultVar->Sem Value
 |.tmp t=>pure (tmps.getD t undef)|.cell a t=>do loadVar t (<-asAddr (tmps.getD a undef))
def RM{H}(R:Rel ae H w)(bv:TR ae es aT T a):∀{l}{k},(uh P es l).f T H k->∃q qI,k q/\dh ae q qI/\q.length=l.length/\(l.mapM (zQ a.tmps)).run P w=.ok qI w
 |[],k,h=>⟨[],[],h,dh.nil,rfl,rfl⟩
 |.tmp t::l,k,h=>by have ap:=(lW.start bv).O2 t;unfold xn at ap;unfold uh at h;have bQ:=λk=>RM R bv (l:=l) (k:=k);generalize ls es [] t=g at h ap;generalize uh P es l=r at h bQ;have⟨g⟩:=g;have⟨r⟩:=r;have⟨q,qI,D,F,aL,aq⟩:=bQ _ h;refine⟨_,_,D,dh.cons ap F,by grind,?_⟩;simp_all[zQ]
 |.cell x t::l,k,h=>by
  have ap:=(lW.start bv).O2 x;unfold xn at ap;unfold uh at h;have bQ:=λk=>RM R bv (l:=l) (k:=k);generalize ls es [] x=g at h ap;have y9:=λk=>VA (P:=P) (t:=t) (p:=g.g [] T) (H:=H) (k:=k);generalize js P t=f at h y9;generalize uh P es l=r at h bQ;have⟨g⟩:=g;have⟨f⟩:=f;have⟨r⟩:=r;have⟨v,bk,dk,s,z,aj,an,aM,bs⟩:=y9 _ h;have⟨q,qI,D,F,aL,aq⟩:=bQ _ aj;simp only at ap an;have Jk:=ap;rw[an]at Jk;simp only[bP]at Jk;have⟨b,cm,aB,gm⟩:=Jk;have⟨y2,cp,dj⟩:=bs ae w _ ap (R.obj bk (bP.lt R aB));refine⟨_,_,D,dh.cons cp F,by grind,?_⟩;rw[List.mapM_cons,jm];rw[gm]at dj;have:(zQ a.tmps (.cell x t)).run P w=.ok y2 w:=by simp[zQ,gm];exact dj
  simp_all
def acv{fn:Func}{tmps:Array Value}{w:World}{qI:lE}(h:(fn.results.toList.mapM (zQ tmps)).run P w=.ok qI w):(results fn tmps).run P w=.ok (if ap:(List.toArray qI).size=1 then(List.toArray qI)[0]else .tuple (List.toArray qI)) w:=by
 have hm:(fn.results.mapM (zQ tmps)).run P w=.ok (List.toArray qI) w:=by simp_all[Array.mapM_eq_mapM_toList]
 have e:results fn tmps=(do let fx <-fn.results.mapM (zQ tmps);pure (if h:fx.size=1 then fx[0]else .tuple fx)):=by congr 1
 simp_all
def Tl{k fn}(R:Rel ae H w)(bv:TR ae es aT T a)(h:(xJ P es fn.results.toList).f T H k):∃v V,k v/\bP ae v V/\(results fn a.tmps).run P w=.ok V w:=by
 have dv:∀k,(uh P es fn.results.toList).f T H k=true->∃q qI,k q=true/\dh ae q qI/\q.length=fn.results.toList.length/\(fn.results.toList.mapM (zQ a.tmps)).run P w=.ok qI w:=λk=>RM R bv;unfold xJ at h;generalize uh P es fn.results.toList=r at h dv;have⟨r⟩:=r;split at h
 .rename_i f x ag Y;cases ag;have⟨q,qI,D,F,aq,aL⟩:=dv _ h;rw[Y]at aq
  match q,aq with
  |[v],_=>obtain⟨V,gD,rfl,bO,cr⟩:=F.cons_inv;subst cr;exact⟨v,V,D,bO,by rw[acv aL];rfl⟩
 .rename_i f ag Y;cases ag;have⟨q,qI,D,F,aq,aL⟩:=dv _ h;refine⟨_,.tuple (List.toArray qI),D,by simp_all[bP],?_⟩;rw[acv aL,dif_neg];intro ap;rw[Je,F.length,aq]at ap;grind[List.length_eq_one_iff]
def aen{k}(h:O4 l k):∃n,k n (l.drop 8)/\∀i,i<8->n.get (ea i)=l.getD i .undef:=by
 have dy:∀i,i<8->i=0\/i=1\/i=2\/i=3\/i=4\/i=5\/i=6\/i=7:=I
 match l,h with
 |[],h=>exact⟨_,h,λi aN=>by rcases dy i aN with rfl|rfl|rfl|rfl|rfl|rfl|rfl|rfl<;>rfl⟩
 |[_],h=>exact⟨_,h,λi aN=>by rcases dy i aN with rfl|rfl|rfl|rfl|rfl|rfl|rfl|rfl<;>rfl⟩
 |[_,_],h=>exact⟨_,h,λi aN=>by rcases dy i aN with rfl|rfl|rfl|rfl|rfl|rfl|rfl|rfl<;>rfl⟩
 |[_,_,_],h=>exact⟨_,h,λi aN=>by rcases dy i aN with rfl|rfl|rfl|rfl|rfl|rfl|rfl|rfl<;>rfl⟩
 |[_,_,_,_],h=>exact⟨_,h,λi aN=>by rcases dy i aN with rfl|rfl|rfl|rfl|rfl|rfl|rfl|rfl<;>rfl⟩
 |[_,_,_,_,_],h=>exact⟨_,h,λi aN=>by rcases dy i aN with rfl|rfl|rfl|rfl|rfl|rfl|rfl|rfl<;>rfl⟩
 |[_,_,_,_,_,_],h=>exact⟨_,h,λi aN=>by rcases dy i aN with rfl|rfl|rfl|rfl|rfl|rfl|rfl|rfl<;>rfl⟩
 |[_,_,_,_,_,_,_],h=>exact⟨_,h,λi aN=>by rcases dy i aN with rfl|rfl|rfl|rfl|rfl|rfl|rfl|rfl<;>rfl⟩
 |_::_::_::_::_::_::_::_::l,h=>exact⟨_,h,λi aN=>by rcases dy i aN with rfl|rfl|rfl|rfl|rfl|rfl|rfl|rfl<;>rfl⟩
def aec(d):j1.get d=.undef:=db.ab9 _ d
def L2{k}(h:Dd l k):∃T,k T/\T.ah=[]/\∀s,s<64->T.slot s=l.getD s .undef:=by
 have⟨nQ,D,aj⟩:=aen h;have low:∀(T:ca),T.mL=nQ->∀s,s<8->T.slot s=l.getD s .undef:=by intro T hK s ap;rw[ca.Hm,<-aj s ap];have aP:s / 8 % 8=0:=I;have a3:s % 8=s:=I;rw[aP,a3];show T.mL.get _=_;rw[hK]
 cases aY:l.drop 8 with
 |nil=>
  rw[aY]at D;refine⟨_,D,rfl,λs ap=>?_⟩;have Y:l.length<=8:=List.drop_eq_nil_iff.1 aY;by_cases hI:s<8
  .simp_all
  .rw[s5,tY I,ca.Hm];have dy:∀i,i<8->i≠0->i=1\/i=2\/i=3\/i=4\/i=5\/i=6\/i=7:=I;have:(⟨nQ,j1,j1,j1,j1,j1,j1,j1,[]⟩:ca).B1 (ea (s / 8 % 8))=j1:=by rcases dy (s / 8 % 8) I I with e|e|e|e|e|e|e<;>rw[e]<;>rfl
   simp_all[aec]
 |cons x r=>
  rw[aY]at D;change O4 (x::r) (λc4 l=>kM l (k ⟨nQ,c4,j1,j1,j1,j1,j1,j1,[]⟩) λ_ _=>false)=true at D;have⟨c4,F,an⟩:=aen D;cases g1:(x::r).drop 8 with
  |cons y eH=>simp_all
  |nil=>
   rw[g1]at F;refine⟨_,F,rfl,λs ap=>?_⟩;have Y:l.length<=16:=by have aq:=List.drop_eq_nil_iff.1 g1;grind
   by_cases hI:s<8
   .simp_all
   .by_cases LJ:s<16
    .rw[ca.Hm];have aP:s / 8 % 8=1:=I;have a3:s % 8=s - 8:=I;rw[aP,a3];show c4.get _=_;grind
    .rw[s5,tY I,ca.Hm];have dy:∀i,i<8->i≠0->i≠1->i=2\/i=3\/i=4\/i=5\/i=6\/i=7:=I;have:(⟨nQ,c4,j1,j1,j1,j1,j1,j1,[]⟩:ca).B1 (ea (s / 8 % 8))=j1:=by rcases dy (s / 8 % 8) I I I with e|e|e|e|e|e<;>rw[e]<;>rfl
     simp_all[aec]
def aeu{n}:∀{es}{i},tS n i es->∀s t,es[s]?=some t->(i+s<n->t=i+s)/\(n<=i+s->n<=t)
 |[],i,_,s,t,h=>by grind
 |x::l,i,h,s,t,ap=>by
  have dv:(i<n->x=i)/\(n<=i->n<=x)/\tS n (i+1) l=true:=by
   unfold tS at h;split at h
   .rename_i aB;have aB:=dg.1 aB;split at h
    all_goals simp_all
   .rename_i aB;have aB:=P5 aB;split at h
    .rename_i a0;exact⟨λbo=>I,λ_=>dT.1 a0,h⟩
    grind
  cases s with
  |zero=>simp_all
  |succ s=>have:=aeu dv.2.2 s t (by simp_all);grind
def RS{ae}{fn:Func}{es}{args}{jf}{T:ca}(eZ:dh ae args jf)(ii:args.length<=fn.params.size+fn.nfree)(u4:fn.params.size+fn.nfree<=fn.ntmps)(wl:tS (fn.params.size+fn.nfree) 0 es)(aY:T.ah=[])(hK:∀s,s<64->T.slot s=args.getD s .undef):TR ae es fn.ntmps T {tmps:=List.toArray jf++Array.replicate (fn.ntmps - (List.toArray jf).size) undef,defers:=[]}:=by
 have asD:=eZ.length;refine⟨?_,λt s D F=>?_,by rw[aY];rfl⟩
 .grind
 .have oh:=L4 D;rw[hK s F];have ahB:∀t,args.length<=t->(List.toArray jf++Array.replicate (fn.ntmps - (List.toArray jf).size) undef).getD t undef=undef:=by
   intro t au;rw[UR];grind
  have⟨cT,cN⟩:=aeu wl s t oh;rw[pW]at cT cN;by_cases ap:s<fn.params.size+fn.nfree
  .have e:s=t:=(cT ap).symm;subst e;by_cases aC:s<args.length
   .have aq:args[s]?=some args[s]:=lX aC;have⟨V,aL,bO⟩:=eZ.get aq;simp_all[acg]
   simp_all[Fh]
  .rw[ahB t I,s5,tY I];exact Fh
end
section
variable{P:Program}{bT:World}
def sM(ae:cX):e7->FrameMode->Prop
 |.ret,m=>m=.returning|.nu v r,m=>∃V,bP ae v V/\m=.panicking [{v:=V,recovered:=r}]
def sM.mono{bG}(h:ae.le bG)(r:sM ae u m):sM bG u m:=by
 cases u with
 |ret=>exact r|nu v b=>have⟨V,D,F⟩:=r;exact⟨V,bP.mono h _ _ D,F⟩
def sM.settle(r:sM ae u m):sM ae u.settle (Go.settle m):=by
 cases u with
 |ret=>subst r;rfl
 |nu v b=>
  obtain⟨V,D,rfl⟩:=r;cases b with
  |true=>rfl|false=>exact⟨V,D,rfl⟩
def Mi(b8:Exit->Act->List Frame->World->Prop)(kz:Frame)(eU:List Frame)(bT:World)(es:aO)(aT:Nat)(ae:cX)(H:bg)(w:World)(ce:ca->bg->e7->Bool):Prop:=
 ∀bG az c6 bz bi u m,TR bG es aT c6 bz->hB bT bG az bi->Step ae H w bG az bi->sM bG u m->ce c6 az u=true->b8 .normal bz ({kz with mode:=m}::eU) bi
def Lc(b8:Exit->Act->List Frame->World->Prop)(kz:Frame)(eU:List Frame)(bT:World)(es:aO)(aT:Nat)(ae:cX)(H:bg)(w:World)(bJ:X->ca->bg->e7->Bool):Prop:=
 ∀bG az c6 bz bi u m x e,TR bG es aT c6 bz->hB bT bG az bi->Step ae H w bG az bi->sM bG u m->Hs bG x e->bJ x c6 az u=true->b8 e bz ({kz with mode:=m}::eU) bi
def Mi.step{b8 ce}(h:Mi b8 kz eU bT es aT ae H w ce)(s:Step ae H w oP cM ef):Mi b8 kz eU bT es aT oP cM ef ce:=λbG az c6 bz bi u m D F aq aL bO=>h bG az c6 bz bi u m D F (s.trans aq) aL bO
def Lc.step{b8 bJ}(h:Lc b8 kz eU bT es aT ae H w bJ)(s:Step ae H w oP cM ef):Lc b8 kz eU bT es aT oP cM ef bJ:=λbG az c6 bz bi u m x e D F aq aL bO cr=>h bG az c6 bz bi u m x e D F (s.trans aq) aL bO cr
def RT(P:Program)(bT:World)(es:aO)(aT:Nat)(c:Code)(f:OW):Prop:=
 ∀(n:Nat)(call:cE)(ae:cX)(H:bg)(w:World)(T:ca)(a:Act)(u:e7)(m:FrameMode)(ce:ca->bg->e7->Bool)(bJ:X->ca->bg->e7->Bool)(b8:Exit->Act->List Frame->World->Prop)(kz:Frame)(eU:List Frame),
  pZ P bT call->hB bT ae H w->TR ae es aT T a->sM ae u m->f.f n call T H u ce bJ=true->Mi b8 kz eU bT es aT ae H w ce->Lc b8 kz eU bT es aT ae H w bJ->c.wpS P b8 a ({kz with mode:=m}::eU) w
def R2{f}(aQ:Wi P bT es aT c f):RT P bT es aT c (OG f):=by
 intro n call ae H w T a u m ce bJ b8 kz eU gM R bv hu h D F;refine wpS_of_wp (aQ n call ae H w T a (λT H=>ce T H u) (λx T H=>bJ x T H u) _ gM R bv h ?_ ?_)
 .intro bG az c6 bz bi bC aX b4 dc;exact D bG az c6 bz bi u m bC aX b4 (hu.mono b4.le) dc
 .intro bG az c6 bz bi x e bC aX b4 dc eC;exact F bG az c6 bz bi u m x e bC aX b4 (hu.mono b4.le) dc eC
def aqD:pZ P bT za:=λf args H k h=>ci h
def aiH{B}(h:BJ B.op)(f)(w):(execOp f B).run P w=.ok .recover w:=by
 have⟨pY,op,bL,pos,abv,aaT⟩:=B;simp only at h;unfold BJ at h;split at h
 .rename_i c;split at h
  .rename_i aQ;unfold execOp;rw[Gm aQ];rfl
  simp_all
 simp_all
def aoc(aD:oL P){es}{aT id}{av}{r}(ag:Vg P es aT av av.toList Am=some r):RT P bT es aT (.region id av false) ⟨λ_ _ T H u ce _=>Tf u (r.f za [.nil .i] T H (λT H=>ce T H .ret) λ_ _ _=>false) (λv rec=>bd rec (r.f za [.nil .i] T H (λT H=>ce T H (.nu v true)) λ_ _ _=>false) (r.f za [v] T H (λT H=>ce T H (.nu v true)) λ_ _ _=>false))⟩:=by
 intro n call ae H w T a u m ce bJ b8 kz eU gM R bv hu h D F;cases Y:av.toList with
 |nil=>rw[Y]at ag;cases ag
 |cons B l=>
  rw[Y]at ag;unfold Vg at ag;cases uf:BJ B.op with
  |false=>simp_all
  |true=>
   cases bI:B.guard with
   |some g=>simp_all
   |none=>
    cases aY:B.dst with
    |none=>simp_all
    |some d=>
     simp[uf,bI,aY]at ag;cases be:Nat.blt d aT with
     |false=>simp_all
     |true=>
      cases Oq:jB d es with
      |some s=>simp_all
      |none=>
       cases ju:l.all λB=> !BJ B.op with
       |false=>simp_all
       |true=>
        simp[be,Oq,ju]at ag;have aV:av[0]?=some B:=by rw[<-BT,Y];rfl
        have iJ:∀j B,l[j]?=some B->av[1+j]?=some B:=λj B bl=>by rw[<-BT,Y,El];simp_all
        have WY:=T2 (bT:=bT) (es:=es) (aT:=aT) (av:=av) aqD aD l 1 [some d] iJ;have WY:KO P bT es aT av za (List.range' 1 l.length) [some d] r:=by rw[<-ag];omega
        have iH:av.size=l.length+1:=by rw[<-ale,Y];rfl
        have cw:Region.wanted B (yielded av a.tmps)=true:=by simp_all[Region.wanted]
        have We:∀(v:bp)(V:Value)(fY:e7)(i7:FrameMode),bP ae v V->sM ae fY i7->r.f za [v] T H (λT H=>ce T H fY) (λ_ _ _=>false)=true->
         wpOpsS P av b8 (List.range' 1 l.length) (a.put B.dst V) ({kz with mode:=i7}::eU) w:=by
         intro v V fY i7 aI vn ar
         have sG:=(lW.start bv).aa0 (v:=v) (V:=V) (dg.1 be) Oq aI
         rw[aY]
         refine NY _ _ _ (WY ae H w [v] T _ _ _ _ R sG ar ?_ ?_)
         .intro bG az c6 bz bi bC aX b4 dc;exact D bG az c6 bz bi fY i7 bC aX b4 (vn.mono b4.le) dc
         .intro bG az c6 bz iq V' bi bC aX b4 dc eC;simp_all
        refine wpS_region ?_;rw[List.range_eq_range',iH];show wpOpsS P av b8 (0::List.range' 1 l.length) a ({kz with mode:=m}::eU) w;unfold wpOpsS;simp[aV];rw[ev cw,aiH uf];cases u with
        |ret=>subst hu;exact We (.nil .i) .nilIface .ret .returning (by simp[bP,iS]) rfl h
        |nu v b=>
         obtain⟨V,aI,rfl⟩:=hu;cases b with
         |true=>exact We (.nil .i) .nilIface (.nu v true) _ (by simp[bP,iS]) ⟨V,aI,rfl⟩ h
         |false=>exact We v V (.nu v true) _ aI ⟨V,aI,rfl⟩ h
def JW{es aT}(hm:P.follows .mixedOrders)(aD:oL P):∀c,RT P bT es aT c (wu P es aT c)
 |.seq x y=>by
  intro n call ae H w T a u m ce bJ b8 kz eU gM R bv hu h D F;have M:=JW hm aD (es:=es) (aT:=aT) x;have aE:=JW hm aD (es:=es) (aT:=aT) y;unfold wu at h;split at h
  .exact R2 (xb hm aD (.seq x y)) n call ae H w T a u m ce bJ b8 kz eU gM R bv hu h D F
  .refine wpS_seq (M n call ae H w T a u m _ bJ _ kz eU gM R bv hu h ?_ ?_)
   .intro bG az c6 bz bi fY i7 bC aX b4 dc eC;exact aE n call bG az bi c6 bz fY i7 ce bJ b8 kz eU gM aX bC dc eC (D.step b4) (F.step b4)
   .intro bG az c6 bz bi fY i7 x e bC aX b4 dc eC oy;have:=F bG az c6 bz bi fY i7 x e bC aX b4 dc eC oy;cases x<;>simp only[Hs]at eC
    .subst eC;exact this
    .subst eC;exact this
    .obtain⟨V,_,rfl⟩:=eC;exact this
 |.cond c x y=>by
  intro n call ae H w T a u m ce bJ b8 kz eU gM R bv hu h D F;have M:=JW hm aD (es:=es) (aT:=aT) x;have aE:=JW hm aD (es:=es) (aT:=aT) y;have aQ:=(lW.start bv).wG c;unfold j7 at aQ;unfold wu at h;generalize eF es [] c=DR at h aQ;have⟨DR⟩:=DR;have⟨b,e,aq⟩:=AC h;simp at aQ;rw[e]at aQ;refine wpS_cond aQ ?_;rcases iE aq with⟨aB,aL⟩|⟨aB,aL⟩
  .rw[aB];exact M n call ae H w T a u m ce bJ b8 kz eU gM R bv hu aL D F
  .rw[aB];exact aE n call ae H w T a u m ce bJ b8 kz eU gM R bv hu aL D F
 |.region i av d=>by
  intro n call ae H w T a u m ce bJ b8 kz eU gM R bv hu h D F;unfold wu at h;split at h
  .exact R2 (xb hm aD _) n call ae H w T a u m ce bJ b8 kz eU gM R bv hu h D F
  .exact ci h
  .split at h
   .rename_i r ag;exact aoc aD ag n call ae H w T a u m ce bJ b8 kz eU gM R bv hu h D F
   .exact ci h
 |.skip|.block _ _|.loop _|.rangeFunc .. |.exit _|.scope _|.label _|.goto _|.ret|.refuse _=>by
  intro n call ae H w T a u m ce bJ b8 kz eU gM R bv hu h D F;unfold wu at h;split at h
  .exact R2 (xb hm aD _) n call ae H w T a u m ce bJ b8 kz eU gM R bv hu h D F
  .exact ci h
end
end Go.Ev
