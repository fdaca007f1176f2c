/- Part of the proof of PrinterLines. -/
import Derived.Test.YtddaefckjmdfoaaGreatDoorE8
set_option linter.all false
namespace Go.Ev
open Go
section
variable{P:Program}{es:aO}{aP:Nat}{bI:World}{T:b4}{an:gu}{bg:aO}{gh:cE}{ga:bd}{ii:World}{a0:Act}{rs:Nat->Prop}
variable{b7:Array Bool}{a:Act}{w:World}{aa:cE}{bu:List kV}{H:bd}{b6:List jk}{bm:List jy}
def Sw(aP:Nat)(an:gu)(a0 a:Act):Prop:=a.tmps.size=aP/\a.defers=a0.defers/\∀t,(∀D∈an,D.dst≠some t)->a.tmps.getD t undef=a0.tmps.getD t undef
def Inv.apb(bv:Inv P es aP bI T an bg gh ga ii a0 rs b7 a w aa bu H b6 bm):Sw aP an a0 a:=
 ⟨bv.tmps.size,bv.tmps.defers,λt al=>bv.tmps.kK t λM D bb _=>al D (uo bb)⟩
def Inv.writer(bv:Inv P es aP bI T an bg gh ga ii a0 rs b7 a w aa bu H b6 bm)(gn:bg=iK [] an)(hp:tm an bg 0 an)(sa:TR gh es aP T a0)(Fs:eR ga.next){i}{D}(ay:an[i]?=some D)(ad:i∈Region.ready .any an.toArray b7)(iI:¬nu bu i)(av:∀M,dd (Ev.mk bg i) M->nu bu M)(agy:∀M,rs M->dd (Ev.mk bg i) M){call}(f5:qx P bI call)(aB:oV P){k}{aU}(h:(rt es aP an (fp an bu) D (zF P es (fp an bu) (Ev.mk bg i) D.op)).f call (hr bu) T H b6 bm k aU){ck}{bZ}(gr:∀bF a8 bD v aq gm fE,Inv P es aP bI T an bg gh ga ii a0 (λ_=>False) (b7.setIfInBounds i true) bF a8 bD (⟨i,v,.writer⟩::bu) aq gm fE->k (v::hr bu) aq gm fE->ck bF a8)(CI:∀bF bD aq v V a8,Sw aP an a0 bF->gQ bI bD aq a8->Step gh ga ii bD aq a8->bk bD v V->aU v aq->bZ (.panic [{v:=V,recovered:=false}]) bF a8):wpOp P an.toArray bZ i ck a w:=by
 have aI:=FP (uu.1 ad).1;have gL:i<b7.size:=by rw[bv.size];exact(jb.1 ay).1
 have lU:an.toArray[i]?=some D:=by simpa using ay
 have Jc:∀M,dd (Ev.mk bg i) M=true->b7.getD M false=true:=λM bb=>by subst gn;exact bv.down.ready ad (by simpa using bb)
 have qe:rP es T an aa D bu a:=bv.tmps.looks hp gn bv.down sa bv.lj.le (λe ar=>ar) bv.log ay iI av Jc aI;have dB:∀q∈bm,q.i≠i:=λq ax e=>by have⟨_,_,⟨ci,g1,g2,_⟩,_⟩:=bv.lV q ax;exact iI ⟨ci,g1,g2.trans e⟩
 have kn:∀q∈bm,(b7.setIfInBounds i true).getD q.i false=b7.getD q.i false:=λq ax=>HS false λe=>dB q ax e.symm;have X4:∀e∈bu,∀t N,e.k=.load t N->b7.getD e.i false=false->tE P H t N e.v/\(⟨e.i,N,il P t,e.v⟩:jk)∈b6:=λe ar t N az K=>by have⟨B,F⟩:=bv.tp e ar t N az K;refine⟨B,F.resolve_right λhm=>?_⟩;rw[Jc _ (agy _ hm)] at K;cases K
 obtain⟨aJ,h|h⟩:=afV (i:=i) h
 .have⟨bx,h⟩:=h;have⟨c8,B,F⟩:=akk h;have bx:=bx aa a qe;have anV:∀q∈bm.filter (λq=>dd (Ev.mk bg i) q.i),∀eh∈bm.filter (λq=>dd (Ev.mk bg i) q.i),q.id=eh.id->q=eh:=λq h eh b5=>bv.apart.2 q (kf.1 h).1 eh (kf.1 b5).1;have ai3:∀q∈bm.filter (λq=>dd (Ev.mk bg i) q.i),eR q.id:=λq h=>eN;generalize abe:g9 (bm.filter λq=>dd (Ev.mk bg i) q.i) H=ct at B;have qt:ct.next=H.next:=by rw[<-abe];exact oh _ _
  have Lz:∀x,eR x->(∀q∈bm,dd (Ev.mk bg i) q.i=true->q.id=x->ct.get x=q.obj)/\((∀q∈bm,dd (Ev.mk bg i) q.i=true->q.id≠x)->ct.get x=H.get x):=λx I=>by have⟨g1,g2⟩:=OA I _ H ai3 anV;rw[<-abe];exact⟨λq ax al ar=>g1 q (kf.2 ⟨ax,al⟩) ar,λbf=>g2 λq ax=>bf q (kf.1 ax).1 (kf.1 ax).2⟩
  let X:Nat->Prop:=λx=>∃q∈bm,q.id=x/\b7.getD q.i false=true/\dd (Ev.mk bg i) q.i=false
  have _:DecidablePred X:=λx=>Classical.propDecidable _;have ch:∀x,X x->x<(k6 b7 bm H).next/\ga.next<=x/\(ct.get x).live=false/\((k6 b7 bm H).get x).live=true:=by
   rintro x ⟨q,ax,rfl,K,al⟩;have⟨eY,ex,⟨e,kd,rT,Kn⟩,_⟩:=bv.lV q ax;have I:eR q.id:=eN;refine⟨by rw[rk];exact bv.apart.1 q ax,eY,?_,?_⟩
   .rw[(Lz _ I).2 λeh b5 hS ci=>by rw[bv.apart.2 eh b5 q ax ci,al] at hS;cases hS];exact ex
   .rw[(p7 bv.cap bv.apart I).1 q ax K rfl];have⟨E,lt,_,⟨bs,_,_,_,_,tg⟩,_⟩:=bv.log.Ej e kd;unfold A3 at tg;rw[Kn] at tg;exact tg.2.1
  have Nn:∀x,eR x->¬X x->ct.get x=(k6 b7 bm H).get x\/(ct.get x).live=false:=by
   intro x I pV;by_cases jA:∃q∈bm,b7.getD q.i false=true/\q.id=x
   .have⟨q,g1,g2,g3⟩:=jA;have al:dd (Ev.mk bg i) q.i=true:=by
     cases ax:dd (Ev.mk bg i) q.i with
     |true=>rfl
     |false=>exact absurd ⟨q,g1,g3,g2,ax⟩ pV
    exact .inl (by rw[(Lz x I).1 q g1 al g3,(p7 bv.cap bv.apart I).1 q g1 g2 g3])
   .exact .inl (by rw[(Lz x I).2 λq g1 g2 g3=>jA ⟨q,g1,Jc _ g2,g3⟩,(p7 bv.cap bv.apart I).2 λq g1 g2 g3=>jA ⟨q,g1,g2,g3⟩])
  have zm:∀x,eR x->ct.get x=(k6 b7 bm H).get x\/(ct.get x).live=false:=λx I=>by
   by_cases ax:X x
   .exact .inr (ch x ax).2.2.1
   .exact Nn x I ax
  have CT:ct.next=(k6 b7 bm H).next:=by rw[qt,rk]
  have IC:gQ bI aa ct w:=bv.mH.weaken CT zm;have om:Step gh ga ii aa ct w:=bv.lj.weaken Fs CT zm;have x0:=Zd (es:=es) (ae:=fp an bu) (L:=hr bu) (T:=T) (D:=D) (a:=a) IC f5 aB B (λx I=>qe.wj x I);unfold wpOp;simp only[lU];rw[b3 bx];refine .inl (x0 ck bZ (λbD aq v V a8 bq aS bU cU=>?_) λbD aq v V a8 bq aS bU cU=>CI a bD aq v V a8 bv.apb bq (om.trans aS) bU cU);have⟨bt,b1⟩:=F v aq cU;have A1:Gb aq (kX (Ev.mk bg i) bm):=by
   have:=aS.next;refine⟨λq ax=>?_,λq ax eh js=>?_⟩
   .rw[Ez] at ax;have:=bv.apart.1 q (kf.1 ax).1;omega
   .rw[Ez] at ax js;exact bv.apart.2 q (kf.1 ax).1 eh (kf.1 js).1
  have LK:∀q,q∈kX (Ev.mk bg i) bm↔q∈bm/\dd (Ev.mk bg i) q.i=false:=λq=>by rw[Ez,kf];simp
  have⟨dc,cl⟩:=apc (Gp:=k6 (b7.setIfInBounds i true) (kX (Ev.mk bg i) bm) aq) bv.mH bv.lj bq aS CT X ch Nn (rk _ _ _) (λx I=>by
   by_cases ax:X x
   .rw[b3 ax];have⟨q,g1,g2,g3,g4⟩:=ax;rw[(p7 bq.rel.next A1 I).1 q ((LK q).2 ⟨g1,g4⟩) (by rw[kn q g1];exact g3) g2,(p7 bv.cap bv.apart I).1 q g1 g3 g2]
   .rw[bA ax,(p7 bq.rel.next A1 I).2 λq g1 g2 g3=>?_];have⟨g1,g4⟩:=(LK q).1 g1;exact ax ⟨q,g1,g3,by rw[<-kn q g1];exact g2,g4⟩)
  refine gr _ _ _ v _ _ _ (bv.wrote hp ay ad iI aJ av aS.le bU dc cl A1 (λq ax=>?_) (λq ax K=>(LK q).2 ⟨ax,?_⟩) (λe ar t N az K=>?_) λr fN=>?_) b1
  .have⟨g1,g4⟩:=(LK q).1 ax;have⟨eY,ex,kd,rT⟩:=bv.lV q g1;have aV:=bv.apart.1 q g1;have I:eR q.id:=eN;refine⟨g1,aS.dead _ (by rw[qt];exact aV) ?_,λK=>?_⟩
   .rw[(Lz _ I).2 λeh b5 hS ci=>by rw[bv.apart.2 eh b5 q g1 ci,g4] at hS;cases hS];exact ex
   .rw[aS.hZ _ (by rw[qt];exact aV)];exact rT K
  .cases js:dd (Ev.mk bg i) q.i with
   |false=>rfl
   |true=>rw[Jc _ js] at K;cases K
  .have⟨g1,g2⟩:=X4 e ar t N az K;have hm:dd (Ev.mk bg i) e.i=false:=by
    cases js:dd (Ev.mk bg i) e.i with
    |false=>rfl
    |true=>rw[Jc _ js] at K;cases K
   refine⟨Rq bv.rd bt _ g2 hm t rfl,?_⟩;rw[Mi,kf];exact⟨g2,by simp [hm]⟩
  .rw[Mi,kf] at fN;exact bv.rd r fN.1
 .have⟨bx,h⟩:=h;have bx:=bx aa a qe;have adD:k6 (b7.setIfInBounds i true) bm H=k6 b7 bm H:=by unfold k6;congr 1;exact List.filter_congr λq ax=>kn q ax
  unfold wpOp;simp only[lU];rw[bA (by rw[bx];exact x4)];exact gr _ _ aa .undef H b6 bm (bv.wrote hp ay ad iI aJ av (cE.le_refl _) DN (by rw[adD];exact bv.mH) (by rw[adD];exact bv.lj) bv.apart (λq ax=>⟨ax,(bv.lV q ax).2.1,(bv.lV q ax).2.2.2⟩) (λq ax _=>ax) X4 bv.rd) h
end
def aeg(x y)(call)(L)(T)(H)(b6)(bm)(k)(aU):(FW x y).f call L T H b6 bm k aU=x.f call L T H b6 bm (λL H b6 bm=>y.f call L T H b6 bm k aU) aU:=by cases x;cases y;rfl
section
variable{P:Program}{es:aO}{aP:Nat}{T:b4}{an:gu}{bg:aO}
variable{l:List (Prod aO Nat)}{ju:jo}{b7:Array Bool}
def TN:∀{aQ}{done yp},vp P an bg ju done aQ=some yp->∀M,dd yp M->¬dd done M->∀v,ju=some v->dd (mk bg M) v
 |[],done,yp,h,M,bb,aB,v,au=>by simp only[vp,Option.some.injEq] at h;rw[<-h] at bb;exact absurd bb aB
 |i::aQ,done,yp,h,M,bb,aB,v,au=>by
  unfold vp at h;split at h
  .split at h
   .rename_i aw;simp only[c6] at aw;by_cases MI:M=i
    .have:=aw.2;rw[au] at this;rw[MI];exact this
    .refine TN h M bb (λbf=>?_) v au;rcases E8.1 bf with bf|bf
     .exact aB bf
     .exact MI (Gz.1 bf)
   .cases h
  .cases h
def WO(gn:bg=iK [] an)(bi:Down an.toArray b7):∀{l}{ju l2}{done kJ},xx P an bg ju done l=some (l2,kJ)->∀v,ju=some v->(∃u,l2=some u/\(b7.getD u false->b7.getD v false))/\∀M,dd kJ M->¬dd done M->(∀qm,dd (mk bg M) qm->b7.getD qm false)->b7.getD v false
 |[],ju,l2,done,kJ,h,v,au=>by simp only[xx,Option.some.injEq,Prod.mk.injEq] at h;exact⟨⟨v,by rw[<-h.1];exact au,id⟩,λM bb aB=>by rw[<-h.2] at bb;exact absurd bb aB⟩
 |(aQ,w)::l,ju,l2,done,kJ,h,v,au=>by
  unfold xx at h;split at h
  .rename_i d1 B;split at h
   .rename_i D ay;split at h
    .rename_i aw;simp only[c6] at aw;have YA:dd (mk bg w) v=true:=by have:=aw.2;rw[au] at this;exact this
     have abd:b7.getD w false=true->b7.getD v false=true:=λK=>by subst gn;exact bi.YL (by simpa using ay) K (by simpa using YA)
     have⟨⟨u,F,ah⟩,aE⟩:=WO gn bi h w rfl;refine⟨⟨u,F,λhu=>abd (ah hu)⟩,λM bb aB K=>?_⟩;by_cases uI:dd d1 M=true
     .exact K _ (TN B M uI aB v au)
     .by_cases VB:M=w
      .subst VB;exact K _ YA
      .refine abd (aE M bb (λbf=>?_) K);rcases E8.1 bf with bf|bf
       .exact uI bf
       .exact VB (Gz.1 bf)
    .cases h
   .cases h
  .cases h
structure KM(P:Program)(an:gu)(bg:aO)(kt:aO)(kJ:Nat):Prop where
 all:∀M,M<an.length->dd kJ M=true
def Mg(bg:aO):List (aO×Nat)->jo
 |[]=>none
 |(_,w)::_=>some (mk bg w)
noncomputable def ID(P:Program)(es:aO)(aP:Nat)(T:b4)(an:gu)(bg:aO)(last:aO)(call:cG)(lC:o6)(aU:bl->bd->Bool)(ae:dv)(l:List (aO×Nat)):o6:=
 λL H b6 bm=>(sm P es aP an none (nH an ae l) last).f call L T H b6 bm lC aU
def Lh(P:Program)(es:aO)(aP:Nat)(T:b4)(an:gu)(bg:aO)(last kt:aO)(call:cG)(lC:o6)(aU:bl->bd->Bool)(ow:dv)(l:List (aO×Nat))(ju:jo)(bu:List kV)(H:bd)(b6:List jk)(bm:List jy):Prop:=
 ∃done,yZ done bu/\k3 an (nH an (fp an bu) l) last=ow/\(∃l2 kJ qQ,xx P an bg ju done l=some (l2,kJ)/\vp P an bg l2 kJ last=some qQ/\KM P an bg kt qQ)/\
  (wd P es aP an bg (fp an bu) l).f call (hr bu) T H b6 bm (ID P es aP T an bg last call lC aU (fp an bu) l) aU=true
def Eo(P:Program)(es:aO)(aP:Nat)(T:b4)(an:gu)(bg:aO)(last kt:aO)(call:cG)(lC:o6)(aU:bl->bd->Bool)(ow:dv):List (aO×Nat)->List kV->bd->List jk->List jy->Prop
 |[],bu,H,b6,bm=>fp an bu=ow/\(∃kJ,yZ kJ bu/\KM P an bg kt kJ)/\lC (hr bu) H b6 bm=true
 |(_,w)::l,bu,H,b6,bm=>∃done D,yZ done bu/\an[w]?=some D/\IA P D.op=false/\sub (mk bg w) done=true/\dd done w=false/\k3 an (nH an (D.dst::fp an bu) l) last=ow/\
  (∃l2 kJ qQ,xx P an bg (some w) (Nat.lor done (Nat.pow 2 w)) l=some (l2,kJ)/\vp P an bg l2 kJ last=some qQ/\KM P an bg kt qQ)/\
  (rt es aP an (fp an bu) D (zF P es (fp an bu) (mk bg w) D.op)).f call (hr bu) T H b6 bm
   (λL H b6 bm=>(wd P es aP an bg (D.dst::fp an bu) l).f call L T H b6 bm (ID P es aP T an bg last call lC aU (D.dst::fp an bu) l) aU) aU=true
variable{last kt:aO}{call:cG}{lC:o6}{aU:bl->bd->Bool}{ow:dv}{bu:List kV}{H:bd}{b6:List jk}{bm:List jy}
def Lh.advance(h:Lh P es aP T an bg last kt call lC aU ow l ju bu H b6 bm)(Bw:ni P es aP T an bg bu):∃lv aq gm fE,Eo P es aP T an bg last kt call lC aU ow l lv aq gm fE/\ni P es aP T an bg lv/\rZ P bg (Mg bg l) ju bu H b6 bm lv aq gm fE:=by
 have⟨done,B,F,⟨l2,kJ,qQ,ah,aE,bt⟩,b1⟩:=h
 match l,F,ah,b1 with
 |[],F,ah,b1=>simp only[xx,Option.some.injEq,Prod.mk.injEq] at ah;obtain⟨rfl,rfl⟩:=ah;have b1:(sm P es aP an none (fp an bu) last).f call (hr bu) T H b6 bm lC aU=true:=b1;have⟨lv,aq,gm,fE,bq,aS,bU,cU,eI⟩:=Sh last b1 aE B Bw;exact⟨lv,aq,gm,fE,⟨cU.trans F,⟨qQ,bU,bt⟩,bq⟩,aS,eI⟩
 |(aQ,w)::l,F,ah,b1=>
  unfold xx at ah;split at ah
  .rename_i d1 g1;split at ah
   .rename_i D ay;split at ah
    .rename_i aw;simp only[c6] at aw;obtain⟨⟨⟨dz,gg⟩,mg⟩,vL⟩:=aw;unfold wd at b1;rw[ay] at b1;simp only at b1;rw[aeg] at b1;have⟨lv,aq,gm,fE,bq,aS,bU,cU,eI⟩:=Sh aQ b1 g1 B Bw;have aN:nH an (fp an bu) ((aQ,w)::l)=nH an (D.dst::fp an lv) l:=by show nH an (((an[w]?).bind (·.dst))::k3 an (fp an bu) aQ) l=_;rw[ay,cU];rfl
     refine⟨lv,aq,gm,fE,⟨d1,D,bU,ay,by simpa using dz,gg,by simpa using mg,by rw[<-aN];exact F,⟨l2,kJ,qQ,ah,aE,bt⟩,?_⟩,aS,eI⟩;rw[aeg] at bq;rw[<-cU] at bq;unfold ID at bq ⊢;rw[aN] at bq;exact bq
    .cases ah
   .cases ah
  .cases ah
def Eo.ready{aQ q9 i}(h:Eo P es aP T an bg last kt call lC aU ow ((aQ,q9)::l) bu H b6 bm)(gn:bg=iK [] an)(bi:Down an.toArray b7)(nh:∀M,b7.getD M false->nu bu M)(ad:i∈Region.ready .any an.toArray b7):nu bu i\/i=q9:=by
 have⟨done,D,B,F,ah,aE,bt,b1,⟨l2,kJ,qQ,g1,g2,g3⟩,ep⟩:=h;by_cases aH:nu bu i
 .exact .inl aH
 by_cases bx:i=q9
 .exact .inr bx
 exfalso;have YD:¬b7.getD q9 false=true:=λK=>by have:=(B q9).2 (nh _ K);rw[bt] at this;cases this
 have K:∀qm,dd (mk bg i) qm=true->b7.getD qm false=true:=λqm xN=>by subst gn;exact bi.ready ad (by simpa using xN)
 have⟨⟨u,dz,gg⟩,mg⟩:=WO gn bi g1 q9 rfl;have vf:i<an.length:=by have⟨_,bs,lU,_⟩:=uu.1 ad;have:=(Bj.1 lU).1;simpa using this
 have ael:¬dd (Nat.lor done (Nat.pow 2 q9)) i=true:=λbf=>by
  rcases E8.1 bf with bf|bf
  .exact aH ((B i).1 bf)
  .exact bx (Gz.1 bf)
 have aJ:=g3.all i vf;by_cases abF:dd kJ i=true
 .exact YD (mg i abF ael K)
 .exact YD (gg (K _ (TN g2 i aJ abF u dz)))
def ni.first(gn:bg=iK [] an)(gL:b7.size=an.length):∀{bu},ni P es aP T an bg bu->(∃e∈bu,b7.getD e.i false=false)->∃i,i∈Region.ready .any an.toArray b7
 |[],_,⟨e,ar,_⟩=>by cases ar
 |x::bu,h,⟨e,ar,K⟩=>by
  by_cases jA:∃e∈bu,b7.getD e.i false=false
  .exact ni.first gn gL h.2 jA
  .rcases fS.1 ar with rfl|ar
   .have⟨⟨D,ay,_,av,_,_⟩,_⟩:=h;have aV:=(jb.1 ay).1;refine⟨e.i,acV (by simpa using ay) (Zf Y K) λM bb=>?_⟩;have⟨ci,g1,g2⟩:=av M (by subst gn;simpa using bb);cases ax:b7.getD M false with
    |true=>rfl
    |false=>exact absurd ⟨ci,g1,by rw[g2];exact ax⟩ jA
   .exact absurd ⟨e,ar,K⟩ jA
end
section
variable{P:Program}{es:aO}{aP:Nat}{bI:World}{T:b4}{an:gu}{bg:aO}{gh:cE}{ga:bd}{ii:World}{a0:Act}
def abS{k}:∀(bu){T},(sL es (fp an bu)).f (hr bu) T k->∃cO,k cO/\cO.ae=T.ae/\∀(aa)(a:Act),(∀e∈bu,∀d,(an[e.i]?).bind (·.dst)=some d->bk aa e.v (a.tmps.getD d undef))->∀t s,i2 t es=some s->s<64->(bk aa (T.slot s) (a.tmps.getD t undef)\/∃e∈bu,(an[e.i]?).bind (·.dst)=some t)->bk aa (cO.slot s) (a.tmps.getD t undef)
 |[],T,h=>⟨T,h,rfl,λaa a _ t s _ _ bf=>by
  rcases bf with bf|⟨e,ar,_⟩
  .exact bf
  .cases ar⟩
 |e::bu,T,h=>by
  have bB:=λT=>abS (k:=k) bu (T:=T);unfold fp at h bB;rw[fA] at h;unfold sL at h;generalize sL es (bu.map λe=>(an[e.i]?).bind (·.dst))=r at h bB;have⟨r⟩:=r;simp only at h;have same:r (hr bu) T k=true->(∀d,(an[e.i]?).bind (·.dst)=some d->i2 d es=none)->∃cO,k cO=true/\cO.ae=T.ae/\∀(aa:cE)(a:Act),
   (∀ci∈e::bu,∀d,(an[ci.i]?).bind (·.dst)=some d->bk aa ci.v (a.tmps.getD d undef))->∀t s,i2 t es=some s->s<64->(bk aa (T.slot s) (a.tmps.getD t undef)\/∃ci∈e::bu,(an[ci.i]?).bind (·.dst)=some t)->bk aa (cO.slot s) (a.tmps.getD t undef):=by
   intro h aB
   have⟨cO,bq,aS,bU⟩:=bB T h
   refine⟨cO,bq,aS,λaa a au t s al ak bf=>bU aa a (λci ls=>au ci (by simp [ls])) t s al ak ?_⟩
   rcases bf with bf|⟨ci,ls,aJ⟩
   .exact .inl bf
   .rcases fS.1 ls with rfl|ls
    .rw[aB t aJ] at al;cases al
    .exact .inr ⟨ci,ls,aJ⟩
  cases aJ:(an[e.i]?).bind (·.dst) with
  |none=>rw[aJ] at h;exact same h λd kP=>by rw[aJ] at kP;cases kP
  |some d=>
   rw[aJ] at h;simp only at h;split at h
   .rename_i aH;exact same h λjx kP=>by rw[aJ] at kP;cases kP;exact aH
   .rename_i i aH;split at h
    .rename_i N ak hp;have bt:(xZ i).N T (Ev.aJ (hr (e::bu))) (λT=>r (hr bu) T k)=true:=by rw[hp];exact h
     rw[JN] at bt;have⟨cO,bq,aS,bU⟩:=bB _ bt;refine⟨cO,bq,by rw[aS,b4.Kq],λaa a au t s al oq bf=>bU aa a (λci ls=>au ci (by simp [ls])) t s al oq ?_⟩;rw[b4.OC _ _ _ _ (cZ.1 ak) oq];by_cases qE:s=i
     .have ae2:t=d:=aao (by rw[<-qE];exact al) aH;rw[b3 qE,ae2];exact .inl (au e (by simp) d aJ)
     .rw[bA qE];rcases bf with bf|⟨ci,ls,kP⟩
      .exact .inl bf
      .rcases fS.1 ls with rfl|ls
       .rw[aJ] at kP;cases kP;rw[aH] at al;cases al;exact absurd rfl qE
       .exact .inr ⟨ci,ls,kP⟩
    .exact bS h
def adi{L k}:∀(an){T},(uO es an).f L T k->∃cO,k cO/\cO.ae=T.ae/\∀(aa)(a:Act),∀t s,i2 t es=some s->s<64->(bk aa (T.slot s) (a.tmps.getD t undef)\/∃D∈an,D.dst=some t)->bk aa (cO.slot s) (a.tmps.getD t undef)
 |[],T,h=>⟨T,h,rfl,λaa a t s _ _ bf=>by
  rcases bf with bf|⟨e,ar,_⟩
  .exact bf
  .cases ar⟩
 |D::l,T,h=>by
  have bB:=λT=>adi (L:=L) (k:=k) l (T:=T);unfold uO at h;generalize uO es l=r at h bB;have⟨r⟩:=r;simp only at h;have same:r L T k=true->(∀d,D.dst=some d->i2 d es=none)->∃cO,k cO=true/\cO.ae=T.ae/\∀(aa:cE)(a:Act),
   ∀t s,i2 t es=some s->s<64->(bk aa (T.slot s) (a.tmps.getD t undef)\/∃bs∈D::l,bs.dst=some t)->bk aa (cO.slot s) (a.tmps.getD t undef):=by
   intro h aB
   have⟨cO,bq,aS,bU⟩:=bB T h
   refine⟨cO,bq,aS,λaa a t s al ak bf=>bU aa a t s al ak ?_⟩
   rcases bf with bf|⟨ci,ls,aJ⟩
   .exact .inl bf
   .rcases fS.1 ls with rfl|ls
    .rw[aB t aJ] at al;cases al
    .exact .inr ⟨ci,ls,aJ⟩
  cases aJ:D.dst with
  |none=>rw[aJ] at h;exact same h λd kP=>by rw[aJ] at kP;cases kP
  |some d=>
   rw[aJ] at h;simp only at h;split at h
   .rename_i aH;exact same h λjx kP=>by rw[aJ] at kP;cases kP;exact aH
   .rename_i i aH;split at h
    .rename_i N ak hp;have bt:(xZ i).N T .any (λT=>r L T k)=true:=by rw[hp];exact h
     rw[JN] at bt;have⟨cO,bq,aS,bU⟩:=bB _ bt;refine⟨cO,bq,by rw[aS,b4.Kq],λaa a t s al oq bf=>bU aa a t s al oq ?_⟩;rw[b4.OC _ _ _ _ (cZ.1 ak) oq];by_cases qE:s=i
     .rw[b3 qE];exact .inl (CV _)
     .rw[bA qE];rcases bf with bf|⟨ci,ls,kP⟩
      .exact .inl bf
      .rcases fS.1 ls with rfl|ls
       .rw[aJ] at kP;cases kP;rw[aH] at al;cases al;exact absurd rfl qE
       .exact .inr ⟨ci,ls,kP⟩
    .exact bS h
end
def sl(b7:Array Bool):Nat->Nat
 |0=>0
 |n+1=>sl b7 n+(if b7.getD n false=true then 0 else 1)
variable{H:bd}{bZ:Exit->Act->World->Prop}{a:Act}{c:Code}{bz:X->b4->bd->Bool}{b7:Array Bool}{w:World}{aa:cE}
def aeE:∀{n},sl b7 n=0->∀M,M<n->b7.getD M false
 |0,_,M,bb=>Y
 |n+1,h,M,bb=>by
  unfold sl at h;have B:sl b7 n=0:=Y;by_cases v9:M=n
  .subst v9;by_cases ax:b7.getD M false=true
   .exact ax
   .rw[bA ax] at h;omega
  .exact aeE B M Y
def acL{b7}(i):∀n,sl (b7.setIfInBounds i true) n<=sl b7 n
 |0=>ez _
 |n+1=>by
  unfold sl;have:=acL (b7:=b7) i n;by_cases ax:b7.getD n false=true
  .rw[b3 ax,b3 (zT ax)];omega
  .rw[bA ax];split<;>omega
def abw{i b7}(aH:b7.getD i false=false)(ak:i<b7.size):∀{n},i<n->sl (b7.setIfInBounds i true) n<sl b7 n
 |0,h=>Y
 |n+1,h=>by
  unfold sl;by_cases vf:i=n
  .subst vf;have:=acL (b7:=b7) i i;rw[b3 (by simp [ak]),bA (by rw[aH];exact x4)];omega
  .have:=abw aH ak (n:=n) Y;rw[HS false vf];omega
section
variable{P:Program}{es:aO}{aP:Nat}{bI:World}{T:b4}{an:gu}{bg:aO}{gh:cE}{ga:bd}{ii:World}{a0:Act}
def aj0{bu Ld k}(sa:TR gh es aP T a0)(al:Cs aP an b7 a a0 aa bu)(m9:∀e∈bu,b7.getD e.i false=true)(u9:∀M D d,an[M]?=some D->D.dst=some d->nu bu M)(R:gQ bI aa Ld w)(S:Step gh ga ii aa Ld w)(kN:(sL es (fp an bu)).f (hr bu) T (λT=>k T Ld)=true)(az:t6 bZ bI es aP gh ga ii k):bZ .normal a w:=by
 have⟨cO,B,F,ah⟩:=abS bu kN;refine az aa Ld cO a w ⟨al.size,λt s ak aV=>ah aa a (λe ar d aJ=>?_) t s ak aV ?_,by rw[F,al.defers];exact sa.defers.mono S.le⟩ R S B
 .cases ay:an[e.i]? with
  |none=>rw[ay] at aJ;cases aJ
  |some D=>rw[ay] at aJ;exact al.val e ar (m9 e ar) D d ay aJ
 .by_cases jA:∃e∈bu,(an[e.i]?).bind (·.dst)=some t
  .exact .inr jA
  .refine .inl ?_;rw[al.kK t λM D bb K aJ=>?_]
   .exact bk.mono S.le _ _ (sa.tmp t s ak aV)
   .have⟨e,ar,kc⟩:=u9 M D t bb aJ;exact jA ⟨e,ar,by rw[kc,bb];exact aJ⟩
end
section
variable{P:Program}{es:aO}{aP:Nat}{bI:World}{T:b4}{an:gu}{bg:aO}{gh:cE}{ga:bd}{ii:World}{a0:Act}
noncomputable def AG(P:Program)(es:aO)(T:b4)(an:gu)(ow:dv)(kt:aO)(k:b4->bd->Bool):o6:=λL H _ bm=>
 CB bm H λH=>(sL es ow).f L T λT=>k T H
variable{last kt:aO}{call:cG}{k:b4->bd->Bool}{aU:bl->bd->Bool}{ow:dv}
def aky(gn:bg=iK [] an)(hp:tm an bg 0 an)(sa:TR gh es aP T a0)(Fs:eR ga.next)(f5:qx P bI call)(aB:oV P)(az:t6 bZ bI es aP gh ga ii k)(CI:∀bF bD aq v V a8,Sw aP an a0 bF->gQ bI bD aq a8->Step gh ga ii bD aq a8->bk bD v V->aU v aq->bZ (.panic [{v:=V,recovered:=false}]) bF a8):∀(E7){b7}{a}{w}{aa}{bu}{H}{b6}{bm}{l},sl b7 an.length<=E7->Inv P es aP bI T an bg gh ga ii a0 (λi=>∀m,Mg bg l=some m->dd m i) b7 a w aa bu H b6 bm->Eo P es aP T an bg last kt call (AG P es T an ow kt k) aU ow l bu H b6 bm->wpAny P .any an.toArray bZ E7 b7 a w:=by
 have lC:∀{b7:Array Bool}{a:Act}{w:World}{aa:cE}{bu:List kV}{H:bd}{b6:List jk}{bm:List jy}{l:List (aO×Nat)},(∀M,M<an.length->b7.getD M false=true)->
  Inv P es aP bI T an bg gh ga ii a0 (λi=>∀m,Mg bg l=some m->dd m i=true) b7 a w aa bu H b6 bm->Eo P es aP T an bg last kt call (AG P es T an ow kt k) aU ow l bu H b6 bm->bZ .normal a w:=by
  intro b7 a w aa bu H b6 bm l m9 bv cM
  cases l with
  |cons l2 l=>have⟨aQ,q9⟩:=l2;have⟨done,D,B,F,ah,aE,bt,_⟩:=cM;have:=(B q9).2 (bv.sub q9 (m9 q9 (jb.1 F).1));rw[bt] at this;cases this
  |nil=>
   have⟨B,⟨kJ,F,ah⟩,aE⟩:=cM;unfold AG at aE;rw[UR] at aE;have aE:(sL es ow).f (hr bu) T (λT=>k T (g9 bm H))=true:=aE;rw[<-B] at aE;have ar:k6 b7 bm H=g9 bm H:=by unfold k6;congr 1;refine List.filter_eq_self.2 λq ax=>?_;have⟨_,_,⟨e,ar,kc,_⟩,_⟩:=bv.lV q ax;have⟨_,_,_,⟨D,ay,_⟩,_⟩:=bv.log.Ej e ar;rw[<-kc];exact m9 _ (jb.1 ay).1
   refine aj0 sa bv.tmps (λe ar=>?_) (λM D d bb aJ=>?_) (ar▸bv.mH) (ar▸bv.lj) aE az
   .have⟨_,_,_,⟨D,ay,_⟩,_⟩:=bv.log.Ej e ar;exact m9 _ (jb.1 ay).1
   .exact bv.sub M (m9 M (jb.1 bb).1)
 have ai1:∀{b7:Array Bool}{a:Act}{w:World}{aa:cE}{bu:List kV}{H:bd}{b6:List jk}{bm:List jy}{l:List (aO×Nat)},
  Inv P es aP bI T an bg gh ga ii a0 (λi=>∀m,Mg bg l=some m->dd m i=true) b7 a w aa bu H b6 bm->Eo P es aP T an bg last kt call (AG P es T an ow kt k) aU ow l bu H b6 bm->
  Region.ready .any an.toArray b7=[]->∀M,M<an.length->b7.getD M false=true:=by
  intro b7 a w aa bu H b6 bm l bv cM Pa
  have V0:∀M,nu bu M->b7.getD M false=true:=by
   rintro M ⟨e,ar,rfl⟩;cases ax:b7.getD e.i false with
   |true=>rfl
   |false=>have⟨i,aH⟩:=bv.log.first gn bv.size ⟨e,ar,ax⟩;rw[Pa] at aH;cases aH
  have none:∀M D,an[M]?=some D->(∀qm,dd (Ev.mk bg M) qm=true->nu bu qm)->b7.getD M false=true:=by
   intro M D ay av;have bb:=(jb.1 ay).1;cases ax:b7.getD M false with
   |true=>rfl
   |false=>have:=acV (an:=an.toArray) (i:=M) (D:=D) (by simpa using ay) (Zf (by rw[bv.size];exact bb) ax) λqm xN=>V0 qm (av qm (by subst gn;simpa using xN));rw[Pa] at this;cases this
  cases l with
  |cons l2 l=>have⟨aQ,q9⟩:=l2;have⟨done,D,B,F,ah,aE,bt,_⟩:=cM;have:=none q9 D F λqm xN=>(B qm).1 (PZ aE xN);have:=(B q9).2 (bv.sub q9 this);rw[bt] at this;cases this
  |nil=>have⟨B,⟨kJ,F,ah⟩,aE⟩:=cM;intro M bb;exact V0 M ((F M).1 (ah.all M bb))
 intro E7;induction E7 with
 |zero=>
  intro b7 a w aa bu H b6 bm l hu bv cM;have m9:=aeE (Nat.le_zero.1 hu);refine⟨?_,lC m9 bv cM⟩;cases ax:Region.ready .any an.toArray b7 with
  |nil=>rfl
  |cons i l=>
   have aH:i∈Region.ready .any an.toArray b7:=by rw[ax];simp
   have aI:=FP (uu.1 aH).1;have vf:i<an.length:=by have⟨_,bs,lU,_⟩:=uu.1 aH;have:=(Bj.1 lU).1;simpa using this
   rw[m9 i vf] at aI;cases aI
 |succ E7 bB=>
  intro b7 a w aa bu H b6 bm l hu bv cM;refine⟨λPa=>lC (ai1 bv cM Pa) bv cM,λi aH=>?_⟩;have aI:=FP (uu.1 aH).1;have vf:i<an.length:=by have⟨_,bs,lU,_⟩:=uu.1 aH;have:=(Bj.1 lU).1;simpa using this
  have u3:sl (b7.setIfInBounds i true) an.length<=E7:=by have:=abw aI (by rw[bv.size];exact vf) vf;omega
  by_cases K0:nu bu i
  .exact bv.LW gn hp sa aH K0 λbF a8 bD O1=>bB u3 O1 cM
  cases l with
  |cons l2 l=>
   have⟨aQ,q9⟩:=l2;have aom:=(cM.ready gn bv.down bv.sub aH).resolve_left K0;subst aom;have⟨done,D,B,F,ah,aE,bt,b1,ep,fm⟩:=cM;have av:∀M,dd (Ev.mk bg i) M=true->nu bu M:=λM bb=>(B M).1 (PZ aE bb);refine bv.writer gn hp sa Fs F aH K0 av (λM bb=>bb _ rfl) f5 aB fm (λbF a8 bD v aq gm fE O1 Ie=>?_) CI;have AW:fp an ((⟨i,v,.writer⟩:kV)::bu)=D.dst::fp an bu:=by show((an[i]?).bind (·.dst))::fp an bu=_;rw[F];rfl
   have im:Lh P es aP T an bg last kt call (AG P es T an ow kt k) aU ow l (some i) (⟨i,v,.writer⟩::bu) aq gm fE:=
    ⟨Nat.lor done (Nat.pow 2 i),B.add ⟨i,v,.writer⟩,by rw[AW];exact b1,ep,by rw[AW];exact Ie⟩
   have⟨Uy,hM,Ea,Ai,g1,g2,g3⟩:=im.advance O1.log;exact bB u3 (O1.grow Fs g3 g2) g1
  |nil=>have⟨B,⟨kJ,F,ah⟩,aE⟩:=cM;exact absurd ((F i).1 (ah.all i vf)) K0
end
section
variable{P:Program}{es:aO}{aP:Nat}{bI:World}
def akc{n M:Nat}:dd (Nat.pow 2 n - 1) M=true↔M<n:=by rw[B4];show(2 ^ n - 1).testBit M=true↔_;rw[Nat.testBit_two_pow_sub_one];simp
def akB{bg an pl}(h:xV P bg an pl):tm an bg 0 an/\∃l2 kJ qQ,xx P an bg none 0 pl.oe=some (l2,kJ)/\vp P an bg l2 kJ pl.last=some qQ/\KM P an bg pl.kt qQ:=by
 unfold xV at h;simp only[c6] at h;have⟨⟨B,_⟩,F⟩:=h;refine⟨B,?_⟩;split at F
 .rename_i l2 kJ aou;split at F
  .rename_i qQ K;refine⟨l2,kJ,qQ,aou,K,?_⟩;split at F
   .rename_i al;have:=cF.1 F;exact⟨λM bb=>by rw[this];exact akc.2 bb⟩
   .cases F
  .cases F
 .cases F
def gQ.drew(R:gQ bI aa H w):gQ bI aa H w.drew:=⟨R.rel.drew,R.jr.step (Step.drew aa H w)⟩
def agq(hm:P.follows .mixedOrders){id}{an}{call}(f5:qx P bI call)(aB:oV P){aa}{H}{w}{T}{a}{k}{aU}{bZ}(R:gQ bI aa H w)(bv:TR aa es aP T a)(h:(Eu P es aP an.toList).f call [] T H k aU)(B:t6 bZ bI es aP aa H w k)(F:wk bZ bI es aP aa H w aU):(Code.region id an true).wp P bZ a w:=by
 refine wp_region_any hm ?_;show wpAny P .any an bZ an.size (Array.replicate an.size false) a w.drew;have tP:=R.drew;have so:=B.step (Step.drew aa H w);have OL:=F.step (Step.drew aa H w);generalize w.drew=ii at tP so OL;generalize ZU:an.toList=k1 at h;have gL:an.size=k1.length:=by rw[<-ZU];simp
 have sD:an=k1.toArray:=by rw[<-ZU]
 unfold Eu Kz at h;generalize gn:iK [] k1=bg at h;generalize CF P bg k1=pl at h;cases AN:xV P bg k1 pl with
 |false=>rw[AN] at h;exact bS h
 |true=>
  rw[AN] at h;simp only at h;have⟨hp,l2,kJ,qQ,g1,g2,g3⟩:=akB AN;have apF:=λk=>adi (es:=es) (L:=[]) (k:=k) k1 (T:=T);have cM:(wd P es aP k1 bg [] pl.oe).f call [] T H [] [] (ID P es aP T k1 bg pl.last call (AG P es T k1 (k3 k1 (nH k1 [] pl.oe) pl.last) pl.kt k) (λv H=>(uO es k1).f [] T λT=>aU T v H) [] pl.oe)
   (λv H=>(uO es k1).f [] T λT=>aU T v H)=true:=by
   unfold ID AG
   generalize wd P es aP k1 bg [] pl.oe=qh at h ⊢
   generalize sm P es aP k1 none (nH k1 [] pl.oe) pl.last=s4 at h ⊢
   generalize sL es (k3 k1 (nH k1 [] pl.oe) pl.last)=jw at h ⊢
   generalize uO es k1=Cb at h ⊢
   have⟨qh⟩:=qh
   have⟨s4⟩:=s4
   have⟨jw⟩:=jw
   have⟨Cb⟩:=Cb
   exact h
  have im:Lh P es aP T k1 bg pl.last pl.kt call (AG P es T k1 (k3 k1 (nH k1 [] pl.oe) pl.last) pl.kt k) (λv H=>(uO es k1).f [] T λT=>aU T v H) (k3 k1 (nH k1 [] pl.oe) pl.last) pl.oe none [] H [] []:=
   ⟨0,λM=>⟨λh=>absurd h Q1,λ⟨e,ar,_⟩=>by cases ar⟩,rfl,⟨l2,kJ,qQ,g1,g2,g3⟩,cM⟩
  have aI:∀M,(Array.replicate an.size false).getD M false=false:=λM=>by simp only[zn,Array.getElem?_replicate];split<;>rfl
  have iR:Inv P es aP bI T k1 bg aa H ii a (λ_=>False) (Array.replicate an.size false) a ii aa [] H [] []:=by
   refine⟨by simp [gL],λi D ay K=>?_,trivial,λM bb=>?_,λe ar=>(by cases ar),⟨bv.size,rfl,λe ar=>(by cases ar),λ_ _=>rfl⟩,tP,Step.refl _ _ _,⟨λq ax=>(by cases ax),λq ax=>(by cases ax)⟩,λq ax=>(by cases ax),λe ar=>(by cases ar),λe ar=>(by cases ar),λr ad=>(by cases ad)⟩
   .rw[aI i] at K;cases K
   .rw[aI M] at bb;cases bb
  have⟨lv,aq,gm,fE,bq,aS,bU⟩:=im.advance trivial;have jN:=aky (bZ:=bZ) gn.symm hp bv R.rel.next f5 aB so (aU:=λv H=>(uO es k1).f [] T λT=>aU T v H) (λbF bD aq v V a8 ay dc cl hD lS=>by
   have⟨cO,eY,ex,kd⟩:=apF _ lS;refine OL bD aq cO bF v V a8 ⟨ay.1,λt s ak aV=>kd bD bF t s ak aV ?_,by rw[ex,ay.2.1];exact bv.defers.mono cl.le⟩ dc cl hD eY;by_cases jA:∃D∈k1,D.dst=some t
   .exact .inr jA
   .refine .inl ?_;rw[ay.2.2 t λD lU aJ=>jA ⟨D,lU,aJ⟩];exact bk.mono cl.le _ _ (bv.tmp t s ak aV)) an.size (l:=pl.oe) ?_ (iR.grow R.rel.next bU aS) bq
  .rw[<-sD] at jN;exact jN
  .rw[gL];have:∀(n m:Nat),sl (Array.replicate m false) n<=n:=by
    intro n m;induction n with
    |zero=>exact ez _
    |succ n bB=>unfold sl;split<;>omega
   exact this _ _
end
section
variable{P:Program}{es:aO}{aP:Nat}{bI:World}
def s6(aa:cE):X->Exit->Prop
 |.exit i,e=>e=.exit i
 |.ret,e=>e=.ret
 |.panic v,e=>∃V,bk aa v V/\e=.panic [{v:=V,recovered:=false}]
def GR(bZ:Exit->Act->World->Prop)(bI:World)(es:aO)(aP:Nat)(aa:cE)(H:bd)(w:World)(bz:X->b4->bd->Bool):Prop:=
 ∀bD aq cO bF a8 x e,TR bD es aP cO bF->gQ bI bD aq a8->Step aa H w bD aq a8->s6 bD x e->bz x cO aq=true->bZ e bF a8
def GR.step{nN ct dg}(h:GR bZ bI es aP aa H w bz)(s:Step aa H w nN ct dg):GR bZ bI es aP nN ct dg bz:=
 λbD aq cO bF a8 x e B F ah aE bt=>h bD aq cO bF a8 x e B F (s.trans ah) aE bt
def OV(P:Program)(c:Code)(bZ:Exit->Act->World->Prop)(a:Act)(w:World):Prop:=
 ∀(b:Frame)(k:List Item)(d8:List Frame),∃e bF a8,bZ e bF a8/\Arrives P (lone (b.at a (.code c::.inLoop c::k)) d8 w) b k d8 e bF a8
def apz(h:OV P c bZ a w):(Code.loop c).wp P bZ a w:=
 λb k d8=>let⟨e,bF,a8,q,r⟩:=h b k d8;⟨e,bF,a8,q,.of_steps (.one step_loop) r⟩
def apl(h:c.wp P (Exit.then (OV P c bZ) bZ) a w):OV P c bZ a w:=by
 intro b k d8;have⟨e,HD,IM,ax,sD⟩:=h b (.inLoop c::k) d8;cases e with
 |normal=>have⟨aoT,ajG,ajn,aeR,aob⟩:=ax b k d8;exact⟨aoT,ajG,ajn,aeR,.of_steps (Steps.trans sD (.one step_inLoop)) aob⟩
 |exit id=>exact⟨_,HD,IM,ax,.pass (x:=.inLoop c) rfl (λ_ _=>.inl (by simp)) sD⟩
 |goto l=>exact⟨_,HD,IM,ax,.pass (x:=.inLoop c) rfl (λ_ _=>.inl (by simp)) sD⟩
 |ret=>exact⟨_,HD,IM,ax,.pass (x:=.inLoop c) rfl (λ_ _=>.inl (by simp)) sD⟩
 |panic asF=>exact⟨_,HD,IM,ax,.pass (x:=.inLoop c) rfl (λ_ _=>.inl (by simp)) sD⟩
 |outgrown=>exact⟨_,HD,IM,ax,.pass (x:=.inLoop c) rfl (λ_ _=>.inl (by simp)) sD⟩
def acA(P:Program)(bI:World)(es:aO)(aP:Nat)(c:Code)(f:Od):Prop:=
 ∀(n:Nat)(call:cG)(aa:cE)(H:bd)(w:World)(T:b4)(a:Act)(b0:b4->bd->Bool)(bz:X->b4->bd->Bool)(bZ:Exit->Act->World->Prop),qx P bI call->gQ bI aa H w->TR aa es aP T a->
  f.f n call T H b0 bz=true->t6 bZ bI es aP aa H w b0->GR bZ bI es aP aa H w bz->c.wp P bZ a w
def XP(h:GR bZ bI es aP aa H w bz):wk bZ bI es aP aa H w λT v H=>bz (.panic v) T H:=
 λbD aq cO bF v V a8 B F ah aE bt=>h bD aq cO bF a8 (.panic v) _ B F ah ⟨V,aE,rfl⟩ bt
def wU(hm:P.follows .mixedOrders)(aB:oV P):∀c,acA P bI es aP c (iW P es aP c)
 |.skip=>by intro n call aa H w T a b0 bz bZ f5 R bv h B F;exact wp_skip (B aa H T a w bv R (Step.refl _ _ _) h)
 |.region id an d=>by
  intro n call aa H w T a b0 bz bZ f5 R bv h B F;cases d with
  |false=>
   have ak:=Tl (es:=es) (aP:=aP) f5 aB an.toList 0 [] (λM D bb=>by simpa using bb);unfold iW at h;generalize uv P es aP an [] an.toList=r at h ak;have⟨r⟩:=r;refine wp_region ?_;have:=ak aa H w [] T a b0 _ bZ R (ll.start bv) h B (XP F);rw[List.range_eq_range'];have e:an.toList.length=an.size:=by simp
   rw[e] at this;exact Lv _ _ _ this
  |true=>unfold iW at h;have dC:∀k aU,(Eu P es aP an.toList).f call [] T H k aU=true->t6 bZ bI es aP aa H w k->wk bZ bI es aP aa H w aU->(Code.region id an true).wp P bZ a w:=λk aU=>agq hm f5 aB R bv;generalize Eu P es aP an.toList=r at h dC;have⟨r⟩:=r;exact dC b0 _ h B (XP F)
 |.seq x y=>by
  intro n call aa H w T a b0 bz bZ f5 R bv h B F;have I:=wU hm aB x;have ap:=wU hm aB y;unfold iW at h;generalize iW P es aP x=oT at h I;generalize iW P es aP y=u4 at h ap;have⟨oT⟩:=oT;have⟨u4⟩:=u4;refine wp_seq (I n call aa H w T a _ bz _ f5 R bv h ?_ ?_)
  .intro bD aq cO bF a8 bq aS bU cU;exact ap n call bD aq a8 cO bF b0 bz bZ f5 aS bq cU (B.step bU) (F.step bU)
  .intro bD aq cO bF a8 x e bq aS bU cU eI;have:=F bD aq cO bF a8 x e bq aS bU cU eI;cases x<;>simp only[s6] at cU
   .subst cU;exact this
   .subst cU;exact this
   .obtain⟨V,_,rfl⟩:=cU;exact this
 |.cond c x y=>by
  intro n call aa H w T a b0 bz bZ f5 R bv h B F;have I:=wU hm aB x;have ap:=wU hm aB y;have aw:=(ll.start bv).wj c;unfold i1 at aw;unfold iW at h;generalize db es [] c=tK at h aw;generalize iW P es aP x=oT at h I;generalize iW P es aP y=u4 at h ap;have⟨tK⟩:=tK;have⟨oT⟩:=oT;have⟨u4⟩:=u4;have⟨b,e,ah⟩:=Ak h;simp only at aw;rw[e] at aw;simp only[bk] at aw;refine wp_cond aw ?_;rcases ic ah with⟨av,aE⟩|⟨av,aE⟩
  .rw[av,b3 rfl];exact I n call aa H w T a b0 bz bZ f5 R bv aE B F
  .rw[av,bA ag];exact ap n call aa H w T a b0 bz bZ f5 R bv aE B F
 |.block id c=>by
  intro n call aa H w T a b0 bz bZ f5 R bv h B F;have I:=wU hm aB c;unfold iW at h;generalize iW P es aP c=oT at h I;have⟨oT⟩:=oT;refine wp_block (I n call aa H w T a b0 _ _ f5 R bv h (λbD aq cO bF a8 bq aS bU cU=>B bD aq cO bF a8 bq aS bU cU) ?_);intro bD aq cO bF a8 x e bq aS bU cU eI;cases x with
  |exit i=>
   simp only[s6] at cU;subst cU;simp only[aeS] at eI;simp only[Exit.inBlock];rcases ic eI with⟨av,aE⟩|⟨av,aE⟩
   .rw[b3 (cF.1 av)];exact B bD aq cO bF a8 bq aS bU aE
   .rw[bA (ts av)];exact F bD aq cO bF a8 (.exit i) _ bq aS bU rfl aE
  |ret=>simp only[s6] at cU;subst cU;exact F bD aq cO bF a8 .ret _ bq aS bU rfl eI
  |panic v=>simp only[s6] at cU;obtain⟨V,au,rfl⟩:=cU;exact F bD aq cO bF a8 (.panic v) _ bq aS bU ⟨V,au,rfl⟩ eI
 |.loop c=>by
  intro n call aa H w T a b0 bz bZ f5 R bv h B F;have I:=wU hm aB c;unfold iW at h;generalize iW P es aP c=oT at h I;have⟨oT⟩:=oT;refine apz ?_;have dC:∀(m:Nat)(nN:cE)(ct:bd)(dg:World)(mj:b4)(bN:Act),gQ bI nN ct dg->TR nN es aP mj bN->Step aa H w nN ct dg->EP (λba T H=>oT n call T H ba bz) m mj ct=true->OV P c bZ bN dg:=by
   intro m;induction m with
   |zero=>intro nN ct dg mj bN _ _ _ K;rw[apd] at K;exact bS K
   |succ m bB=>
    intro nN ct dg mj bN IC aiL om K;rw[Qe] at K;refine apl (I n call nN ct dg mj bN _ bz _ f5 IC aiL K ?_ ?_)
    .intro bD aq cO bF a8 bq aS bU cU;exact bB bD aq a8 cO bF aS bq (om.trans bU) cU
    .intro bD aq cO bF a8 x e bq aS bU cU eI;have:=F bD aq cO bF a8 x e bq aS (om.trans bU) cU eI;cases x<;>simp only[s6] at cU
     .subst cU;exact this
     .subst cU;exact this
     .obtain⟨V,_,rfl⟩:=cU;exact this
  exact dC n aa H w T a R bv (Step.refl _ _ _) h
 |.exit i=>by intro n call aa H w T a b0 bz bZ f5 R bv h B F;exact wp_exit (F aa H T a w (.exit i) _ bv R (Step.refl _ _ _) rfl h)
 |.ret=>by intro n call aa H w T a b0 bz bZ f5 R bv h B F;exact wp_ret (F aa H T a w .ret _ bv R (Step.refl _ _ _) rfl h)
 |.rangeFunc .. |.scope _|.label _|.goto _|.refuse _=>by intro n call aa H w T a b0 bz bZ f5 R bv h B F;exact bS h
end
end Go.Ev
