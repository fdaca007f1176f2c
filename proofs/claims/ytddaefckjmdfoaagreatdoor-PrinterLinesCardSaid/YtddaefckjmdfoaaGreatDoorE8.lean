/- Part of the proof of PrinterLines. -/
import Derived.Test.YtddaefckjmdfoaaGreatDoorE7
set_option linter.all false
namespace Go.Ev
open Go
section
variable{P:Program}{es:aO}{aP:Nat}{T:b4}{an:gu}
def fx(P:Program)(i:Nat)(gb:Bool)(e:kV)(H aq:bd)(b6 gm:List jk)(bm fE:List jy):Prop:=match e.k with
 |.pure=>aq=H/\gm=b6/\fE=bm
 |.load t N=>aq=H/\fE=bm/\tE P H t N e.v/\gm=if gb then⟨i,N,il P t,e.v⟩::b6 else b6
 |.alloc id bH=>id=H.next/\eR H.next/\aq=⟨H.next+1,H.t⟩/\gm=b6/\fE=⟨i,id,bH⟩::bm
 |.writer=>False
variable{H:bd}{call:cG}{i:Nat}{k:Ev.o6}{aU:bl->bd->Bool}{bu:List kV}{D:Oper}{bm:List jy}{b6:List jk}{gb:Bool}
def rP.wj{aa a}(h:rP es T an aa D bu a):∀x∈D.op.operands.toList,i1 aa es (fp an bu) (hr bu) T a x:=by intro x I;refine i1.ac3 λt al=>h t ?_;unfold looks Zw;refine EB _ (List.mem_filterMap.2 ⟨x,I,?_⟩);rw[al]
def rP.guard{aa}{D}{bu}{a}(h:rP es T an aa D bu a){M}{k2}(br:D.guard=some (M,k2)){d:Nat}(aJ:(an[M]?).bind (·.dst)=some d):wx aa es (fp an bu) (hr bu) T a d:=by refine h d ?_;unfold looks;refine FU _ ?_;rw[br];simp [aJ]
def adq(bx:∀aa a,rP es T an aa D bu a->Region.wanted D (yielded an.toArray a.tmps))(h:(ph P es (fp an bu) i gb D.op).f call (hr bu) T H b6 bm k aU):∃e aq gm fE,e.i=i/\A3 P es T an bu e D/\k (e.v::hr bu) aq gm fE/\fx P i gb e H aq b6 gm bm fE:=by
 generalize dT:D.op=op at h;unfold ph at h;split at h
 .rename_i t x;have oY:∀w,tE P H t ((db es (fp an bu) x).g (hr bu) T) w->A3 P es T an bu ⟨i,w,.load t ((db es (fp an bu) x).g (hr bu) T)⟩ D:=by
   intro w Je;refine⟨.inl (by rw[dT];rfl),λaa a K=>?_⟩;refine⟨bx aa a K,a.eval x,?_,λw V eZ=>?_⟩
   .have:=K.wj x (by rw[dT];simp [Op.operands]);exact this
   .unfold execOp;rw[dT];show(do pure (.value (<-Instr.loadAt t (a.eval x))):Sem Next).run P w=_;rw[eU,eZ];rfl
  generalize br:db es (fp an bu) x=g at h oY;have wN:=λk=>P5 (P:=P) (t:=t) (N:=g.g (hr bu) T) (H:=H) (k:=k);generalize aI:il P t=f at h wN;have⟨g⟩:=g;have⟨f⟩:=f;cases gb with
  |true=>have⟨w,B,F⟩:=wN _ h;exact⟨⟨i,w,.load t (g (hr bu) T)⟩,H,_,bm,rfl,oY w F,B,rfl,rfl,F,by simp [aI]⟩
  |false=>have⟨w,B,F⟩:=wN _ h;exact⟨⟨i,w,.load t (g (hr bu) T)⟩,H,_,bm,rfl,oY w F,B,rfl,rfl,F,by simp⟩
 .split at h
  .have hu:=λk=>ajp (P:=P) (es:=es) (ae:=fp an bu) (L:=hr bu) (T:=T) (D:=D) (k:=k);rw[dT] at hu;split at h;rename_i f aI;have u3:=hu (λw=>k (w::hr bu) H b6 bm) (by rw[aI];exact h);have⟨v,B,F⟩:=u3;refine⟨⟨i,v,.pure⟩,H,b6,bm,rfl,λaa a K=>?_,B,rfl,rfl,rfl⟩;have⟨V,ah,aE⟩:=F aa a (by rw[<-dT];exact K.wj);exact⟨V,ah,.inl ⟨bx aa a K,aE⟩⟩
  .rename_i aiJ;have hu:=λk=>acE (P:=P) (es:=es) (ae:=fp an bu) (L:=hr bu) (T:=T) (D:=D) (k:=k);rw[dT] at hu;split at h;rename_i f aI;have⟨bH,aee,B,F,ah⟩:=hu (λD w=>Ec H λlT t=>k (w lT::hr bu) ⟨Nat.succ lT,t⟩ b6 (⟨i,lT,D⟩::bm)) (by rw[aI];exact h);rw[Hz] at B;have bt:=B;refine⟨⟨i,aee H.next,.alloc H.next bH⟩,_,b6,_,rfl,⟨.inr (by rw[dT,aiJ]),F,λaa a K=>⟨bx aa a K,?_⟩⟩,bt,rfl,eN,rfl,rfl,rfl⟩;have⟨obj,ca,p2,b1,ep⟩:=ah aa a (by rw[<-dT];exact K.wj);exact⟨obj,ca,aee,p2,rfl,b1,ep⟩
  .exact bS h
def apO(h:(rt es aP an (fp an bu) D (ph P es (fp an bu) i gb D.op)).f call (hr bu) T H b6 bm k aU):(∀d,D.dst=some d->d<aP)/\∃e aq gm fE,e.i=i/\A3 P es T an bu e D/\k (e.v::hr bu) aq gm fE/\fx P i gb e H aq b6 gm bm fE:=by
 have aJ:∀d,D.dst=some d->Nat.blt d aP=true:=by
  intro d jE;cases ax:Nat.blt d aP with
  |true=>rfl
  |false=>unfold rt at h;simp only[jE,ax] at h;exact bS h
 have h:(match D.guard with
  |none=>ph P es (fp an bu) i gb D.op
  |some (M,w)=>match(an[M]?).bind (·.dst) with
   |some d=>Fh (ki es (fp an bu) d) w (ph P es (fp an bu) i gb D.op)
   |none=>AQ).f call (hr bu) T H b6 bm k aU=true:=by
  unfold rt at h
  cases u9:D.dst with
  |none=>simp only[u9] at h;exact h
  |some d=>simp only[u9,aJ d u9] at h;exact h
 refine⟨λd jE=>cZ.1 (aJ d jE),?_⟩;cases br:D.guard with
 |none=>rw[br] at h;exact adq (λaa a _=>by unfold Region.wanted;rw[br]) h
 |some JW=>
  have⟨M,k2⟩:=JW;rw[br] at h;simp only at h;cases jE:(an[M]?).bind (·.dst) with
  |none=>rw[jE] at h;exact bS h
  |some d=>
   rw[jE] at h;simp only at h;have GN:(an.toArray[M]?).bind (·.dst)=some d:=by simpa using jE
   have yes:(∃b,(ki es (fp an bu) d).g (hr bu) T=.bool b/\(b==k2)=true)->(ph P es (fp an bu) i gb D.op).f call (hr bu) T H b6 bm k aU=true->
    ∃e aq gm fE,e.i=i/\A3 P es T an bu e D/\k (e.v::hr bu) aq gm fE=true/\fx P i gb e H aq b6 gm bm fE:=by
    rintro⟨b,av,F7⟩ F
    exact adq (λaa a K=>by rw[(GW br GN (K.guard br jE)).1 b av];exact F7) F
   have no:((∃b,(ki es (fp an bu) d).g (hr bu) T=.bool b/\(b==k2)=false)\/(ki es (fp an bu) d).g (hr bu) T=.undef)->k (.undef::hr bu) H b6 bm=true->
    ∃e aq gm fE,e.i=i/\A3 P es T an bu e D/\k (e.v::hr bu) aq gm fE=true/\fx P i gb e H aq b6 gm bm fE:=by
    intro aB F
    refine⟨⟨i,.undef,.pure⟩,H,b6,bm,rfl,λaa a K=>⟨undef,DN,.inr ⟨?_,rfl⟩⟩,F,rfl,rfl,rfl⟩
    have⟨dg,ej⟩:=GW br GN (K.guard br jE)
    rcases aB with⟨b,av,F7⟩|hu
    .rw[dg b av];exact F7
    .exact ej hu
   generalize ki es (fp an bu) d=g at h yes no;generalize ph P es (fp an bu) i gb D.op=y at h yes;have⟨g⟩:=g;have⟨y⟩:=y;cases k2 with
   |true=>
    rcases E3 h with⟨b,e,ah⟩|⟨e,ah⟩
    .rcases ic ah with⟨av,aE⟩|⟨av,aE⟩
     .exact yes ⟨b,e,by rw[av];rfl⟩ aE
     .exact no (.inl ⟨b,e,by rw[av];rfl⟩) aE
    .exact no (.inr e) ah
   |false=>
    rcases E3 h with⟨b,e,ah⟩|⟨e,ah⟩
    .rcases ic ah with⟨av,aE⟩|⟨av,aE⟩
     .exact no (.inl ⟨b,e,by rw[av];rfl⟩) aE
     .exact yes ⟨b,e,by rw[av];rfl⟩ aE
    .exact no (.inr e) ah
end
section
variable{P:Program}{es:aO}{aP:Nat}{T:b4}{an:gu}
def aad{H aq:bd}(h:aq.t=H.t)(a):aq.get a=H.get a:=by unfold bd.get;rw[h]
variable{H aq:bd}{bg:aO}{ju jg:jo}{bu:List kV}{bm:List jy}{b6:List jk}
theorem ack(h:∀a,aq.get a=H.get a)(N:bl)(k:Nat->Nat->cv->Bool):rowOf N aq k=rowOf N H k:=by unfold rowOf;congr 1;funext a r s z;rw[pN,pN,h]
def aml(h:∀a,aq.get a=H.get a)(t:TypeId)(N:bl)(k:bl->Bool):(il P t).f N aq k=(il P t).f N H k:=by
 unfold il;split
 .exact ack h N _
 .exact ack h N _
 .rfl
def tE.congr{N v}(h:∀a,aq.get a=H.get a){t:TypeId}(l:tE P H t N v):tE P aq t N v:=λk=>by rw[aml h];exact l k
def yZ(done:Nat)(bu:List kV):Prop:=∀M,dd done M=true↔nu bu M
def yZ.add{done}(h:yZ done bu)(e):yZ (Nat.lor done (Nat.pow 2 e.i)) (e::bu):=by
 intro M;rw[E8,Gz,h M];unfold nu;constructor
 .rintro(⟨ci,B,F⟩|B)
  .exact⟨ci,by simp [B],F⟩
  .exact⟨e,by simp,B.symm⟩
 .rintro⟨ci,B,F⟩;rcases fS.1 B with rfl|B
  .exact .inr F.symm
  .exact .inl ⟨ci,B,F⟩
def PZ{a b M}(h:sub a b)(bb:dd a M):dd b M:=by
 unfold sub at h;have h:=cF.1 h;rw[B4] at bb ⊢;have F:(a&&& b).testBit M=true:=by show(Nat.land a b).testBit M=true;rw[h];exact bb
 rw[Nat.testBit_and,c6] at F;exact F.2
def Gb(H:bd)(bm:List jy):Prop:=(∀q∈bm,q.id<H.next)/\∀q∈bm,∀eh∈bm,q.id=eh.id->q=eh
def Fj(P:Program)(l:List jk):Prop:=∀r∈l,∃t,r.tp=il P t
structure rZ(P:Program)(bg:aO)(jg ju:jo)(bu:List kV)(H:bd)(b6:List jk)(bm:List jy)(lv:List kV)(aq:bd)(gm:List jk)(fE:List jy):Prop where
 xw:∃E,lv=E++bu/\(∀e∈E,e.k≠.writer/\(∀w,ju=some w->dd (mk bg e.i) w=true)/\
  (∀t N,e.k=.load t N->tE P aq t N e.v/\((⟨e.i,N,il P t,e.v⟩:jk)∈gm\/∀m,jg=some m->dd m e.i=true))/\
  (∀id bH,e.k=.alloc id bH->(⟨e.i,id,bH⟩:jy)∈fE))/\
  ∀q∈fE,q∈bm\/∃e∈E,e.i=q.i/\e.k=.alloc q.id q.obj/\H.next<=q.id
 al:aq.t=H.t
 next:H.next<=aq.next
 cap:eR H.next->eR aq.next
 KZ:∀r∈b6,r∈gm
 gK:∀q∈bm,q∈fE
 apart:Gb H bm->Gb aq fE
 lp:Fj P b6->Fj P gm
def rZ.refl:rZ P bg jg ju bu H b6 bm bu H b6 bm:=
 ⟨⟨[],rfl,by simp,λ_ h=>.inl h⟩,rfl,ez _,id,λ_ h=>h,λ_ h=>h,id,id⟩
def rZ.trans{bg}{jg ju}{bu ab9 Uy}{H ct hM}{b6 rS Ea}{bm rI Ai}(g:rZ P bg jg ju bu H b6 bm ab9 ct rS rI)(ja:rZ P bg jg ju ab9 ct rS rI Uy hM Ea Ai):rZ P bg jg ju bu H b6 bm Uy hM Ea Ai:=by
 have⟨E,aZ,aN,dl⟩:=g.xw;have⟨d9,c9,hB,cB⟩:=ja.xw;refine⟨⟨d9++E,by rw[c9,aZ];simp,λe ar=>?_,λq h=>?_⟩,ja.al.trans g.al,mq g.next ja.next,λh=>ja.cap (g.cap h),λr h=>ja.KZ r (g.KZ r h),λq h=>ja.gK q (g.gK q h),λh=>ja.apart (g.apart h),λh=>ja.lp (g.lp h)⟩
 .rcases jD.1 ar with ar|ar
  .exact hB e ar
  .have⟨bN,a2,a3,a4⟩:=aN e ar;refine⟨bN,a2,λt N h=>?_,λid bH h=>ja.gK _ (a4 id bH h)⟩;have⟨cw,c7⟩:=a3 t N h;exact⟨cw.congr (aad ja.al),c7.imp (ja.KZ _) (λh=>h)⟩
 .rcases cB q h with h|⟨e,B,F,ah,aE⟩
  .rcases dl q h with h|⟨e,B,F,ah,aE⟩
   .exact .inl h
   .exact .inr ⟨e,FU _ B,F,ah,aE⟩
  .exact .inr ⟨e,EB _ B,F,ah,mq g.next aE⟩
def rZ.one{gb e gm fE}(bx:∀w,ju=some w->dd (Ev.mk bg e.i) w=true)(yt:gb=false->∀m,jg=some m->dd m e.i=true)(h:fx P e.i gb e H aq b6 gm bm fE):rZ P bg jg ju bu H b6 bm (e::bu) aq gm fE:=by
 have⟨i,v,Ny⟩:=e;cases Ny with
 |pure=>obtain⟨rfl,rfl,rfl⟩:=h;exact⟨⟨[⟨i,v,.pure⟩],rfl,by simp;exact bx,λ_ h=>.inl h⟩,rfl,ez _,id,λ_ h=>h,λ_ h=>h,id,id⟩
 |writer=>exact h.elim
 |load t N=>
  obtain⟨rfl,rfl,ah,rfl⟩:=h;refine⟨⟨[⟨i,v,.load t N⟩],rfl,λe ar=>?_,λ_ h=>.inl h⟩,rfl,ez _,id,λr ad=>?_,λ_ h=>h,id,λaw r ad=>?_⟩
  .simp only[iF] at ar;subst ar;refine⟨by simp,bx,λa6 mm az=>?_,λid bH az=>by cases az⟩;cases az;refine⟨ah,?_⟩;cases gb with
   |true=>exact .inl (by simp)
   |false=>exact .inr (yt rfl)
  .cases gb with
   |true=>simp [ad]
   |false=>simpa using ad
  .cases gb with
   |true=>
    simp only[nI] at ad;rcases fS.1 ad with h|h
    .exact⟨t,by rw[h]⟩
    .exact aw r h
   |false=>simp only[n1,md] at ad;exact aw r ad
 |alloc id bH=>
  obtain⟨rfl,F,rfl,rfl,rfl⟩:=h;refine⟨⟨[⟨i,v,.alloc H.next bH⟩],rfl,λe ar=>?_,λq ax=>?_⟩,rfl,by simp,λ_=>eN,λ_ h=>h,λq ax=>by simp [ax],λaD=>⟨λq ax=>?_,λq ax eh js CG=>?_⟩,id⟩
  .simp only[iF] at ar;subst ar;refine⟨by simp,bx,λa6 mm az=>(by cases az),λid bH az=>?_⟩;cases az;simp
  .rcases fS.1 ax with rfl|ax
   .exact .inr ⟨⟨i,v,.alloc H.next bH⟩,by simp,rfl,rfl,ez _⟩
   .exact .inl ax
  .show q.id<H.next+1;rcases fS.1 ax with rfl|ax
   .simp
   .have:=aD.1 q ax;omega
  .rcases fS.1 ax with rfl|ax<;>rcases fS.1 js with rfl|js
   .rfl
   .have:=aD.1 eh js;simp at CG;omega
   .have:=aD.1 q ax;simp at CG;omega
   .exact aD.2 q ax eh js CG
end
section
variable{P:Program}{es:aO}{aP:Nat}{T:b4}{an:gu}{bg:aO}
def TH(jg:jo)(i:Nat):Bool:=match jg with|some m=> !dd m i|none=>false
def ap2(e)(bu):fp an (e::bu)=((an[e.i]?).bind (·.dst))::fp an bu:=rfl
def Sh{jg call aU ju}:∀(aQ){bu}{H}{b6}{bm}{k}{done yp},(sm P es aP an jg (fp an bu) aQ).f call (hr bu) T H b6 bm k aU->vp P an bg ju done aQ=some yp->yZ done bu->ni P es aP T an bg bu->∃lv aq gm fE,k (hr lv) aq gm fE/\ni P es aP T an bg lv/\yZ yp lv/\fp an lv=k3 an (fp an bu) aQ/\rZ P bg jg ju bu H b6 bm lv aq gm fE
 |[],bu,H,b6,bm,k,done,yp,h,K,aJ,br=>by cases K;exact⟨bu,H,b6,bm,h,br,aJ,rfl,rZ.refl⟩
 |i::aQ,bu,H,b6,bm,k,done,yp,h,K,aJ,br=>by
  unfold vp at K;cases ay:an[i]? with
  |none=>rw[ay] at K;cases K
  |some D=>
   rw[ay] at K;simp only at K;split at K
   .rename_i aw;simp only[c6] at aw;obtain⟨⟨⟨dz,gg⟩,mg⟩,vL⟩:=aw;unfold sm at h;rw[ay] at h;simp only at h;change(FW (rt es aP an (fp an bu) D (ph P es (fp an bu) i (TH jg i) D.op)) (sm P es aP an jg (D.dst::fp an bu) aQ)).f call (hr bu) T H b6 bm k aU=true at h;generalize yt:TH jg i=gb at h;have it:=λk=>apO (P:=P) (es:=es) (aP:=aP) (T:=T) (an:=an) (bu:=bu) (i:=i) (D:=D) (gb:=gb) (call:=call) (H:=H) (b6:=b6) (bm:=bm) (k:=k) (aU:=aU);have aZ:∀v Ny,fp an ((⟨i,v,Ny⟩:kV)::bu)=D.dst::fp an bu:=λv Ny=>by show((an[i]?).bind (·.dst))::fp an bu=_;rw[ay];rfl
    have aN:k3 an (fp an bu) (i::aQ)=k3 an (D.dst::fp an bu) aQ:=by show k3 an (((an[i]?).bind (·.dst))::fp an bu) aQ=_;rw[ay];rfl
    generalize rt es aP an (fp an bu) D (ph P es (fp an bu) i gb D.op)=g at h it;generalize mC:sm P es aP an jg (D.dst::fp an bu) aQ=r at h;have⟨g⟩:=g;have⟨r⟩:=r;have⟨u9,e,ct,rS,rI,g1,g2,g3,g4⟩:=it _ h;have ap4:UG P es aP T an bg bu e:=by refine⟨D,by rw[g1];exact ay,u9,λM bb=>(aJ M).1 (PZ gg (by rw[<-g1];exact bb)),λbf=>?_,g2⟩;rw[g1] at bf;rw[(aJ i).2 bf] at mg;cases mg
    have AW:fp an (e::bu)=D.dst::fp an bu:=by rw[ap2,g1,ay];rfl
    have kP:yZ (Nat.lor done (Nat.pow 2 i)) (e::bu):=by rw[<-g1];exact aJ.add e
    have F:(sm P es aP an jg (fp an (e::bu)) aQ).f call (hr (e::bu)) T ct rS rI k aU=true:=by rw[AW,mC];exact g3
    have⟨lv,aq,gm,fE,bq,aS,bU,cU,eI⟩:=Sh aQ F K kP ⟨ap4,br⟩;refine⟨lv,aq,gm,fE,bq,aS,bU,by rw[cU,AW,aN],rZ.trans (rZ.one (gb:=gb) ?_ ?_ (by rw[g1];exact g4)) eI⟩
    .intro w bx;rw[bx] at vL;rw[g1];exact vL
    .intro aI m hm;rw[hm] at yt;rw[g1];simp only[TH] at yt;rw[aI] at yt;cases ax:dd m i with
     |true=>rfl
     |false=>rw[ax] at yt;cases yt
   .cases K
end
def g9:List jy->bd->bd
 |[],H=>H
 |q::l,H=>g9 l (H.put q.id q.obj)
def oh:∀(l)(H),(g9 l H).next=H.next
 |[],H=>rfl
 |q::l,H=>by rw[g9,oh];rfl
variable{H:bd}{a b:bl}{i M m x:Nat}{bu:List kV}{b7:Array Bool}{aa:cE}
def OA(I:eR x):∀(l)(H),(∀q∈l,eR q.id)->(∀q∈l,∀eh∈l,q.id=eh.id->q=eh)->(∀q∈l,q.id=x->(g9 l H).get x=q.obj)/\((∀q∈l,q.id≠x)->(g9 l H).get x=H.get x)
 |[],H,_,_=>⟨by simp,λ_=>rfl⟩
 |q::l,H,K,aD=>by
  have⟨B,F⟩:=OA I l (H.put q.id q.obj) (λeh h=>K eh (by simp [h])) (λeh h sQ b5=>aD eh (by simp [h]) sQ (by simp [b5]));have ax:=K q (by simp);refine⟨λeh js e=>?_,λh=>?_⟩
  .show(g9 l (H.put q.id q.obj)).get x=_;by_cases jA:∃sQ∈l,sQ.id=x
   .have⟨sQ,g1,g2⟩:=jA;rw[B sQ g1 g2,aD sQ (by simp [g1]) eh js (g2.trans e.symm)]
   .have dB:∀sQ∈l,sQ.id≠x:=λsQ g ci=>jA ⟨sQ,g,ci⟩;rw[F dB];rcases fS.1 js with rfl|js
    .rw[bd.nG _ _ _ _ ax I,b3 e.symm]
    .exact absurd e (dB eh js)
  .show(g9 l (H.put q.id q.obj)).get x=_;rw[F λeh g=>h eh (by simp [g]),bd.nG _ _ _ _ ax I,bA (λe=>h q (by simp) e.symm)]
def UR:∀(l)(H)(k),CB l H k=k (g9 l H)
 |[],H,k=>rfl
 |q::l,H,k=>by show qq H q.id q.obj (λH=>CB l H k)=_;rw[tf,UR];rfl
def N5(m):∀(l)(H)(k),AL m l H k=k (g9 (l.filter λq=>dd m q.i) H)
 |[],H,k=>rfl
 |q::l,H,k=>by
  show a7 (dd m q.i) (qq H q.id q.obj λH=>AL m l H k) (AL m l H k)=_;cases av:dd m q.i with
  |true=>rw[fz,tf,N5,O9];simp only[av,nI];rfl
  |false=>rw[mF,N5,O9];simp only[av,n1,md]
def Ez(m):∀l,kX m l=l.filter λq=> !dd m q.i
 |[]=>rfl
 |q::l=>by rw[kX,O9,Ez m l];cases dd m q.i<;>simp
def Mi(m):∀l,xh m l=l.filter λq=> !dd m q.i
 |[]=>rfl
 |q::l=>by rw[xh,O9,Mi m l];cases dd m q.i<;>simp
def adX(h:oH a b):a=b:=by
 cases a<;>cases b<;>simp only[oH,c6,cF,oI,xe] at h<;>first
  |(exact bS h)
  |(subst h;rfl)
  |(obtain⟨rfl,rfl⟩:=h;rfl)
  |(obtain⟨⟨⟨rfl,rfl⟩,rfl⟩,rfl⟩:=h;rfl)
  |(obtain⟨⟨⟨⟨⟨rfl,rfl⟩,rfl⟩,rfl⟩,rfl⟩,rfl⟩:=h;rfl)
def aat:∀{a b},Av a b->a=b
 |[],[],_=>rfl
 |[],_::_,h=>bS h
 |_::_,[],h=>bS h
 |a::l,b::aM,h=>by
  unfold Av at h;split at h
  .rename_i B;rw[adX B,aat h]
  .exact bS h
def amg(h:qW a b):a=b:=by
 unfold qW at h;split at h
 .simp only[c6,cF] at h;rw[h.1,aat h.2]
 .exact adX h
def Rq{P}:∀{l},Fj P l->sK m H l->∀r∈l,dd m r.i=false->∀t,r.tp=il P t->tE P H t r.N r.v
 |[],_,_,r,ad,_,_,_=>by cases ad
 |x::l,aw,h,r,ad,hm,t,e=>by
  unfold sK at h;rcases fS.1 ad with rfl|ad
  .rw[hm,mF,e] at h;have⟨km,B,F⟩:=P5 h;have⟨ah,_⟩:=eH B;rw[<-amg ah];exact F
  .have s0:Fj P l:=λr h=>aw r (by simp [h]);rcases ic h with⟨_,h⟩|⟨_,h⟩
   .exact Rq s0 h r ad hm t e
   .have⟨a6,ar⟩:=aw x (by simp);rw[ar] at h;have⟨km,B,F⟩:=P5 h;exact Rq s0 (eH B).2 r ad hm t e
section
variable{P:Program}{es:aO}{aP:Nat}{T:b4}{an:gu}{bg:aO}
def aal{x}:∀{l}{Ct},OP an bg i x Ct l->∀n y,l[n]?=some y->Cg an x y (dd (mk bg i) (Ct+n)||dd (mk bg (Ct+n)) i)
 |[],Ct,_,n,y,h=>by simp at h
 |z::l,Ct,h,n,y,ap=>by
  unfold OP at h;rw[c6] at h;cases n with
  |zero=>simp at ap;subst ap;exact h.1
  |succ n=>have:=aal h.2 n y (by simpa using ap);have e:Ct+1+n=Ct+(n+1):=Y;rwa [e] at this
def Qn:∀{l}{dE},tm an bg dE l->∀n m x y,n<m->l[n]?=some x->l[m]?=some y->Cg an x y (dd (mk bg (dE+n)) (dE+m)||dd (mk bg (dE+m)) (dE+n))
 |[],dE,_,n,m,x,y,_,h,_=>by simp at h
 |z::l,dE,h,n,m,x,y,aV,I,ap=>by
  unfold tm at h;rw[c6] at h;cases m with
  |zero=>omega
  |succ m=>
   cases n with
   |zero=>simp at I;subst I;have:=aal h.1 m y (by simpa using ap);have e:dE+1+m=dE+(m+1):=Y;rw[e] at this;exact this
   |succ n=>have:=Qn h.2 n m x y Y (by simpa using I) (by simpa using ap);have e:dE+1+m=dE+(m+1):=Y;have ci:dE+1+n=dE+(n+1):=Y;rwa [e,ci] at this
def UT(h:tm an bg 0 an){i M}{x y:Oper}(wF:i≠M)(I:an[i]?=some x)(ap:an[M]?=some y):(∀d,x.dst=some d->y.dst≠some d)/\∀d,x.dst=some d->d∈looks an y->dd (mk bg i) M\/dd (mk bg M) i:=by
 have dC:Cg an x y (dd (mk bg i) M||dd (mk bg M) i)=true\/Cg an y x (dd (mk bg M) i||dd (mk bg i) M)=true:=by
  rcases Nat.lt_or_gt_of_ne wF with aV|aV
  .exact .inl (by have:=Qn h i M x y aV I ap;simpa using this)
  .exact .inr (by have:=Qn h M i y x aV ap I;simpa using this)
 have aG:∀(x y:Oper)(b:Bool),Cg an x y b=true->(∀d,x.dst=some d->y.dst≠some d)/\(b=true\/(∀d,x.dst=some d->d∉looks an y)/\∀d,y.dst=some d->d∉looks an x):=by
  intro x y b hp;unfold Cg at hp;rw[c6,qC,c6] at hp;have⟨B,F⟩:=hp;refine⟨λd aJ kP=>?_,F.imp id λF=>⟨λd aJ hm=>?_,λd aJ hm=>?_⟩⟩
  .rw[aJ,kP] at B;simp only[Bool.not_eq_eq_eq_not,xp] at B;exact ts B rfl
  .have:=F.1;rw[aJ] at this;simp at this;exact this hm
  .have:=F.2;rw[aJ] at this;simp at this;exact this hm
 rcases dC with k|k
 .have⟨B,F⟩:=aG _ _ _ k;refine⟨B,λd aJ hm=>?_⟩;rcases F with F|F
  .rw[qC] at F;exact F
  .exact absurd hm (F.1 d aJ)
 .have⟨B,F⟩:=aG _ _ _ k;refine⟨λd aJ kP=>B d kP aJ,λd aJ hm=>?_⟩;rcases F with F|F
  .rw[qC] at F;exact F.symm
  .exact absurd hm (F.2 d aJ)
def ni.Ej:∀{bu},ni P es aP T an bg bu->∀e∈bu,∃E lt,bu=E++e::lt/\UG P es aP T an bg lt e/\ni P es aP T an bg lt
 |[],_,e,ar=>by cases ar
 |x::bu,h,e,ar=>by
  rcases fS.1 ar with rfl|ar
  .exact⟨[],bu,rfl,h.1,h.2⟩
  .have⟨E,lt,B,F⟩:=ni.Ej h.2 e ar;exact⟨x::E,lt,by rw[B];rfl,F⟩
def ni.before{e}(h:ni P es aP T an bg bu)(ar:e∈bu)(bb:dd (mk bg e.i) M):nu bu M:=by have⟨E,lt,B,⟨D,_,_,F,_⟩,_⟩:=h.Ej e ar;have⟨ci,g1,g2⟩:=F M bb;exact⟨ci,by rw[B];simp [g1],g2⟩
def ni.L6:∀{bu},ni P es aP T an bg bu->∀e∈bu,∀ci∈bu,e.i=ci.i->e=ci
 |[],_,e,ar,_,_,_=>by cases ar
 |x::bu,h,e,ar,ci,ls,aH=>by
  have⟨⟨D,_,_,_,iI,_⟩,F⟩:=h;rcases fS.1 ar with g|g<;>rcases fS.1 ls with ja|ja
  .rw[g,ja]
  .exact absurd ⟨ci,ja,by rw[<-aH,g]⟩ iI
  .exact absurd ⟨e,g,by rw[aH,ja]⟩ iI
  .exact ni.L6 F e g ci ja aH
def R7:∀{l}{t},jp t l=none->some t∉l
 |[],t,_=>by simp
 |none::l,t,h=>by simp only[jp,Option.map_eq_none_iff] at h;simp [R7 h]
 |some a::l,t,h=>by
  simp only[jp] at h;split at h
  .cases h
  .rename_i av;simp only[Option.map_eq_none_iff] at h;have:=ts av;simp only[fS,Option.some.injEq,not_or];exact⟨λe=>this e.symm,R7 h⟩
structure Cs(aP:Nat)(an:gu)(b7:Array Bool)(a a0:Act)(aa:cE)(bu:List kV):Prop where
 size:a.tmps.size=aP
 defers:a.defers=a0.defers
 val:∀e∈bu,b7.getD e.i false=true->∀D d,an[e.i]?=some D->D.dst=some d->bk aa e.v (a.tmps.getD d undef)
 kK:∀t,(∀M D,an[M]?=some D->b7.getD M false=true->D.dst≠some t)->a.tmps.getD t undef=a0.tmps.getD t undef
def FP{b7:Array Bool}{i}(h:b7.getD i true=false):b7.getD i false=false:=by
 simp only[zn] at h ⊢;cases ax:b7[i]? with
 |none=>rfl
 |some b=>rw[ax] at h;simpa using h
def Zf{b7:Array Bool}{i}(aH:i<b7.size)(h:b7.getD i false=false):b7.getD i true=false:=by simp only[zn] at h ⊢;rw[OE aH] at h ⊢;simpa using h
def Cs.looks{a a0 gh lt D}(h:Cs aP an b7 a a0 aa bu)(hp:tm an bg 0 an)(gn:bg=iK [] an)(bi:Down an.toArray b7)(sa:TR gh es aP T a0)(hle:gh.le aa)(aV:∀e∈lt,e∈bu)(Bw:ni P es aP T an bg lt)(ay:an[i]?=some D)(iI:¬nu lt i)(av:∀M,dd (Ev.mk bg i) M->nu lt M)(ad:∀M,dd (Ev.mk bg i) M->b7.getD M false)(aH:b7.getD i false=false):rP es T an aa D lt a:=by
 subst gn;intro t al;unfold wx ki;cases ax:jp t (fp an lt) with
 |some k=>
  simp only;rw[CN];have az:=QH ax;unfold fp at az;rw[t7] at az;cases M1:lt[k]? with
  |none=>rw[M1] at az;cases az
  |some e=>
   rw[M1] at az;simp only[A5,Option.some.injEq] at az;have oW:e∈lt:=uo M1;have cn:(hr lt).getD k .any=e.v:=by unfold hr;rw[oE,t7,M1];rfl
   rw[cn];cases um:an[e.i]? with
   |none=>rw[um] at az;cases az
   |some bs=>
    rw[um] at az;have aJ:bs.dst=some t:=az;have dB:e.i≠i:=λar=>iI ⟨e,oW,ar⟩;have K:b7.getD e.i false=true:=by
     rcases(UT hp dB um ay).2 t aJ al with g|g
     .exact absurd (Bw.before oW g) iI
     .exact ad _ g
    exact h.val e (aV e oW) K bs t um aJ
 |none=>
  simp only;cases ak:i2 t es with
  |none=>exact CV _
  |some s=>
   simp only;cases nr:Nat.blt s 64 with
   |false=>exact CV _
   |true=>
    simp only;rw[Km,h.kK t λM bs bb K aJ=>?_]
    .exact bk.mono hle _ _ (sa.tmp t s ak (cZ.1 nr))
    .have dB:M≠i:=λe=>by rw[e,aH] at K;cases K
     rcases(UT hp dB bb ay).2 t aJ al with g|g
     .have:=bi.YL (by simpa using bb) K g;rw[aH] at this;cases this
     .have⟨e,ar,kc⟩:=av M g;refine R7 ax ?_;unfold fp;refine re.2 ⟨e,ar,?_⟩;rw[kc,bb];exact aJ
def Cs.put{b7}{a a0}{aa bD}{bu lv:List kV}(h:Cs aP an b7 a a0 aa bu)(hp:tm an bg 0 an)(hle:aa.le bD){i}{D:Oper}(ay:an[i]?=some D)(gL:i<b7.size)(aH:b7.getD i false=false)(aJ:∀d,D.dst=some d->d<aP){V}(B:∀e∈lv,e.i=i->bk bD e.v V)(F:∀e∈lv,e.i≠i->e∈bu):Cs aP an (b7.setIfInBounds i true) (a.put D.dst V) a0 bD lv:=by
 have kn:(b7.setIfInBounds i true).getD i false=true:=by simp [gL]
 have mc:∀t,D.dst≠some t->(a.put D.dst V).tmps.getD t undef=a.tmps.getD t undef:=by
  intro t al;cases jE:D.dst with
  |none=>rfl
  |some d=>rw[jE] at al;rw[AD,Ic _ _ _ _ (by rw[h.size];exact aJ d jE),bA (λe=>al (by rw[e]))]
 refine⟨?_,?_,λe ar K ahQ d um NK=>?_,λt al=>?_⟩
 .cases jE:D.dst with
  |none=>exact h.size
  |some d=>rw[AD,Array.size_setIfInBounds];exact h.size
 .cases jE:D.dst<;>exact h.defers
 .by_cases kc:e.i=i
  .rw[kc,ay] at um;cases um;rw[NK,AD,Ic _ _ _ _ (by rw[h.size];exact aJ d NK),b3 rfl];exact B e ar kc
  .rw[HS false (λci=>kc ci.symm)] at K;rw[mc d λci=>(UT hp (λci=>kc ci.symm) ay um).1 d ci NK];exact bk.mono hle _ _ (h.val e (F e ar kc) K ahQ d um NK)
 .rw[mc t λci=>al i D ay kn ci];exact h.kK t λM bs bb K=>al M bs bb (zT K)
end
def k6(b7:Array Bool)(bm:List jy)(H:bd):bd:=g9 (bm.filter λq=>b7.getD q.i false) H
def rk(b7)(bm)(H):(k6 b7 bm H).next=H.next:=oh _ _
def p7{bm}(aw:eR H.next)(aD:Gb H bm)(I:eR x):(∀q∈bm,b7.getD q.i false->q.id=x->(k6 b7 bm H).get x=q.obj)/\((∀q∈bm,b7.getD q.i false->q.id≠x)->(k6 b7 bm H).get x=H.get x):=by
 have⟨B,F⟩:=OA I (bm.filter λq=>b7.getD q.i false) H (λq h=>eN)
  (λq h eh b5=>aD.2 q (kf.1 h).1 eh (kf.1 b5).1)
 exact⟨λq ax K=>B q (kf.2 ⟨ax,K⟩),λh=>F λq ax=>h q (kf.1 ax).1 (kf.1 ax).2⟩
structure Inv(P:Program)(es:aO)(aP:Nat)(bI:World)(T:b4)(an:gu)(bg:aO)(gh:cE)(ga:bd)(ii:World)(a0:Act)(rs:Nat->Prop)
 (b7:Array Bool) (a:Act) (w:World) (aa:cE) (bu:List kV) (H:bd) (b6:List jk) (bm:List jy):Prop where
 size:b7.size=an.length
 down:Down an.toArray b7
 log:ni P es aP T an bg bu
 sub:∀M,b7.getD M false=true->nu bu M
 wr:∀e∈bu,e.k=.writer->b7.getD e.i false=true
 tmps:Cs aP an b7 a a0 aa bu
 mH:gQ bI aa (k6 b7 bm H) w
 lj:Step gh ga ii aa (k6 b7 bm H) w
 apart:Gb H bm
 lV:∀q∈bm,ga.next<=q.id/\(H.get q.id).live=false/\(∃e∈bu,e.i=q.i/\e.k=.alloc q.id q.obj)/\(b7.getD q.i false=false->aa q.id=none)
 iE:∀e∈bu,∀id bH,e.k=.alloc id bH->b7.getD e.i false=false->(⟨e.i,id,bH⟩:jy)∈bm
 tp:∀e∈bu,∀t N,e.k=.load t N->b7.getD e.i false=false->tE P H t N e.v/\((⟨e.i,N,il P t,e.v⟩:jk)∈b6\/rs e.i)
 rd:Fj P b6
section
variable{P:Program}{es:aO}{aP:Nat}{bI:World}{T:b4}{an:gu}{bg:aO}{gh:cE}{ga:bd}{ii:World}{a0:Act}{rs:Nat->Prop}
variable{b7:Array Bool}{a:Act}{w:World}{aa:cE}{bu:List kV}{H:bd}{b6:List jk}{bm:List jy}
def Inv.cap(bv:Inv P es aP bI T an bg gh ga ii a0 rs b7 a w aa bu H b6 bm):eR H.next:=by have:=bv.mH.rel.next;rwa [rk] at this
def zf(h:(b7.setIfInBounds i true).getD M false=false):b7.getD M false=false:=by
 cases ax:b7.getD M false with
 |false=>rfl
 |true=>rw[zT ax] at h;cases h
def Inv.after(bv:Inv P es aP bI T an bg gh ga ii a0 rs b7 a w aa bu H b6 bm)(hp:tm an bg 0 an){i}{D:Oper}(ay:an[i]?=some D)(ad:i∈Region.ready .any an.toArray b7){e}(ar:e∈bu)(kc:e.i=i)(aJ:∀d,D.dst=some d->d<aP){bD}(hle:aa.le bD){V}(eZ:bk bD e.v V){a8}(mH:gQ bI bD (k6 (b7.setIfInBounds i true) bm H) a8)(lj:Step gh ga ii bD (k6 (b7.setIfInBounds i true) bm H) a8)(RY:∀q∈bm,(b7.setIfInBounds i true).getD q.i false=false->bD q.id=none):Inv P es aP bI T an bg gh ga ii a0 rs (b7.setIfInBounds i true) (a.put D.dst V) a8 bD bu H b6 bm:=by
 have aI:=FP (uu.1 ad).1;have gL:i<b7.size:=by rw[bv.size];exact(jb.1 ay).1
 refine⟨by simp [bv.size],bv.down.add ad,bv.log,λM bb=>?_,λe ar az=>zT (bv.wr e ar az),?_,mH,lj,bv.apart,λq ax=>?_,λe ar id bH az K=>bv.iE e ar id bH az (zf K),λe ar t N az K=>bv.tp e ar t N az (zf K),bv.rd⟩
 .rcases Mw bb with rfl|bb
  .exact⟨e,ar,kc⟩
  .exact bv.sub M bb
 .exact bv.tmps.put hp hle ay gL aI aJ (λci ls xM=>by rw[bv.log.L6 ci ls e ar (xM.trans kc.symm)];exact eZ) λci ls _=>ls
 .have⟨B,F,ah,_⟩:=bv.lV q ax;exact⟨B,F,ah,RY q ax⟩
def Inv.LW{ck bZ}(bv:Inv P es aP bI T an bg gh ga ii a0 rs b7 a w aa bu H b6 bm)(gn:bg=iK [] an)(hp:tm an bg 0 an)(sa:TR gh es aP T a0)(ad:i∈Region.ready .any an.toArray b7)(aH:nu bu i)(gr:∀bF a8 bD,Inv P es aP bI T an bg gh ga ii a0 rs (b7.setIfInBounds i true) bF a8 bD bu H b6 bm->ck bF a8):wpOp P an.toArray bZ i ck a w:=by
 have⟨e,ar,kc⟩:=aH;have aI:=FP (uu.1 ad).1;have⟨E,lt,anl,⟨D,ay,aJ,av,iI,tg⟩,aV⟩:=bv.log.Ej e ar;have qe:rP es T an aa D lt a:=by refine bv.tmps.looks hp gn bv.down sa bv.lj.le (λci ls=>by rw[anl];simp [ls]) aV ay iI av (λM bb=>?_) (by rw[kc];exact aI);subst gn;rw[kc] at bb;exact bv.down.ready ad (by simpa using bb)
 rw[kc] at ay;have lU:an.toArray[i]?=some D:=by simpa using ay
 have gL:i<b7.size:=by rw[bv.size];exact(jb.1 ay).1
 have same:(∀id bH,e.k≠.alloc id bH)->k6 (b7.setIfInBounds i true) bm H=k6 b7 bm H:=by intro az;unfold k6;congr 1;refine List.filter_congr λq ax=>?_;have⟨_,_,⟨ci,B,F,ah⟩,_⟩:=bv.lV q ax;refine HS false λapD=>?_;have:ci=e:=bv.log.L6 ci B e ar (F.trans (apD.symm.trans kc.symm));exact az _ _ (this▸ah)
 have hZ:(∀id bH,e.k≠.alloc id bH)->∀V,bk aa e.v V->Inv P es aP bI T an bg gh ga ii a0 rs (b7.setIfInBounds i true) (a.put D.dst V) w aa bu H b6 bm:=by intro az V eZ;refine bv.after hp ay ad ar kc aJ (cE.le_refl _) eZ (by rw[same az];exact bv.mH) (by rw[same az];exact bv.lj) λq ax K=>(bv.lV q ax).2.2.2 (zf K)
 unfold A3 at tg;cases az:e.k with
 |writer=>have:=bv.wr e ar az;rw[kc,aI] at this;cases this
 |pure=>rw[az] at tg;have⟨V,eZ,i0⟩:=tg aa a qe;exact i0.wpOp lU (gr _ _ _ (hZ (by simp [az]) V eZ))
 |load t N=>
  rw[az] at tg;have⟨bx,Lj,Nd,jN⟩:=tg.2 aa a qe;have⟨wN,_⟩:=bv.tp e ar t N az (by rw[kc];exact aI);have⟨x,r,s,z,UY,uq,aeQ⟩:=wN.run;have wY:∃y,aa x=some y:=by rw[UY] at Nd;simp only[bk] at Nd;have⟨b,ca,h,_⟩:=Nd;exact⟨_,h⟩
  have⟨y,ap⟩:=wY;have I:=bk.lt bv.mH.rel ap;have mc:(k6 b7 bm H).get x=H.get x:=(p7 bv.cap bv.apart I).2 λq ax _ ci=>by have:=(bv.lV q ax).2.1;rw[ci,uq] at this;cases this
  have Z6:=bv.mH.rel.obj x I;rw[mc] at Z6;have⟨V,eZ,anb⟩:=aeQ aa w Lj Nd Z6;unfold wpOp;simp only[lU];rw[b3 bx];refine .inl ?_;unfold Oper.wp;rw[jN w V anb];exact gr _ _ _ (hZ (by simp [az]) V eZ)
 |alloc id bH=>
  rw[az] at tg;have⟨_,arC,tg⟩:=tg;have⟨bx,obj,ca,gb,p2,yt,pK,jN⟩:=tg aa a qe;have ax:=bv.iE e ar id bH az (by rw[kc];exact aI);have⟨bq,aS,_,cU⟩:=bv.lV _ ax;have rH:=cU (by rw[kc];exact aI);simp only at bq aS rH;have aek:=bv.apart.1 _ ax;simp only at aek;have kn:(b7.setIfInBounds i true).getD i false=true:=by simp [gL]
  have⟨dc,cl,hD,lS⟩:=aeZ (aq:=k6 (b7.setIfInBounds i true) bm H) bv.mH bv.lj bq (by rw[rk];exact aek) rH pK (by rw[rk,rk]) (λx I=>by
   by_cases Mk:x=id
   .rw[b3 Mk];exact(p7 bv.cap bv.apart I).1 _ ax (by rw[kc];exact kn) Mk.symm
   .rw[bA Mk];by_cases jA:∃q∈bm,b7.getD q.i false=true/\q.id=x
    .have⟨q,B,F,ah⟩:=jA;rw[(p7 bv.cap bv.apart I).1 q B F ah,(p7 bv.cap bv.apart I).1 q B (zT F) ah]
    .rw[(p7 (b7:=b7) bv.cap bv.apart I).2 λq B F ah=>jA ⟨q,B,F,ah⟩,(p7 bv.cap bv.apart I).2 λq B F ah=>?_];rcases Mw F with F|F
     .have⟨_,_,⟨ci,g1,g2,g3⟩,_⟩:=bv.lV q B;have:ci=e:=bv.log.L6 ci g1 e ar (g2.trans (F.trans kc.symm));rw[this,az] at g3;cases g3;exact Mk ah.symm
     .exact jA ⟨q,B,F,ah⟩)
  unfold wpOp;simp only[lU];rw[b3 bx];refine .inl ?_;unfold Oper.wp;rw[jN w];refine gr _ _ _ (bv.after hp ay ad ar kc aJ lS (by rw[<-yt];exact hD) dc cl λq js K=>?_);rw[cE.rf]
  .exact(bv.lV q js).2.2.2 (zf K)
  .intro ci;have:=bv.apart.2 q js _ ax ci;rw[this] at K;simp only at K;rw[kc,kn] at K;cases K
end
def Rel.grow{aa}{H ct}{w}(R:Rel aa H w)(aB:H.next<=ct.next)(aw:eR ct.next)(br:∀x,eR x->ct.get x=H.get x):Rel aa ct w:=
 ⟨aw,λa x h=>nV (R.pH a x h) aB,λa aD=>by rw[br a aD];exact R.obj a aD,λa bF B F df cH=>R.inj a bF B F (by rw[<-br a B];exact df) (by rw[<-br bF F];exact cH)⟩
def kI.grow{aa}{H ct}(br:∀x,eR x->ct.get x=H.get x){b}(h:kI aa ct b):kI aa H b:=by have⟨a,aD,K,ca,ad⟩:=h;exact⟨a,aD,by rw[<-br a aD];exact K,ca,ad⟩
def gQ.grow{bI}{aa}{H ct}{w}(R:gQ bI aa H w)(aB:H.next<=ct.next)(aw:eR ct.next)(br:∀x,eR x->ct.get x=H.get x):gQ bI aa ct w:=
 ⟨R.rel.grow aB aw br,⟨R.jr.size,R.jr.same,λb h=>R.jr.zj b (h.grow br),R.jr.tape,R.jr.os,R.jr.output⟩⟩
def Step.grow{gh aa}{ga H ct}{bI w}(S:Step gh ga bI aa H w)(pV:eR ga.next)(aB:H.next<=ct.next)(br:∀x,eR x->ct.get x=H.get x):Step gh ga bI aa ct w:=
 ⟨S.le,S.hZ,mq S.next aB,S.size,S.frame,λb h=>S.own b (h.grow br),λx I aJ=>by rw[br x Y];exact S.dead x I aJ,S.tape,S.os,S.output⟩
def gQ.weaken{bI w ct}(R:gQ bI aa H w)(aB:ct.next=H.next)(br:∀x,eR x->ct.get x=H.get x\/(ct.get x).live=false):gQ bI aa ct w:=
 ⟨R.rel.weaken aB br,R.jr.weaken br⟩
section
variable{P:Program}{es:aO}{aP:Nat}{bI:World}{T:b4}{an:gu}{bg:aO}{gh:cE}{ga:bd}{ii:World}{a0:Act}{rs:Nat->Prop}
variable{b7:Array Bool}{a:Act}{w:World}{aa:cE}{bu:List kV}{H:bd}{b6:List jk}{bm:List jy}
def ni.apart:∀{E}{bu},ni P es aP T an bg (E++bu)->∀e∈E,¬nu bu e.i
 |[],_,_,e,ar=>by cases ar
 |x::E,bu,h,e,ar=>by
  rcases fS.1 ar with rfl|ar
  .have⟨⟨D,_,_,_,iI,_⟩,_⟩:=h;rintro⟨ci,B,F⟩;exact iI ⟨ci,by simp [B],F⟩
  .exact ni.apart h.2 e ar
def Inv.grow(bv:Inv P es aP bI T an bg gh ga ii a0 (λ_=>False) b7 a w aa bu H b6 bm){jg ju}{lv}{aq}{gm}{fE}(Fs:eR ga.next)(g:rZ P bg jg ju bu H b6 bm lv aq gm fE)(Bw:ni P es aP T an bg lv):Inv P es aP bI T an bg gh ga ii a0 (λi=>∀m,jg=some m->dd m i) b7 a w aa lv aq gm fE:=by
 have⟨E,bR,Rx,pK⟩:=g.xw;have zE:=g.cap bv.cap;have A1:=g.apart bv.apart;have mc:∀x,aq.get x=H.get x:=aad g.al;have abx:∀e∈E,b7.getD e.i false=false:=by
  intro e ar;cases ax:b7.getD e.i false with
  |false=>rfl
  |true=>subst bR;exact absurd (bv.sub _ ax) (Bw.apart e ar)
 have abt:∀x,eR x->(k6 b7 fE aq).get x=(k6 b7 bm H).get x:=by
  intro x I;by_cases jA:∃q∈bm,b7.getD q.i false=true/\q.id=x
  .have⟨q,B,F,ah⟩:=jA;rw[(p7 bv.cap bv.apart I).1 q B F ah,(p7 zE A1 I).1 q (g.gK q B) F ah]
  .rw[(p7 (b7:=b7) bv.cap bv.apart I).2 λq B F ah=>jA ⟨q,B,F,ah⟩,(p7 zE A1 I).2 λq B F ah=>?_,mc];rcases pK q B with B|⟨e,aE,bt,_⟩
   .exact jA ⟨q,B,F,ah⟩
   .rw[<-bt,abx e aE] at F;cases F
 have pn:gQ bI aa (k6 b7 fE aq) w:=bv.mH.grow (by rw[rk,rk];exact g.next) (by rw[rk];exact zE) abt;refine⟨bv.size,bv.down,Bw,λM bb=>?_,λe ar az=>?_,⟨bv.tmps.size,bv.tmps.defers,λe ar K=>?_,bv.tmps.kK⟩,pn,bv.lj.grow Fs (by rw[rk,rk];exact g.next) abt,A1,λq ax=>?_,λe ar id bH az K=>?_,λe ar t N az K=>?_,g.lp bv.rd⟩
 .have⟨e,B,F⟩:=bv.sub M bb;exact⟨e,by rw[bR];simp [B],F⟩
 .rw[bR] at ar;rcases jD.1 ar with ar|ar
  .exact absurd az (Rx e ar).1
  .exact bv.wr e ar az
 .rw[bR] at ar;rcases jD.1 ar with ar|ar
  .rw[abx e ar] at K;cases K
  .exact bv.tmps.val e ar K
 .rcases pK q ax with h|⟨e,B,F,ah,aE⟩
  .have⟨bq,aS,⟨e,bU,cU⟩,eI⟩:=bv.lV q h;exact⟨bq,by rw[mc];exact aS,⟨e,by rw[bR];simp [bU],cU⟩,eI⟩
  .have oD:=bv.lj.next;rw[rk] at oD;have aV:=A1.1 q ax;refine⟨mq oD aE,?_,⟨e,by rw[bR];simp [B],F,ah⟩,λ_=>?_⟩
   .rw[mc];cases Fp:(H.get q.id).live with
    |false=>rfl
    |true=>
     have js:eR q.id:=Y;have:=bv.mH.rel.apE js (by
      rw[(p7 bv.cap bv.apart js).2 λeh g1 g2 g3=>?_]
      .exact Fp
      .have:=bv.apart.1 eh g1;omega)
     rw[rk] at this;omega
   .cases wY:aa q.id with
    |none=>rfl
    |some y=>have:=bv.mH.rel.pH _ _ wY;rw[rk] at this;omega
 .rw[bR] at ar;rcases jD.1 ar with ar|ar
  .exact(Rx e ar).2.2.2 id bH az
  .exact g.gK _ (bv.iE e ar id bH az K)
 .rw[bR] at ar;rcases jD.1 ar with ar|ar
  .exact(Rx e ar).2.2.1 t N az
  .have⟨B,F⟩:=bv.tp e ar t N az K;exact⟨B.congr mc,.inl (g.KZ _ (F.resolve_right id))⟩
def Inv.wrote(bv:Inv P es aP bI T an bg gh ga ii a0 rs b7 a w aa bu H b6 bm)(hp:tm an bg 0 an){i}{D:Oper}(ay:an[i]?=some D)(ad:i∈Region.ready .any an.toArray b7)(iI:¬nu bu i)(aJ:∀d,D.dst=some d->d<aP)(av:∀M,dd (Ev.mk bg i) M->nu bu M){bD}(hle:aa.le bD){v}{V}(eZ:bk bD v V){a8}{aq}{gm}{fE}(mH:gQ bI bD (k6 (b7.setIfInBounds i true) fE aq) a8)(lj:Step gh ga ii bD (k6 (b7.setIfInBounds i true) fE aq) a8)(FZ:Gb aq fE)(RY:∀q∈fE,q∈bm/\(aq.get q.id).live=false/\(b7.getD q.i false=false->bD q.id=none))(N1:∀q∈bm,b7.getD q.i false=false->q∈fE)(wN:∀e∈bu,∀t N,e.k=.load t N->b7.getD e.i false=false->tE P aq t N e.v/\(⟨e.i,N,il P t,e.v⟩:jk)∈gm)(akQ:Fj P gm):Inv P es aP bI T an bg gh ga ii a0 (λ_=>False) (b7.setIfInBounds i true) (a.put D.dst V) a8 bD (⟨i,v,.writer⟩::bu) aq gm fE:=by
 have aI:=FP (uu.1 ad).1;have gL:i<b7.size:=by rw[bv.size];exact(jb.1 ay).1
 have kn:(b7.setIfInBounds i true).getD i false=true:=by simp [gL]
 refine⟨by simp [bv.size],bv.down.add ad,⟨⟨D,ay,aJ,av,iI,trivial⟩,bv.log⟩,λM bb=>?_,λe ar az=>?_,?_,mH,lj,FZ,λq ax=>?_,λe ar id bH az K=>?_,λe ar t N az K=>?_,akQ⟩
 .rcases Mw bb with rfl|bb
  .exact⟨_,qg,rfl⟩
  .have⟨e,B,F⟩:=bv.sub M bb;exact⟨e,by simp [B],F⟩
 .rcases fS.1 ar with rfl|ar
  .exact kn
  .exact zT (bv.wr e ar az)
 .refine bv.tmps.put hp hle ay gL aI aJ (λe ar kc=>?_) λe ar kc=>?_
  .rcases fS.1 ar with rfl|ar
   .exact eZ
   .exact absurd ⟨e,ar,kc⟩ iI
  .rcases fS.1 ar with rfl|ar
   .exact absurd rfl kc
   .exact ar
 .have⟨B,F,ah⟩:=RY q ax;have⟨g1,_,⟨e,g3,g4⟩,_⟩:=bv.lV q B;exact⟨g1,F,⟨e,by simp [g3],g4⟩,λK=>ah (zf K)⟩
 .rcases fS.1 ar with rfl|ar
  .cases az
  .exact N1 _ (bv.iE e ar id bH az (zf K)) (zf K)
 .rcases fS.1 ar with rfl|ar
  .cases az
  .have⟨B,F⟩:=wN e ar t N az (zf K);exact⟨B,.inl F⟩
def akk{ae op call L k aU}(h:(zF P es ae m op).f call L T H b6 bm k aU):∃c8,(hN P es ae op).f call L T (g9 (bm.filter λq=>dd m q.i) H) c8 aU/\∀v aq,c8 v aq->sK m aq b6/\k (v::L) aq (xh m b6) (kX m bm):=by
 unfold zF at h;generalize hN P es ae op=c at h;have⟨f⟩:=c;cases bm with
 |nil=>
  refine⟨_,h,λv aq az=>?_⟩;cases b6 with
  |nil=>exact⟨rfl,az⟩
  |cons r l=>exact eH az
 |cons q l=>have h:AL m (q::l) H (λH=>f call L T H (λv H=>a7 (sK m H b6) (k (v::L) H (xh m b6) (kX m (q::l))) false) aU)=true:=h;rw[N5] at h;exact⟨_,h,λv aq az=>eH az⟩
def afV{i:Nat}{D}{y}{call}{k}{aU}(h:(rt es aP an (fp an bu) D y).f call (hr bu) T H b6 bm k aU):(∀d,D.dst=some d->d<aP)/\(((∀aa a,rP es T an aa D bu a->Region.wanted D (yielded an.toArray a.tmps))/\y.f call (hr bu) T H b6 bm k aU)\/((∀aa a,rP es T an aa D bu a->Region.wanted D (yielded an.toArray a.tmps)=false)/\k (.undef::hr bu) H b6 bm)):=by
 have aJ:∀d,D.dst=some d->Nat.blt d aP=true:=by
  intro d jE;cases ax:Nat.blt d aP with
  |true=>rfl
  |false=>unfold rt at h;simp only[jE,ax] at h;exact bS h
 have h:(match D.guard with
  |none=>y
  |some (M,w)=>match(an[M]?).bind (·.dst) with
   |some d=>Fh (ki es (fp an bu) d) w y
   |none=>AQ).f call (hr bu) T H b6 bm k aU=true:=by
  unfold rt at h
  cases u9:D.dst with
  |none=>simp only[u9] at h;exact h
  |some d=>simp only[u9,aJ d u9] at h;exact h
 refine⟨λd jE=>cZ.1 (aJ d jE),?_⟩;cases br:D.guard with
 |none=>rw[br] at h;exact .inl ⟨λaa a _=>by unfold Region.wanted;rw[br],h⟩
 |some JW=>
  have⟨M,k2⟩:=JW;rw[br] at h;simp only at h;cases jE:(an[M]?).bind (·.dst) with
  |none=>rw[jE] at h;exact bS h
  |some d=>
   rw[jE] at h;simp only at h;have GN:(an.toArray[M]?).bind (·.dst)=some d:=by simpa using jE
   have dg:∀b,(ki es (fp an bu) d).g (hr bu) T=.bool b->∀aa a,rP es T an aa D bu a->Region.wanted D (yielded an.toArray a.tmps)=(b==k2):=λb av aa a K=>(GW br GN (K.guard br jE)).1 b av;have ej:(ki es (fp an bu) d).g (hr bu) T=.undef->∀aa a,rP es T an aa D bu a->Region.wanted D (yielded an.toArray a.tmps)=false:=λav aa a K=>(GW br GN (K.guard br jE)).2 av;generalize ki es (fp an bu) d=g at h dg ej;have⟨g⟩:=g;have⟨y⟩:=y;cases k2 with
   |true=>
    rcases E3 h with⟨b,e,ah⟩|⟨e,ah⟩
    .rcases ic ah with⟨av,aE⟩|⟨av,aE⟩
     .exact .inl ⟨λaa a K=>by rw[dg b e aa a K,av];rfl,aE⟩
     .exact .inr ⟨λaa a K=>by rw[dg b e aa a K,av];rfl,aE⟩
    .exact .inr ⟨ej e,ah⟩
   |false=>
    rcases E3 h with⟨b,e,ah⟩|⟨e,ah⟩
    .rcases ic ah with⟨av,aE⟩|⟨av,aE⟩
     .exact .inr ⟨λaa a K=>by rw[dg b e aa a K,av];rfl,aE⟩
     .exact .inl ⟨λaa a K=>by rw[dg b e aa a K,av];rfl,aE⟩
    .exact .inr ⟨ej e,ah⟩
end
end Go.Ev
