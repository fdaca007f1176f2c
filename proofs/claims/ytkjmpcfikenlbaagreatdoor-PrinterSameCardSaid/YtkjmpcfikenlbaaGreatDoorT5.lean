/- A part. -/
import Derived.Test.YtkjmpcfikenlbaaGreatDoorProg
import Derived.KernelRfl
import Derived.Test.YtkjmpcfikenlbaaGreatDoorT4
set_option linter.all false
namespace Go.Tx
open Go Go.Ev
section
variable{U:ek}{Z:Nat->Nat}{S:c8}{H:bg}
open Classical in
noncomputable def sI(Z:Nat->Nat)(A:bf)(a9:aO)(bm:ek):ek:=λa=>if xv Z A a9 a then none else bm a
variable{a9 aU:aO}{a s:Nat}{A:bf}{bm:ek}
def adh{B}(h:sI Z A a9 bm a=some B):¬xv Z A a9 a/\bm a=some B:=by
 unfold sI at h;simp_all
def VN(h:¬xv Z A a9 a):sI Z A a9 bm a=bm a:=by unfold sI;grind
def ZS{X}{d}{aU bB a9}{az}{bm}(a4:b0 U Z S.A H)(eZ:∀s,cn s bB->cn s aU/\cn s a9=false)(mB:∀s,cn s aU->cn s bB\/cn s a9)(hle:(h8 U Z S.A H aU).le bm)(aD:H.next<=az.next)(bI:∀a,a<H.next->az.get a=H.get a)(a1:∀a B,bm a=some B->az.get a=xU B/\a<az.next)(sU:∀a B,bm a=some B->h8 U Z S.A H aU a=some B\/H.next<=a):fM X d U Z H S (sI Z S.A a9 bm) Z az (S.fZ bB):=by
 have se:=fM.fZ (X:=X) (d:=d) (S:=S) a4 bB;have RI:(h8 U Z S.A H bB).le (sI Z S.A a9 bm):=by
  intro a B aV;by_cases I6:xv Z S.A bB a
  .obtain⟨s,bH,aP,a3,cW,rfl⟩:=I6;rw[xa a4 aP a3 cW]at aV;rw[VN]
   .refine hle _ _ ?_;simp_all[xa]
   .rintro⟨dx,dP,f1,f2,f3,f4⟩;have:=a4.inj dx s _ _ f2 a3 f3 cW f4;simp_all
  .rw[Em I6]at aV;rw[VN]
   .exact hle _ _ (rk a4 _ _ aV)
   .rintro⟨dx,dP,f1,f2,f3,rfl⟩;rw[(a4.lt dx dP f2 f3).2]at aV;grind
 have agC:∀a B,sI Z S.A a9 bm a=some B->h8 U Z S.A H bB a=some B\/H.next<=a:=by
  intro a B aV;have⟨c4,cl⟩:=adh aV;rcases sU _ _ cl with h|h
  .refine .inl ?_;by_cases I6:xv Z S.A aU a
   .obtain⟨s,bH,aP,a3,cW,rfl⟩:=I6;rcases mB s aP with q|q
    .simp_all[xa]
    .exact absurd ⟨s,bH,q,a3,cW,rfl⟩ c4
   .rw[Em I6]at h;exact rk a4 _ _ h
  simp_all
 have G0:∀{A:bf},jV id (h8 U Z S.A H bB) Z A (sI Z S.A a9 bm) Z A:=λ{A} e v h=>by
  cases e with
  |J t=>exact bR.mono RI _ _ h|_=>exact h
 have td:b0 (sI Z S.A a9 bm) Z (S.fZ bB).A az:=by
  refine⟨λa B aV=>a1 a B (adh aV).2,λs B Y ag=>?_,se.ok.inj,λs B Y=>?_⟩
  .have:=se.ok.lt s B Y ag;refine⟨pD this.1 aD,?_⟩;cases ar:sI Z S.A a9 bm (Z s)<;>grind
  .have:=(se.ok.obj s B Y).iB (bm:=sI Z S.A a9 bm) (bE:=(S.fZ bB).A) (az:=az) G0 RI rfl λag=>bI _ (se.ok.lt s B Y ag).1;have e:g8 id B=B:=by
    cases B with
    |box ak z aJ=>cases aJ<;>simp[g8]
    |bF=>rfl
   simp_all
 have agY:fM X d (h8 U Z S.A H bB) Z H (S.fZ bB) (sI Z S.A a9 bm) Z az (S.fZ bB):=by have:=fM.of_map (S:=S.fZ bB) (X:=X) (d:=d) (H:=H) G0 td ⟨λa B h _=>RI a B h,aD,λa aC _ _=>bI a aC,λa B aV=>(agC a B aV).elim .inl λh=>.inr (.inl h),λs B Y ag=>.inr ⟨s,B,Y,ag,rfl,λh=>h⟩⟩ (λ_ _=>rfl) (λ_ _ h=>h) o1.id λ_ _ _ _ _=>⟨rfl,rfl,rfl⟩;rwa[show(S.fZ bB).L.map (dF id)=(S.fZ bB).L from by rw[show(dF id)=id from tZ sT];simp,show(S.fZ bB).E.map (dF id)=(S.fZ bB).E from by rw[show(dF id)=id from tZ sT];simp]at this
 exact se.trans agY
def aeJ{A:bf}:∀{l:aO}{s:Nat}{B:fB},cn s l=true->look A s=some B->cn (match B with|.box ak _ _=>ak|.bF ak _ _ _=>ak) (s7 A l)=true
 |[],_,_,h,_=>by cases h
 |a::l,s,B,h,Y=>by
  simp[cn]at h;cases q:Nat.beq a s with
  |true=>have:=dA.1 q;subst this;simp[s7,Y];cases B<;>simp only[cn,dA.2 rfl]
  |false=>
   rw[q]at h;have:=aeJ (l:=l) h Y;grind[s7,cn]
def ahO{aU a9:aO}{bm:ek}(a4:b0 U Z S.A H)(mB:∀s,cn s a9->cn s aU)(hle:(h8 U Z S.A H aU).le bm):bm.jz (s7 S.A a9) (sI Z S.A a9 bm):=by
 intro a B aV M;rw[VN]
 .grind
 .rintro⟨s,bH,aP,a3,cW,rfl⟩;have D:=hle _ _ (xa a4 (mB s aP) a3 cW);rw[aV]at D;cases D;have F:=aeJ aP a3;have aq:=a4.obj s bH a3;cases bH with
  |box ak z aJ=>have⟨ax,aj,_⟩:=aq;simp_all[mQ,Jh,JJ]|bF ak z Q u=>have⟨ax,aj,_⟩:=aq cW;simp_all[mQ,Jh,JJ]
def afT(h:cn s (z0 A aU)):cn s aU/\cn s (uF A aU)=false:=by
 rw[uo]at h;unfold z0 at h;rw[l6]at h;refine⟨uo.2 h.1,?_⟩;cases q:cn s (uF A aU)with
 |false=>rfl|true=>simp_all[uo,uF]
def ahY(h:cn s (uF A aU)):cn s aU:=by simp_all[uo,uF]
def anK(h:cn s aU):cn s (z0 A aU)\/cn s (uF A aU):=by
 rw[uo]at h;cases q:nW A s with
 |true=>exact .inl (uo.2 (l6.2 ⟨h,q⟩))
 |false=>exact .inr (uo.2 (l6.2 ⟨h,by rw[q];rfl⟩))
end
def DF:∀{l}{t},cn t l=true↔t∈l
 |[],t=>by simp[cn]
 |a::l,t=>by
  simp[cn];cases q:Nat.beq a t with
  |true=>simp_all
  |false=>
   simp only[DF,hS];have:=tu q;grind
def GJ:∀{l m},kS l m->∀t,t∈l->t∉m
 |[],_,_,t,h=>by grind
 |a::l,m,h,t,au=>by
  simp[kS]at h;have dv:∀(m:aO),kS.GW a m=false->a∉m:=by
   intro m;induction m with
   |nil=>simp_all
   |cons b m bQ=>
    intro h;simp[kS.GW]at h;cases q:Nat.beq b a with
    |true=>simp_all|false=>rw[q]at h;simp;exact⟨λe=>tu q e.symm,bQ h⟩
  simp at au;rcases au with rfl|au
  .simp_all
  .exact GJ h.2 t au
section
variable{C:Nat->cE}{S:c8}
def aib(C:Nat->cE)(X:aO)(d:Nat)(g:b9)(args:bK)(S:c8)(k:a2->c8->Prop):Prop:=
 ∃f b5 cV,g=.fn f b5 cV/\∀(U:ek)(Z:Nat->Nat)(H:bg)(jg dw cQ:cx),b0 U Z S.A H->c5 U b5 jg->f9 U Z S.A args dw->c5 U cV cQ->
  ∃e ei v az bm b2,k e ei/\(∃cS,∀m,cS<=m->∀k,C m f (jg++(dw++cQ)) H k=k (.val v) az)/\fM X d U Z H S bm b2 az ei/\co bm b2 ei.A e v
def Hk{U Z H a9 aU ej r}(a4:b0 U Z S.A H)(aB:rE a9 (S.fZ aU).A 1000 a9=some ej)(aY:lw a9)(Gd:kS aU a9):∀{args:bK}{i}{dw:bK}{fV},k8 r a9 (keeps S.A aU) i args=some dw->f9 U Z S.A args fV->f9 (h8 U Z S.A H aU) (vg Z a9) ej dw fV
 |[],i,dw,fV,h,aI=>by simp[k8]at h;subst h;exact aI
 |e::args,i,dw,fV,h,aI=>by
  obtain⟨v,aK,rfl,aj,an⟩:=aI;have aaX:∀(s:Nat)(e:a2),(e=.bN s 0\/e=.bD s)->dE U Z S.A e v->co (h8 U Z S.A H aU) (vg Z a9) ej (qT a9 1000 e) v:=by
   intro s e aw aj;have hm:=aa3 (U:=h8 U Z S.A H aU) (Z:=Z) aB aY;by_cases ap:s∈a9
   .have C9:cn s aU=false:=by
     cases q:cn s aU with
     |false=>rfl|true=>exact absurd ap (GJ Gd s (DF.1 q))
    have:dE (h8 U Z S.A H aU) Z (S.fZ aU).A e v:=by
     cases aU with
     |nil=>rw[UV];exact aj
     |cons a aU=>
      have:=SI a4 (aU:=a::aU) _ _ aj;have ar:look (keeps S.A (a::aU)) s=none:=by rw[HG,C9]
      rcases aw with rfl|rfl
      .simp[lZ,ar]at this;exact this
      .simp[lZ,ar]at this;exact this
    exact(hm _ _ this).aA
   .have:qT a9 1000 e=.J .undef:=by
     rcases aw with rfl|rfl
     all_goals
      simp only[qT]
      cases q:place a9 1000 s with
      |none=>rfl|some j=>have⟨n,_,aD⟩:=JL q;grind
    simp_all[co,dE,bR]
  unfold k8 at h;split at h
  .rename_i s _;have⟨jh,D,h⟩:=it h;cases h;exact⟨v,aK,rfl,aaX s _ (.inl rfl) aj,Hk a4 aB aY Gd D an⟩
  .rename_i s _;have⟨jh,D,h⟩:=it h;cases h;exact⟨v,aK,rfl,aaX s _ (.inr rfl) aj,Hk a4 aB aY Gd D an⟩
  .have⟨t,jh,D,F,h⟩:=qW h;cases h;exact⟨v,aK,rfl,KQ a4 D aj,Hk a4 aB aY Gd F an⟩
def aaU:∀{l m},xD l m->∀x,cn x l->cn x m
 |[],_,_,x,h=>by cases h
 |a::l,m,h,x,M=>by
  simp[xD]at h;simp[cn]at M;cases q:Nat.beq a x with
  |true=>simp_all|false=>rw[q]at M;exact aaU h.2 x M
def XL{bo g iy args k d}(h:uJ (dH C) bo g iy args S k):aib C bo.dL d g args S k:=by
 obtain⟨r,hr,X,h⟩:∃(r:Nat->Bool)(hr:Bool)(X:aO),(match reach S.A 9 [] (o5 r 0 args),mn ((tB r 0 args).flatMap (f6 S.A 3))with
  |[],aU=>match hr with
   |true=>hG (dH C) (k8 r [] (keeps S.A aU) 0 args) λdw=>(dH C).call [] g dw [] λv _=>t3 (yu v) (k (.J v) S) (t3 (!cf (s7 S.A (uF S.A aU)) v) (k (.J v) (S.fZ (z0 S.A aU))) (dH C).fail)|false=>hG (dH C) (k8 r [] (keeps S.A aU) 0 args) λdw=>(dH C).call [] g dw [] λv _=>k (.J v) (S.fZ aU)
  |a9,aU=>match mn (aU++a9.flatMap (t4 S.A))with
   |aU=>match kS aU a9&&lw a9&&xD (fq X) (fq bo.dL)&&xc a9 X bo.dL with
    |true=>hG (dH C) (k8 r a9 (keeps S.A aU) 0 args) λdw=>match S.fZ aU with
     |ow=>hG (dH C) (rE a9 ow.A 1000 a9) λej=>(dH C).call X g dw ej λv ej=>hG (dH C) (sB a9 1000 a9 ej (ow.bJ (fq X)).A) λA=>k (.J v) ⟨(ow.bJ (fq X)).L,(ow.bJ (fq X)).E,A⟩
    |false=>(dH C).fail):=by
  cases iy with
  |none=>exact⟨λ_=>false,false,[],h⟩|some g=>exact⟨bo.sA g,bo.flat g,bo.mt g,h⟩
 generalize mB:reach S.A 9 [] (o5 r 0 args)=a9 at h;generalize C9:mn ((tB r 0 args).flatMap (f6 S.A 3))=aU at h;have agV:∀(args:bK)(i:Nat)(a9:aO)(A:bf),o5 r i args=[]->k8 r a9 A i args=k8 (λ_=>false) a9 A i args:=by
  intro args;induction args with
  |nil=>intro i a9 A _;rfl
  |cons e args bQ=>
   intro i a9 A aB;simp[o5]at aB;simp[k8];grind
 have apI:∀l,reach S.A 9 [] l=[]->l=[]:=by
  have G0:∀(n:Nat)(done l:aO),done≠[]->reach S.A n done l≠[]:=by
   intro n;induction n with
   |zero=>intro done l h;exact h
   |succ n bQ=>
    intro done l h;cases l with
    |nil=>exact h
    |cons s l=>
     simp only[reach];cases cn s done<;>simp_all
  intro l h;cases l with
  |nil=>rfl|cons s l=>simp_all[reach,cn]
 cases a9 with
 |nil=>
  have UC:=apI _ mB;simp at h;rw[agV args 0 [] (keeps S.A aU) UC]at h;cases hr with
  |true=>
   obtain⟨dw,D,f,b5,cV,rfl,F⟩:=kJ h;refine⟨f,b5,cV,rfl,λU Z H jg fV cQ a4 M aC aE=>?_⟩;have⟨fC,bE,v,az,bm,aq,aj,an,aM,bs,cp,dj,ip⟩:=LD (S:=S) (args:=args) (aU:=aU) F D U Z H jg fV cQ a4 M aC aE;cases q:yu fC with
   |true=>rw[q]at aq;have:fM bo.dL d U Z H S (sI Z S.A aU bm) Z az S:=ZS (X:=bo.dL) (d:=d) (bB:=[]) (a9:=aU) a4 (λs ap=>by cases ap) (λs ap=>.inr ap) aM bs cp dj ip;exact⟨_,_,v,az,_,Z,aq,aj,this,aok q an⟩
   |false=>
    rw[q]at aq;cases aX:cf (s7 S.A (uF S.A aU)) fC with
    |true=>rw[aX]at aq;exact aq.elim|false=>rw[aX]at aq;exact⟨_,_,v,az,_,Z,aq,aj,ZS (X:=bo.dL) (d:=d) a4 (λs ap=>afT ap) (λs ap=>anK ap) aM bs cp dj ip,bR.jz (ahO (aU:=aU) a4 (λs ap=>ahY ap) aM) _ _ aX an⟩
  |false=>obtain⟨dw,D,f,b5,cV,rfl,F⟩:=kJ h;refine⟨f,b5,cV,rfl,λU Z H jg fV cQ a4 M aC aE=>?_⟩;have⟨fC,bE,v,az,bm,aq,aj,an,aM,bs,cp,dj,ip⟩:=LD (S:=S) (args:=args) (aU:=aU) F D U Z H jg fV cQ a4 M aC aE;exact⟨_,_,v,az,bm,Z,aq,aj,agN a4 aM bs cp dj ip,an⟩
 |cons b a9=>
  simp only at h;generalize alc:mn (aU++(b::a9).flatMap (t4 S.A))=oT at h;cases q:(kS oT (b::a9)&&lw (b::a9)&&xD (fq X) (fq bo.dL)&&xc (b::a9) X bo.dL)with
  |false=>simp[q]at h;exact h.elim
  |true=>simp[q]at h;simp at q;obtain⟨⟨⟨bC,aX⟩,b4⟩,dc⟩:=q;have⟨dw,D,h⟩:=kJ h;have⟨ej,F,f,b5,cV,bI,ap⟩:=kJ h;refine⟨f,b5,cV,bI,λU Z H jg fV cQ a4 M aC aE=>?_⟩;have bB:=fM.fZ (X:=bo.dL) (d:=d) (S:=S) a4 oT;have hle:U.le (h8 U Z S.A H oT):=rk a4;have B3:=MR bB.ok F aX;have sJ:=Hk a4 F aX bC D aC;have om:=((M.zW hle).lC (A:=ej) (Z:=vg Z (b::a9))).append (sJ.append (aE.zW hle).lC);have⟨fC,kL,v,az,bm,b2,e5,cT,cN,el,e0,gB⟩:=ap _ _ H _ B3 om;have⟨J5,aq,cr⟩:=kJ e5;rw[agU]at aq cr;have⟨cD,dp,ga,fX⟩:=Pq (et:=bo.dL) (λ_ h=>h) (aaU b4) dc bB.ok F aX cN el gB aq;exact⟨_,_,v,az,bm,Z,cr,cT,bB.trans (fM.of_map ga cD dp (λ_ _=>rfl) (λs _ h=>fX s h) (Sp _) λs _ _=>UM _ s),e0⟩
end
section
variable{C:Nat->cE}{P:dK}{es:aO}{ah:dM}{S:c8}{X:aO}{d:Nat}
def qa(C:Nat->cE)(X:aO)(d:Nat)(es:aO)(f:cE->cx->ca->bg->(bp->bg->Bool)->(bp->bg->Bool)->Bool)(S:c8)(k:a2->c8->Prop):Prop:=
 ∀(U:ek)(Z:Nat->Nat)(H:bg)(L:cx)(T:ca),b0 U Z S.A H->f9 U Z S.A S.L L->gR U Z S.A es.length S.E T->
  ∃e ei v az bm b2,k e ei/\(∃cS,∀m,cS<=m->∀k a8,f (C m) L T H k a8=k v az)/\fM X d U Z H S bm b2 az ei/\co bm b2 ei.A e v
variable{k:a2->c8->Prop}{x y:Operand}
def aqY{op}(aQ:me P op=.pure)(h:hG (dH C) (vx P es ah S op) λv=>k v S):qa C X d es (og P es ah op).f S k:=by have⟨e,D,F⟩:=kJ h;intro U Z H L T a4 cB bY;have⟨v,aj,an⟩:=ack cB bY D;refine⟨e,S,v,H,U,Z,F,⟨0,λm _ k a8=>?_⟩,fM.refl a4,an⟩;unfold og;simp_all
def XU{g:Bool}{d cC}{r eH:a2×c8}{X}{S:c8}{v:bp}{U Z H bm b2 az}(h:Ad g cC r=some eH)(bB:fM X d U Z H S bm b2 az r.2)(aI:co bm b2 r.2.A r.1 v):∃sD,fM X d U Z H S sD b2 az eH.2/\co sD b2 eH.2.A eH.1 v:=by
 unfold Ad at h;cases g with
 |false=>grind
 |true=>
  simp at h;split at h
  .rename_i t au;cases h;exact⟨_,bB.trans (fM.fZ bB.ok [cC]),KQ bB.ok au aI⟩
  grind
def arY{g:Bool}{d}{e:a2}{eH:a2×c8}{X}{S adF:c8}{v:bp}{U Z H bm b2 az}(h:GV g e S=some eH)(bB:fM X d U Z H adF bm b2 az S)(aI:co bm b2 S.A e v):∃sD,fM X d U Z H adF sD b2 az eH.2/\co sD b2 eH.2.A eH.1 v:=by
 unfold GV at h;cases g with
 |false=>grind
 |true=>
  simp at h;split at h
  .exact XU (r:=(_,S)) h bB aI
  grind
def ajS{t}{g:Bool}(h:hG (dH C) (wI P t S.A (ey es ah S x)) λv=>hG (dH C) (GV g v S) λr=>k r.1 r.2):qa C X d es (im P es ah (.load t x)).f S k:=by have⟨e,D,F⟩:=kJ h;have⟨r,aq,aL⟩:=kJ F;intro U Z H L T a4 cB bY;have⟨v,aj,an⟩:=PN a4 D (lf (ah:=ah) cB bY x);have⟨sD,aM,bs⟩:=arY (X:=X) (d:=d) aq (fM.refl a4) an;refine⟨r.1,r.2,v,H,sD,Z,aL,⟨0,λm _ k a8=>?_⟩,aM,bs⟩;unfold im;simp_all
def aey{t}(br:yd X (ey es ah S x)=false)(h:hG (dH C) (yS P t S (ey es ah S x) (ey es ah S y)) λA=>k (.J .undef) ⟨S.L,S.E,A⟩):qa C X d es (im P es ah (.store t x y)).f S k:=by
 have⟨A,D,F⟩:=kJ h;intro U Z H L T a4 cB bY;have⟨az,aj,an,aM,bs⟩:=arR (X:=X) a4 D br (lf (ah:=ah) cB bY x) (lf (ah:=ah) cB bY y);have bB:=fM.of_map (S:=S) (d:=d) (Shape.map bs (U:=U) (Z:=Z)) an aM (λ_ _=>rfl) (λs _ h=>by
  cases q:look A s with
  |none=>rfl
  |some B=>
   cases B with
   |box ak z aJ=>have⟨fC,D⟩:=bs.1 _ _ _ _ q;simp_all
   |bF ak z Q u=>have⟨fC,_,D⟩:=bs.2 _ _ _ _ _ q;simp_all) o1.id λ_ _ _ _ _=>⟨rfl,rfl,rfl⟩
 rw[show S.L.map (dF id)=S.L from by rw[show(dF id)=id from tZ sT];simp,show S.E.map (dF id)=S.E from by rw[show(dF id)=id from tZ sT];simp]at bB;refine⟨_,_,.undef,az,U,Z,F,⟨0,λm _ k a8=>?_⟩,bB,by simp[co,dE,bR]⟩;unfold im;simp_all
def acL{L T H az}{t}(aj:∀k,(px P t).f ((eF es ah x).g L T) ((eF es ah y).g L T) H k=k az):∃cS,∀m,cS<=m->∀k a8,(im P es ah (.store t x y)).f (C m) L T H k a8=k .undef az:=by refine⟨0,λm _ k a8=>?_⟩;unfold im;simp_all
def ael{x et a9}(h:cn x (fq et)):xc a9 X et:=by
 cases et with
 |nil=>rfl
 |cons a l=>cases a with
  |zero=>cases h
  |succ a=>rfl
def alI{bo}{t}(h:Ce (dH C) bo P t S (ey es ah S x) (ey es ah S y) k):qa C bo.dL d es (im P es ah (.store t x y)).f S k:=by
 unfold Ce at h;split at h
 .rename_i p v bq aI;split at h
  .rename_i q;simp at q;obtain⟨⟨⟨⟨_,_⟩,b4⟩,aX⟩,_⟩:=q;have⟨ej,F,ap⟩:=kJ h;intro U Z H L T a4 cB bY;have aj:=lf (ah:=ah) cB bY x;have an:=lf (ah:=ah) cB bY y;rw[bq]at aj;rw[aI]at an;have B3:=MR a4 F aX;have⟨nI,kL,az,bm,b2,e5,cT,cN,el,gB,_⟩:=ap U _ H _ _ _ B3 aj an .nil;have⟨J5,aq,cr⟩:=kJ e5;have eC:∀x,cn x (fq [nz p / 4])=true->cn x (fq bo.dL)=true:=λx M=>by have:=uo.1 (It M);simp_all
   have⟨cD,dp,ga,fX⟩:=Pq (et:=bo.dL) (λ_ h=>It h) eC (ael b4) a4 F aX cN el gB aq;exact⟨_,_,.undef,az,bm,Z,cr,acL cT,fM.of_map ga cD (dp) (λ_ _=>rfl) (λs _ h=>fX s h) (Sp _) λs _ _=>UM _ s,by simp[co,dE,bR]⟩
  .exact h.elim
 .split at h
  .exact h.elim
  simp_all[aey]
end
section
variable{C:Nat->cE}{P:dK}{es:aO}{ah:dM}{S:c8}
variable{L:cx}{T:ca}
def Dm{U Z}(cB:f9 U Z S.A S.L L)(bY:gR U Z S.A es.length S.E T):∀l,f9 U Z S.A (l.map (ey es ah S)) ((qh es ah l).g L T)
 |[]=>rfl
 |x::l=>by have D:=lf (ah:=ah) cB bY x;have F:=Dm cB bY l;exact⟨_,_,rfl,D,F⟩
def Fc{f n jg cQ args}(h:(eF es ah f).g L T=.fn n jg cQ)(call)(H)(k a8):(qZ es ah f args).f call L T H k a8=call n (jg++((qh es ah args).g L T++cQ)) H λr H=>zM r (λv=>k v H) (λv=>a8 v H):=by
 unfold qZ;generalize bI:eF es ah f=g at h;have⟨g⟩:=g;cases f with
 |func f=>
  simp only[eF]at bI;have:g=λ_ _=>bp.fn f [] []:=by cases bI;rfl
  simp_all
 |_=>simp only;simp only at h;rw[h];simp only[C5,q8];rfl
def anq{d:Nat}{bo:kH}{f:Operand}{args:List Operand}{k:a2->c8->Prop}(h:match ey es ah S f with
 |.J g=>uJ (dH C) bo g (Db f) (args.map (ey es ah S)) S k|.fn g b5 cV=>uJ (dH C) bo (.fn g [] []) (some g) (b5++(args.map (ey es ah S)++cV)) S k
 |_=>(dH C).fail):qa C bo.dL d es (qZ es ah f args).f S k:=by
 generalize a1:ey es ah S f=uN at h
 cases uN with
 |J g=>obtain⟨n,b5,cV,rfl,F⟩:=XL (d:=d) h;intro U Z H L T a4 cB bY;have aq:=lf (ah:=ah) cB bY f;rw[a1]at aq;have⟨jg,cQ,cW,aL,bO⟩:=aq;have⟨e,ei,v,az,bm,b2,AI,⟨cS,aj⟩,an,aM⟩:=F U Z H jg _ cQ a4 aL (Dm cB bY args) bO;refine⟨e,ei,v,az,bm,b2,AI,⟨cS,λm hm k a8=>?_⟩,an,aM⟩;rw[Fc cW,aj m hm];rfl
 |fn g b5 cV=>have⟨n,iT,AM,bI,F⟩:=XL (d:=d) h;cases bI;intro U Z H L T a4 cB bY;have aq:=lf (ah:=ah) cB bY f;rw[a1]at aq;simp only[co]at aq;have⟨jg,cQ,cW,aL,bO⟩:=aq;have⟨e,ei,v,az,bm,b2,AI,⟨cS,aj⟩,an,aM⟩:=F U Z H [] _ [] a4 rfl ((co.eU aL).append ((Dm cB bY args).append (co.eU bO))) rfl;refine⟨e,ei,v,az,bm,b2,AI,⟨cS,λm hm k a8=>?_⟩,an,aM⟩;rw[Fc cW];simp_all
 |_=>exact h.elim
end
section
variable{C:Nat->cE}{P:dK}{es:aO}{ah:dM}{S:c8}{X:aO}
variable{H:bg}{d:Nat}{U:ek}{Z:Nat->Nat}
def ajw{f}(B):(g8 f B).real=B.real:=mi ..
def St{iR B}(a4:b0 U Z S.A H)(ag:B.real)(aD:xV U Z S.A iR B):fM X d U Z H S U (mc Z d H.next) (H.add iR) (S.put d (g8 (e1 d) B)):=by
 have hm:=yB (U:=U) (Z:=Z) (A:=S.A) (s:=d) H.next (g8 (e1 d) B);have bI:=AT H iR;refine fM.of_map hm (a4.put (by simp_all) bI.1 (λ_=>⟨by simp_all,?_⟩) (λh=>?_)) (fz.put a4 (by simp_all) bI.1) (λs q=>j6 q) (λs q e=>Bz q e) (yh d) λs q _=>yz q
 .cases B with
  |box ak z aJ=>
   obtain⟨ax,rfl,an,aM,bs⟩:=aD;have cp:=hm.row (ek.le_refl U) bs;cases aJ with
   |cb l=>exact⟨ax,by simp_all[m2],an,aM,cp⟩
   |bS l=>exact⟨ax,by simp_all[m2],an,aM,cp⟩
  |bF ak z Q u=>obtain⟨ax,rfl,an,aM,bs⟩:=aD;exact λ_=>⟨ax,by simp_all[m2],an,aM,bs⟩
 simp_all[ajw]
def adA{A}:∀{args:bK}{bX:di}{fV},g7 LG args=some bX->f9 U Z A args fV->c5 U bX fV
 |[],bX,fV,h,aI=>by cases h;simp_all[f9,c5]
 |e::args,bX,fV,h,aI=>by
  obtain⟨v,aK,rfl,aj,an⟩:=aI;cases e with
  |J t=>
   simp[g7]at h;cases q:g7 LG args with
   |none=>rw[q]at h;cases h
   |some r=>rw[q]at h;cases h;exact .cons aj (adA q an)
  |_=>cases h
def agr{bm a z aJ az ak ax}(a4:b0 U Z S.A H)(hle:U.le bm)(aD:H.next<=az.next)(bI:∀b,b<H.next->az.get b=H.get b)(a1:∀b B,bm b=some B->az.get b=xU B/\b<az.next)(sU:∀b B,bm b=some B->U b=some B\/H.next<=b)(D:H.next<=a)(F:a<az.next)(aq:bm a=none)(aL:az.get a=.cells ax 1 z ak false false)(bO:1<=ax.cap)(cr:0<z)(fK:aJ.length=z)(hI:c5 bm aJ (ax.row 0)):fM X d U Z H S bm (mc Z d a) az (S.put d (.box ak z (.cb aJ))):=by
 have fR:∀t bH,look ((d,fB.box ak z (.cb aJ))::gh (e1 d) (rem S.A d)) t=some bH->(t=d/\bH=.box ak z (.cb aJ))\/(t≠d/\∃cL,look S.A t=some cL/\bH=g8 (e1 d) cL):=λt bH au=>by
  rw[iC]at au;by_cases e:t=d
  .simp_all
  .rw[cO e,nB,rU,cO e]at au;cases ar:look S.A t<;>simp_all
 have hm:jV (e1 d) U Z S.A bm (mc Z d a) ((d,fB.box ak z (.cb aJ))::gh (e1 d) (rem S.A d)):=λe v h=>by
  have br:=yB (U:=U) (Z:=Z) (A:=S.A) (s:=d) a (.box ak z (.cb aJ)) e v h;cases ar:e1 d e with
  |J t=>rw[ar]at br;exact bR.mono hle _ _ br|_=>rw[ar]at br;exact br
 have low:∀t cL,look S.A t=some cL->cL.real=true->Z t<H.next/\bm (Z t)=none:=λt cL Y ag=>by
  have g:=a4.lt t cL Y ag;refine⟨g.1,?_⟩;cases ar:bm (Z t)<;>grind
 refine fM.of_map hm ⟨a1,λt bH au ag=>?_,λt a6 cL dP au iL ag f7 e=>?_,λt bH au=>?_⟩ ⟨λb B aV _=>hle b B aV,aD,λb aB _ _=>bI b aB,λb B aV=>(sU b B aV).elim .inl λh=>.inr (.inl h),λt bH au ag=>?_⟩ (λs q=>j6 q) (λs q e=>Bz q e) (yh d) λs q _=>yz q
 .rcases fR t bH au with⟨rfl,rfl⟩|⟨ed,cL,Y,rfl⟩
  .simp_all[m2]
  .rw[j6 ed];rw[mi]at ag;grind
 .rcases fR t cL au with⟨rfl,rfl⟩|⟨ed,ic,aj,rfl⟩<;>rcases fR a6 dP iL with⟨rfl,rfl⟩|⟨Eu,hF,an,rfl⟩
  .rfl
  .rw[m2,j6 Eu]at e;rw[mi]at f7;grind
  .rw[m2,j6 ed]at e;rw[mi]at ag;grind
  .rw[j6 ed,j6 Eu]at e;rw[mi]at ag f7;exact a4.inj t a6 ic hF aj an ag f7 e
 .rcases fR t bH au with⟨rfl,rfl⟩|⟨ed,cL,Y,rfl⟩
  .exact⟨ax,by rw[m2];grind,bO,cr,fK,hI⟩
  .exact(a4.obj t cL Y).iB hm hle (j6 ed) λag=>bI _ (a4.lt t cL Y ag).1
 .rcases fR t bH au with⟨rfl,rfl⟩|⟨ed,cL,Y,rfl⟩
  .simp_all[m2]
  .rw[j6 ed];rw[mi]at ag;exact .inr ⟨t,cL,Y,ag,rfl,λh=>by rw[BP];exact h⟩
def abX{d:Nat}{f:Operand}{args:List Operand}{k:a2->c8->Prop}(h:match ey es ah S f with
 |.J g=>TA (dH C) d g (args.map (ey es ah S)) S k
 |_=>(dH C).fail):qa C X d es (qZ es ah f args).f S k/\∀(U:ek)(Z:Nat->Nat)(H:bg)(L:cx)(T:ca),b0 U Z S.A H->f9 U Z S.A S.L L->gR U Z S.A es.length S.E T->
 ∃cS v az,(∀m,cS<=m->∀k a8,(qZ es ah f args).f (C m) L T H k a8=k v az)/\∀a,a<H.next->az.get a=H.get a:=by
 generalize a1:ey es ah S f=uN at h
 cases uN with
 |J g=>
  obtain⟨bX,D,n,b5,cV,rfl,F⟩:=kJ h;have rV:∀(U:ek)(Z:Nat->Nat)(H:bg)(L:cx)(T:ca),b0 U Z S.A H->f9 U Z S.A S.L L->gR U Z S.A es.length S.E T->
   ∃ak z aJ a az bm,k (.bN d 0) (S.put d (.box ak z (.cb aJ)))/\(∃cS,∀m,cS<=m->∀k a8,(qZ es ah f args).f (C m) L T H k a8=k (.ptr a 0 0 z) az)/\fM X d U Z H S bm (mc Z d a) az (S.put d (.box ak z (.cb aJ)))/\∀b,b<H.next->az.get b=H.get b:=by
   intro U Z H L T a4 cB bY
   have aq:=lf (ah:=ah) cB bY f
   rw[a1]at aq
   have⟨jg,cQ,cW,aL,bO⟩:=aq
   have cr:=adA D (Dm (ah:=ah) cB bY args)
   have IB:b0 U Z [] H:=⟨a4.e6,λs B h=>(by cases h),λs dx B bH h=>(by cases h),λs B h=>(by cases h)⟩
   have⟨ak,z,aJ,a,ax,az,bm,q,⟨cS,aj⟩,an,aM,bs,cp,dj,ip,ms,Nz,Ly,aot,ak4,agM,ahS⟩:=F U Z H _ IB (aL.append (cr.append bO))
   refine⟨ak,z,aJ,a,az,bm,q,⟨cS,λm hm k a8=>?_⟩,agr a4 an aM bs cp dj ip ms Nz Ly aot ak4 agM ahS,bs⟩
   rw[Fc cW,aj m hm]
   rfl
  refine⟨λU Z H L T a4 cB bY=>?_,λU Z H L T a4 cB bY=>?_⟩
  .have⟨ak,z,aJ,a,az,bm,q,aj,an,_⟩:=rV U Z H L T a4 cB bY;refine⟨_,_,_,az,bm,_,q,aj,an,λe8 cJ gj Y=>?_⟩;have:look (S.put d (.box ak z (.cb aJ))).A d=some (.box ak z (.cb aJ)):=by show look ((d,fB.box ak z (.cb aJ))::_) d=_;rw[iC,ev rfl]
   rw[this]at Y;cases Y;rw[m2]
  .have⟨ak,z,aJ,a,az,bm,q,⟨cS,aj⟩,an,aM⟩:=rV U Z H L T a4 cB bY;exact⟨cS,_,az,aj,aM⟩
 |_=>exact h.elim
end
section
variable{C:Nat->cE}{P:dK}{es:aO}{ah:dM}{S:c8}{bo:kH}{X:aO}
def xH(l:bK):l.map (dF id)=l:=by rw[show(dF id)=id from tZ sT];simp
def Y9(B):g8 id B=B:=by
 cases B with
 |box ak z aJ=>cases aJ<;>simp[g8]
 |bF=>rfl
variable{d:Nat}
def amT{iR U Z H}(hu:xU iR=iR)(a4:b0 U Z S.A H):fM X d U Z H S (λa=>if a=H.next then some iR else U a) Z (H.add iR) S:=by
 have bI:=AT H iR;have hle:U.le (λa=>if a=H.next then some iR else U a):=λa B aV=>by have:=(a4.e6 a B aV).2;grind
 have hm:jV id U Z S.A (λa=>if a=H.next then some iR else U a) Z S.A:=λe v h=>by
  cases e with
  |J t=>exact bR.mono hle _ _ h|_=>exact h
 have akG:S.L.map (dF id)=S.L:=xH _;have aox:S.E.map (dF id)=S.E:=xH _;refine⟨⟨λa B aV=>?_,λs B Y ag=>?_,a4.inj,λs B Y=>?_⟩,⟨λa B h _=>hle a B h,by simp_all,λa aC _ _=>bI.1 a aC,λa B aV=>?_,λs B Y ag=>.inr ⟨s,B,Y,ag,rfl,λh=>h⟩⟩,λ_ _=>rfl,λ_ _ h=>h,id,o1.id,λ_ _ _ _ _=>⟨rfl,rfl,rfl⟩,akG.symm,aox.symm,hm⟩
 .by_cases e:a=H.next
  .simp_all
  .simp[cO e]at aV;have:=a4.e6 a B aV;grind
 .have:=a4.lt s B Y ag;grind
 .have:=(a4.obj s B Y).iB (az:=H.add iR) hm hle rfl λag=>bI.1 _ (a4.lt s B Y ag).1;rwa[Y9]at this
 grind
def aiU{op k}(aQ:me P op=.sO)(h:NJ (dH C) bo P es ah d op S k):qa C X d es (og P es ah op).f S k:=by
 have⟨r,D,F⟩:=kJ h;have dv:∀(c:cE)(L:cx)(T:ca)(H:bg)(k a8:bp->bg->Bool)(B:gW)(gX:Nat->bp),(∀k,(Bd P es ah op).f L T k=k B gX)->(og P es ah op).f c L T H k a8=k (gX H.next) (H.add B):=by simp_all[og,LB]
 have⟨e,B⟩:=r;cases B with
 |some B=>
  intro U Z H L T a4 cB bY;have⟨iR,gX,aj,an⟩:=V3 a4 cB bY D;rcases an with⟨ak,z,aJ,aP,rfl,aM⟩|⟨ak,z,Q,aP,rfl,aM⟩|⟨ak,z,Q,aP,rfl,aM⟩
  .cases aP;refine⟨_,_,_,_,_,_,F,⟨0,λm _ k a8=>dv _ _ _ _ _ _ _ _ aj⟩,St a4 rfl aM,?_⟩;intro e8 cJ gj Y;have Y:look ((d,g8 (e1 d) (.box ak z aJ))::gh (e1 d) (rem S.A d)) d=some (.box e8 cJ gj):=Y;rw[iC,ev rfl]at Y;rw[m2];cases aJ<;>cases Y<;>rfl
  .cases aP;refine⟨_,_,_,_,_,_,F,⟨0,λm _ k a8=>dv _ _ _ _ _ _ _ _ aj⟩,St a4 (by cases Q<;>rfl) aM,?_⟩;intro e8 cJ gw u Y;have Y:look ((d,g8 (e1 d) (.bF ak z Q false))::gh (e1 d) (rem S.A d)) d=some (.bF e8 cJ gw u):=Y;rw[iC,ev rfl]at Y;rw[m2];cases Y;rfl
  grind
 |none=>
  intro U Z H L T a4 cB bY;have⟨iR,gX,aj,an⟩:=V3 a4 cB bY D;rcases an with⟨ak,z,aJ,aP,rfl,aM⟩|⟨ak,z,Q,aP,rfl,aM⟩|⟨ak,z,Q,aP,rfl,aM⟩
  .grind
  .grind
  .cases aP;have bB:=fM.fZ (X:=X) (d:=d) (S:=S) a4 (nx es ah op S);obtain⟨ax,rfl,cl,dm,fp⟩:=aM;have a9:=amT (X:=X) (d:=d) (iR:=.cells ax Q.length z ak false false) rfl bB.ok;refine⟨_,_,_,_,_,_,F,⟨0,λm _ k a8=>dv _ _ _ _ _ _ _ _ aj⟩,bB.trans a9,?_⟩;refine .inr ⟨H.next,0,_,_,_,ax,Q.length,ak,false,false,rfl,?_,by omega,cl,⟨λ_=>fI _,rfl⟩,gY.mono (λa B h=>by have:=(bB.ok.e6 a B h).2;grind) _ _ _ _ fp,by omega,by omega⟩;simp_all
end
section
variable{C:Nat->cE}{P:dK}{es:aO}{ah:dM}{S:c8}{bo:kH}{d:Nat}{X:aO}
def aag{U}:∀{Q:g4}{l}{s},r8 Q=some s->qt U 1 Q l->∃n,(∀k,FY l k=k s.length n)/\ez s.length n=s
 |[],l,s,h,Y=>by cases h;have:l=[]:=HY.1 Y.1;subst this;exact⟨0,λ_=>rfl,rfl⟩
 |r::Q,[],s,h,Y=>by cases Y.1
 |r::Q,c::l,s,h,Y=>by
  unfold r8 at h;split at h
  .simp_all
  .rename_i n aK e;cases e;cases q:Nat.blt n 256 with
   |false=>simp_all
   |true=>
    rw[q]at h;have⟨dx,D,F⟩:=it h;cases F;have a0:n<256:=La q;have⟨m,aj,an⟩:=aag (l:=l) D ⟨by have:=Y.1;simp_all,λj aJ bl=>by have:=Y.2 (j+1) aJ (by simp_all);simpa using this⟩;obtain⟨-,fF,aP,a3⟩:=Y.2 0 _ rfl;cases aP;obtain⟨v,Wk,rfl,cW,g5⟩:=a3;subst cW;refine⟨n+256*m,λk=>?_,?_⟩
    .show bd (Nat.beq 4 4) (FY l λlen num=>gr (Nat.add n (Nat.mul 256 num)) λnum=>k (Nat.succ len) num) false=_;simp_all
    .show ez (dx.length+1) (n+256*m)=_;simp only[ez];grind
  grind
def agZ{x k}{s t}(h:q7 (dH C) bo P es ah d (.convert s t x) S k):qa C X d es (og P es ah (.convert s t x)).f S k:=by
 unfold q7 at h;simp at h;split at h
 .rename_i e ap au;split at h
  .rename_i aw cA;have⟨str,D,F⟩:=kJ h;have⟨Q,aq,aL⟩:=it D;intro U Z H L T a4 cB bY;have⟨l,aj,an⟩:=acp a4 aq (lf (ah:=ah) cB bY x);have⟨n,aM,bs⟩:=aag aL an;refine⟨_,_,.str str.length n,H,U,Z,F,⟨0,λm _ k a8=>?_⟩,fM.refl a4,⟨n,rfl,bs⟩⟩;have aQ:me P (.convert s t x)=.wr:=by simp[me,ap]
   simp_all[og,im,Iy]
  .exact h.elim
 .exact h.elim
end
section
variable{C:Nat->cE}{P:dK}{es:aO}{ah:dM}{S:c8}{bo:kH}{d:Nat}{X:aO}
def RP:∀s,(Al s).length=s.length
 |[]=>rfl
 |_::s=>by simp[Al,RP s]
def Wq{U}:∀(l n),qt U 1 (Al (ez l n)) (yQ l n)
 |0,n=>⟨rfl,λj aJ h=>by simp_all[ez,Al]⟩
 |l+1,n=>by
  have bQ:=Wq (U:=U) l (n / 256);refine⟨by have:=bQ.1;exact fr (· +1) this,λj aJ h=>?_⟩;cases j with
  |zero=>simp only[ez,Al,adv,Option.some.injEq]at h;subst h;refine⟨rfl,_,rfl,_,_,rfl,?_,rfl⟩;have e:n % 256<256:=mA _ I;show bp.int 4 (n % 256)=bp.int 4 (UInt8.ofNat (n % 256)).toNat;simp_all|succ j=>exact bQ.2 j aJ h
def aoI{e z b x Q r}(h:yo X S d e z (b+1) x Q=some r):Q.length<=2147483647:=by
 have dv:∀m,(m+Q.length)*(b+1)<=sn->Q.length<=2147483647:=λm h=>by have F:(m+Q.length)*1<=(m+Q.length)*(b+1):=aeV _ I;have aq:(m+Q.length)*(b+1)<=2147483647:=h;omega
 unfold yo at h;split at h
 .split at h
  .rename_i q;simp only[ig]at q;exact dv _ (dT.1 q.2)
  .split at h
   .rename_i q;simp only[ig]at q;exact dv 0 (by simp_all)
   grind
 .obtain⟨q,-⟩:=hC h;have:=dT.1 q;exact dv 0 (by simp_all)
 .split at h
  .obtain⟨q,-⟩:=hC h;simp only[ig]at q;exact dv _ (dT.1 q.2)
  .obtain⟨q,-⟩:=hC h;simp only[ig]at q;exact dv _ (dT.1 q.1.1.2)
  grind
 grind
def ado{e s b}{adC}{f:cE->cx->ca->bg->(bp->bg->Bool)->(bp->bg->Bool)->Bool}{Q:g4}{k}{r}{tO:cx->ca->bp}(M:∀(U)(Z)(L)(T),f9 U Z S.A S.L L->gR U Z S.A es.length S.E T->co U Z S.A adC (tO L T)){g:Bool}(h:cD (yo X S d e (s+1) b adC Q) (Ad g d)=some r)(ar:k r.1 r.2)(a1:∀(U)(Z)(H)(L)(T),b0 U Z S.A H->f9 U Z S.A S.L L->gR U Z S.A es.length S.E T->∃l,qt U (s+1) Q l/\∀c k a8,f c L T H k a8=sV (ln e) (s+1) b (tO L T) Q.length l H k):qa C X d es f S k:=by
 have⟨fC,br,cA⟩:=it h;intro U Z H L T a4 cB bY;have⟨l,D,F⟩:=a1 U Z H L T a4 cB bY;have⟨v,az,bm,b2,aj,an,aM⟩:=alL a4 br (M U Z L T cB bY) D I;have⟨sD,bs,cp⟩:=XU cA an aM;exact⟨_,_,v,az,sD,b2,ar,⟨0,λm _ k a8=>by grind⟩,bs,cp⟩
end
section
variable{C:Nat->cE}{P:dK}{es:aO}{ah:dM}{S:c8}{bo:kH}{d:Nat}
variable{k:a2->c8->Prop}{op:Op}
def Xa(aQ:me P op=.wr)(h:q7 (dH C) bo P es ah d op S k):qa C bo.dL d es (og P es ah op).f S k:=by
 have zS:qa C bo.dL d es (im P es ah op).f S k->qa C bo.dL d es (og P es ah op).f S k:=by simp_all[og]
 cases op with
 |load t x=>exact zS (ajS h)|store t x y=>exact zS (alI h)|convert s t x=>exact agZ h
 |call c=>
  unfold q7 at h;cases aV:bo.own d with
  |true=>
   rw[aV]at h;simp at h;split at h
   .rename_i f qE;have:(im P es ah (.call c))=qZ es ah f c.args.toList:=by simp[im,qE]
    rw[this]at zS;exact zS (abX h).1
   .exact h.elim
  |false=>
  rw[aV]at h;simp at h;split at h
  .rename_i f qE;have:(im P es ah (.call c))=qZ es ah f c.args.toList:=by simp[im,qE]
   rw[this]at zS;exact zS (anq h)
  .rename_i qE;split at h
   .rename_i t a6 x y au M;have:(im P es ah (.call c))=wW P t a6 (eF es ah x) (eF es ah y):=by simp[im,qE,au,M]
    rw[this]at zS;apply zS;split at h
    .rename_i e aw;split at h
     .rename_i s b q ap aB a0;split at h
      .rename_i u aap hu;split at h
       .rename_i aua;have⟨r,D,F⟩:=kJ h;have⟨Q,aq,aL⟩:=it D;refine ado (tO:=(eF es ah x).g) (λU Z L T cB bY=>lf (ah:=ah) cB bY x) aL F λU Z H L T a4 cB bY=>?_;have⟨l,aj,an⟩:=acp a4 aq (lf (ah:=ah) cB bY y);refine⟨l,an,λc k a8=>?_⟩;rw[X4];unfold wW;grind
       .exact h.elim
      .rename_i aap hu;split at h
       .rename_i J2;have⟨r,D,F⟩:=kJ h;have⟨str,aq,aL⟩:=it D;refine ado (tO:=(eF es ah x).g) (λU Z L T cB bY=>lf (ah:=ah) cB bY x) aL F λU Z H L T a4 cB bY=>?_;have⟨n,aj,an⟩:=G7 aq (lf (ah:=ah) cB bY y);have⟨_,asd,_⟩:=it aL;have ii:=aoI asd;rw[RP]at ii;have bO:=Wq (U:=U) str.length n;rw[an]at bO;refine⟨_,bO,λc k a8=>?_⟩;rw[X4];unfold wW;generalize eF es ah y=fh at aj;have⟨fh⟩:=fh;simp at aj;simp[aw,ap,aB,a0,aap,hu,J2,aj];rw[RP];show bd (Nat.ble str.length 2147483647) _ false=_;rw[show Nat.ble str.length 2147483647=true from dT.2 I,iG]
       .exact h.elim
      .exact h.elim
     .exact h.elim
    .exact h.elim
   .exact h.elim
  .exact h.elim
 |_=>exact h.elim
def ah1(h:JK (dH C) bo P es ah d op S k):qa C bo.dL d es (og P es ah op).f S k:=by
 unfold JK at h;cases aQ:me P op with
 |pure=>simp_all[aqY]|sO=>rw[aQ]at h;exact aiU aQ h|wr=>simp_all[Xa]
end
def an6:List aO:=[[],[],[],[0,1,4,5,6,7,8,9,10,11,12,15,71],[0,2],[0,1,3,4,5,6,8,9,10],[0,2],[0,1,2,3,4,10,11,13,14,24,29,30,31,32,42,46,75,95],[0,1,4,7],[0,1,3,4,5,6,7,8,9,10,11,12,43,70,95,120,145,170,999],[0,1,2,3,4,7,10,20],[0,1,2,3,4,31],[0,1,2,3,4,5],[0,1,2,3,4],[0,2,3,4,5,6,7,15,20],[0,1,2,3,6],[0,1,4],[0,1,4,5,6,7,8,11,49],[0,1,4,5,6,7,9,10,11,12,15,58,59,60,61,78,99,111],[0,2,3,4,5,6,7,8,9,43,103,104,105,106,115,130,131,132,133,142],[0,1,4,5,6,8,10,11,14,53,70,73,74,75,76,80,81,82,83,129,155,198],[0,2,3,4,5,6,12,13,14,54,83,87],[0,2],[0,1,4,6,11],[0,1,3,4,5,6,7,22,39,43,48,56,66,74,82,87,95,104,999],[0,1,3,4,5,15,16,22,28,33,38,43,55,65,78,83],[0,1,3,4,5,26,33,34,40,46,54,59,75],[0,1,3,4,5,26,33,34,40,46,57,62,78],[0,1,3,4,8,15,16,22,28,49,57,73],[0,1,3,4,14,15,20,23,41,54,59,77],[0,1,3,4,6,7,12,17,33,38,53,58,68,73,999],[0,1,2,4,6,8,10,12,52,54,55,56,57,69,72,73,74,75,93,95,96,97,98,110,114,115,116,117,135,137,138,139,140,152],[0,1,2,3,5,7,9,11,13,15,17,19,21,23,25,35,46,53,54,55,56,72,73,74,75,97,98,99,100,123,124,125,126,148,149,150,151,166,181,182,183,184,202,203,204,205,225,238,239,240,241,260,261,262,263,281,282,283,284],[0,2,3,4,5,6,7,10,18],[0,1,4,5,10,12,13,14,24],[0,1,2,6,7,8,9,14,15,16,17,18,30],[0,1,2,3,4,5],[0,1,2,6,7,8,9,14,15,16,17,18,30],[0,1,2,3,4,5],[0,1,2,6,7,8,9,14,15,16,17,18,30],[0,1,2,3,4,5],[0,1,2,6,7,8,9,14,15,16,17,18,30],[0,1,2,3,4],[0,1,2,6,7,8,9,14,15,16,17,18,30],[0,1,2,3,4,5],[0,1,2,3,4],[0,1,4,5,10,12,13,14,24],[0,1,2,6,7,8,9,14,15,16,17,18,30],[0,1,2,3,4],[0,1,2,6,7,8,9,14,15,16,17,18,30],[0,1,2,6,7,8,9,14,15,16,17,18,30],[0,1,2,3,4,6,7,8,9,10,11,12,85,90,103,108,122,127,141,146,160,165,179,184,199],[0,1,4,5,6,7,8,16,31],[0,2,3,9,34,63],[0,1,4,5,6,15,24],[0,1,2],[0,1,2,3,4,6,7,12,18,22,41,63,78,88,96,115,127,147,161,172,187,203,214],[0,1,4],[0,2,3,9],[0,1,2,6],[0,2],[0,1,2,3,4,7],[0,1,2,3,4,10,11,13,14,24,25,26,27,44],[0,2],[0,1,4,6,7,8,9,10,15],[0,1,2,3,5,8,9,10,11,12,13,14,15,16,17,18,19,20,21,22,46,55,56,65,67,91,113,130,136,144,156,158,168,170,180,182,192,194,201,216,230],[0,1,3,4,5,18,19,23,30,35,43,51,59,75,82,86,94,101,105,115,999],[0,1,3,4,5,6,11,21,22,39,47,58,66,81,90,999],[0,2],[0,2],[0,2,3,20,24,38],[0,2],[0,1,2,3,6],[0,2],[0,2,4,5,6,7,8,13],[0,1,2,4,8,9],[0,2,4,5,6,7,8,13],[0,1,2,4,6,8,9,10,11,23,25,26,27,28,57],[0,1,2,4,6,8,9,10,11,29,31,32,33,34,46],[0,1,2,4,6,8,9,10,11,56,58,59,60,61,90],[0,2,3,4,6,10,14,26],[0,1,2,3,8,9,11,16,19],[0,2,5],[0,1,2],[0,2,3,4,5,6,7,8,9,14],[0,2,3,5,6,7,8,9,10,18],[0,1,2,3,5,6,7,9,10,11,12,22,32,71],[0,2,3,4,5,6,7,8,14,25,30],[0,1,2,3,4],[0,1,2,6,7,8,9,14,15,16,17,18,30],[0,1,2,3,4],[0,1,2,6,7,8,9,14,15,16,17,18,30],[0,1,2,3,4],[0,1,2,6,7,8,9,14,15,16,17,18,30],[0,1,2,6,7,8,9,14,15,16,17,18,30],[0,1,2,3,4],[0,1,4,5,10,12,13,14,24],[0,1,2,3,4],[0,1,2,6,7,8,9,14,15,16,17,18,30],[0,1,2,3,4,5,48,53,99],[0,1,2,3,4,5,48,53,99],[0,1,2,3,4,5,6,7,42,47,87],[0,1,2,3,4,5,35,40,53],[0,1,2,3,4,6,7,8,9,76,81,122],[0,2,3,4,5,6,7,8,9,10,13,19,35,52],[0,1,2,3,4,5,11],[0,2],[0],[0,2],[0,1,4,7],[0,2,3,8],[0,1,7],[0,2,3,4,10],[0,1,2],[0,1,2,3,5,7,8,9,10],[0,1,2,3,4],[0,1,2],[0,1,3,4],[0,1,2],[0,1,3,4],[0,1,2],[0,1,2,3,5,7,8,9,10],[0,1,2,3,4,9,10,15,19],[0,1,2],[0,1,2,3,4,48,81,100,102,103,113,120,131],[0,1,4],[0,2],[0,1,2],[0,2,5],[0,2],[0,1,2,4,5,9,12,15,16,19],[0,1,2,4,8],[0,1,2],[0,1,4,5,6,7,8,9,10,11],[0,1,2,3,6,28],[0,1,4,5,6,7,8,9,10,11,20],[0,1,4,6],[0,2,3,4,6,8,10,12],[0,1,2,3,8,9,10,11,12,20,26,34,47,69,70,71,73],[0,1,2,3,8,9,11,13,15,16,17,18,19,32,34,35,36,37,51,68,69,70,71,85],[0,1,3,4],[0,1,2,3,5,8,9,10,11,12,14,15,16,17,19,20,21,37,40,41,49,57,67,85,87,88,89,90,96,127,134,135,136,137,173],[0,1,2,5,6,7,8,14],[0,2],[0,2],[0,1,2,5,6],[0,1,2,4],[0,2,4,5,12],[0,1,2,3,5,8,9,10,12,14,15,17,18,19,20,21,23,24,25,27,29,33,34,35,36,55,57,58,59,60,79,81,82,83,84,107,116,118,119,120,121,126,127,128,129,151,167,190,191,192,193],[0,1,2,3,5,8,9,10,11,12,14,15,16,17,18,20,21,22,24,25,26,27,28,29,43,56,76,103,104,105,106,118,124,125,126,127,167],[0,1,2,3,5,8,9,11,12,13,15,16,17,18,20,21,22,23,24,39,40,41,42,76,99,100,101,102,126],[0,1,2,3,5,8,9,11,13,15,16,17,19,23,24,25,26,45,47,48,49,50,54,55,56,57,85,104,122,135,136,137,138],[0,1,4],[0,1,2,3,5,7,8,9,10],[0,1,2,3,5,8,9,10,11,12,13,14,15,16,17,19,21,22,23,24,25,27,29,30,36,46,53,84,90,120,148,164,175,176,177,192,205,232,233,234,235,243,271,272,273,274,292,333,352,353,354,355],[0,2],[0,2,4,5,6,7,8,13],[0,2],[0,1,2,4,6,8,10,12,14,16,18,20,22,23,24,25,29,30,31,32,38,42,43,44,45,49,50,51,52,57,61,62,63,64,68,69,70,71,82,86,87,88,89,95,98,99,100,101,112,114,115,116,117,128],[0,1,2,4,6,8,10,12,14,16,18,20,54,56,57,58,59,71,73,74,75,76,82,86,87,88,89,101,103,104,105,106,118,122,123,124,125,131,133,134,135,136,154,158,159,160,161,179,182,183,184,185,209,211,212,213,214,226],[0,2,3,7,13],[0,2,4,6,7,8,9,10,16,18,19,20,21,26],[0,1,2,4,7,9,10,11,12,17],[0,1,2],[0,1,4,5,6,7,8,9,10,11,16],[0,2,5],[0,1,2,3,4,6,7,12,16,17,21,40,62,77,91,96,132,146,168,182,188,208,223,231,247,259,271,280,287,294,305],[0,1,4,8,10,35,49],[0,1,4,5,6,7,8,12,19,30,34,46,64],[0,1,4,5,10,14,25],[0,1,2,3,4],[0,1,4,5,10,14,26],[0,1,4,5,10,14,41],[0,1,2,3,4,6,7,8,68,84,89,135,140,155],[0,1,4,8,10,18],[0,1,4,5,6,10,16,22,35],[0,2],[0,1,4,16],[0,1,4],[0,1,2],[0,2,3,4,10],[0,1,4,5,24],[0,1,2,4,5,6],[0,1,4],[0,1,2,3],[0,1,4],[0,1,2,3],[0,1,2,3,5,7,8,9,10],[0,1,2,3],[0,1,3,4],[0,1,2],[0,1,2],[0,2,3,4,5,9,12,15,18,23,26,29,32,35,38,41,44,47,50,53,58],[0,1,4,5,6,10,14],[0,2],[0,2],[0,1,3,4],[0,2,3,4,5,6,7,8,13,29,39],[0,1,2],[0,1,4,5,6,7,9,11,17,23,34],[0,2,3],[0,1,4,5,7,8,9,10,11],[0,1,4,5,7,8,9,10,11],[0,1,4,5,7,8,10,12,13,15,22,29,39,40,41,42,49,63,64,65,66],[0,1,4],[0,1,4,5,6,7,8,10,12,19,20,21,22,26,27,28,29,44],[0,1,4,5,6,7,8,10,12,19,20,21,22,26,27,28,29,44],[0,1,4,5],[0,1,2,3,6,7],[0,1,3,4,5,7,8,9,10,11,17],[0,1,2,3,4,5,12],[0,1,2,3,4,6,7,8,9,10,11,13,14,15,16,17,25,39,40,41,42,43,47],[0,1,2,3,4],[0,1,2,3,6,8,9,10,11,12,14,29,41,42,43,44,49,50,51,52,64],[0,1,4,5,6,7,8,10,12,19,20,21,22,26,27,28,29,44],[0,1,2,3,4,5,12,13,14,15,16,18,19,20,21,22,28,29,30,31,48],[0,1,2,6,7,12,13,21,34],[0,2],[0],[0,1,2,3,5,7,8,9,10],[0,2,4,5,6,7,8,13],[0,1,2],[0,1,2],[0,2,4,5,6,7,8,13],[0,2,4,5,6,7,8,14],[0,1,2],[0,1,2,3,4,11,46,97,113,114,124,130,135,141,155,171,186],[0,1,2,4,5,9,12,15,16,19],[0,1,2,4,8],[0,2,3,5,6,7,8,9],[0,1,4,5,6,7,8,9,10,11],[0,1,2,3,4,16,25,31],[0,1,2,3,4,5,7,8,9,10,25,30],[0,1,4,20],[0,1,4,14],[0,2,3],[0,1,4,5,6,27,33,42],[0,1,4],[0,1,2,6,17],[0,2],[0,2],[0,2],[0,2],[0,1,4],[0,2],[0,2,3,4,10],[0,1,4,5,7,8,9,16],[0,1,4,5,7,8,9,16],[0,1,4],[0,1,2,3],[0,2,3,4,5],[0,1,4],[0,1,4],[0,1,3],[0,2],[0,2,4],[0,2,3],[0,1,4,5,6,7,8,9,10,11,12,13,14,15,16,20,99,139,161],[0,1,2,3,4,10,11,12,13,14,15,16,17,18,28,30,34,46,68,89,94],[0,1,7,21],[0,1,4,5],[0,2],[0,1,4],[0,2,3,4,5,21,25],[0,1,2,3,6,7,8,9,10,15,17,18,19,20,28,43],[0,1,4,6,7,8,9,10,15],[0,1,2,3,4,5,6,10,11,12,24,28,56,61,78],[0,1,2,3,4],[0,1,2,3,6,8,9,10,11,12,13,14,15,16,18,21,22,23,24,25,33,42,43,44,45,50,51,52,53,77,82,83,84,85],[0,1,2,3,5,7,8,9,10],[0,1,2,4,7,9,10,11,12,16],[0,1,2,3,5,7,8,9,10],[0,1,2,3,5,7,29,34,35,39,40,43,44,47,49,50,51,52,58,61,62,63,64,69],[0,2,3,4,5,9,12,15,18,23,26,29,32,35,38,41,44,47,50,53,58],[0,2],[0,2,3,4,5,6,7,8,12,33],[0,1,4],[0,1,4],[0,2,3,4,8,18,31],[0,1,4,5,7,8,9,16],[0,1,4,5,6],[0,1,4,5,7,8,9,16],[0,1,4,5,7,8,9,16],[0,2],[0,2,4,8,14],[0,2,3],[0,2],[0,2],[0,6,19],[0,1,4],[0,1,4,5,6,7,8,9,10,11,12,13,16,24,31,36,59,64,73,93,107,114,132,139],[0,2,3,4,8,14],[0,1,2,3,5,7,8,9,10],[0,1,2,3,6,7,8,10,22,28,29,30,31,41],[0,1,2,3,6,7,8,10,22,32,33,34,35],[0,1,4,5,6,7,8,9,10,16],[0,1,2,3,5,10,11,12,13],[0,2],[0,1,4,6,7,8,9,10,15],[],[0,2,3,4,5,9,19,32,37,41,46],[0,1],[0,1,4,5,6,7,12],[0,2,4],[0,2,4],[],[],[],[0,2],[0,1,4,5,6,7,8,9,10,20,39,44,77],[0,2],[0,2,3,4,5,12,17],[0,1,4,22,27,40],[0,1,23,44,51,67,72],[0,1,6,18,32,63,79,95,106,117,128,139,150],[0,2,3,4,5,6,7,8,12,25,30],[0,2,3,4,10],[0,1,4,5,14],[0,1,4,5,10],[0,1,2,5],[0,1,2],[0,2,3,6],[0,1,4,5,14],[0,2,3,7],[0,2,3,7],[0,2,3],[0,2,3,4,14],[0,1,2,6,7,8,9,18],[0,1,4,5,10],[0,1,4,5,10],[0,1,2,6,7,8,9,10,11,12,13,15,16,17,19,25,32,37,40,52,64,77,83,85,90,92,99,100,101,102,106,112,121,137,141,159,169],[0,1,2,3,4,10,11,12,19,26,34],[0,2],[0,2,3,4,5,18,46,54,83,87,89,91],[0,1,4],[0,1,4],[0,1,2,6],[0,1,2,6],[0,2,3,6],[0,2],[0,2],[0,2],[],[],[],[],[],[],[],[],[],[],[],[],[],[],[],[],[],[],[],[],[]]
noncomputable def je:Nat->aO:=ajP an6
def FR:∀(E:bK)(i)(v),(j9 E i v).length=E.length
 |[],_,_=>rfl|_::_,0,_=>rfl
 |_::l,n+1,v=>by simp[j9,FR l n v]
def G8:∀(E:bK)(i j)(v),i<E.length->jv (j9 E i v) j=if j=i then v else jv E j
 |[],_,_,_,h=>by cases h
 |a::l,0,0,v,_=>rfl
 |a::l,0,j+1,v,_=>by simp[j9,jv]
 |a::l,n+1,0,v,_=>by simp[j9,jv]
 |a::l,n+1,j+1,v,h=>by simp[j9,jv,G8 l n j v (by simpa using h)]
def gR.set{U Z A n E T i e v}(h:gR U Z A n E T)(aN:i<n)(aI:co U Z A e v):gR U Z A n (j9 E i e) (T.A8 i v):=by
 refine⟨h.1,by rw[FR];exact h.2.1,λj bl=>?_⟩;have asT:=h.1;rw[G8 E i j e (by rw[h.2.1];grind),ca.LZ T i j v I I];by_cases q:j=i
 .simp_all
 .rw[cO q,cO q];exact h.2.2 j bl
end Go.Tx
