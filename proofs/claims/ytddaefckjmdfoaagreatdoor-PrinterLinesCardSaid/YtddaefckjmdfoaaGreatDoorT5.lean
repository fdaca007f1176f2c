/- Part of the proof of PrinterLines. -/
import Derived.Test.YtddaefckjmdfoaaGreatDoorT4
set_option linter.all false
namespace Go.Tx
open Go Go.Ev
def IZ:∀{bc}{i s M},place bc i s=some M->∃n,M=i+n/\bc[n]?=some s
 |[],_,_,_,h=>by cases h
 |a::l,i,s,M,h=>by
  simp only[place] at h;cases q:Nat.beq a s with
  |true=>rw[q] at h;cases h;exact⟨0,rfl,by rw[cF.1 q];rfl⟩
  |false=>rw[q] at h;obtain⟨n,rfl,F⟩:=IZ h;exact⟨n+1,Y,by simpa using F⟩
variable{bc aX:aO}{H aq:bd}{L:cv}{T:b4}{a d el n s z:Nat}{iq:gB}{f:a1->a1}{bf:Hint}{k:a1->c5->Prop}{D:eS}{op:Op}{aF:ul}{ab:gF}{A:be}{u:Bool}{x y:Operand}{U bh:dO}{Z:Nat->Nat}
def BP(h:PJ D):D.real:=by
 cases D with
 |box=>rfl
 |arr el z ab u=>cases u<;>first|(cases h;done)|(cases ab<;>rfl)
def Dr:∀{l}{i}{dP},rD bc A i l=some dP->(∀M D,look dP M=some D->∃n s ei,M=i+n/\l[n]?=some s/\look A s=some ei/\PJ ei/\D=gx (qT bc 1000) ei)/\(∀(n s),l[n]?=some s->∃ei,look A s=some ei/\look dP (i+n)=some (gx (qT bc 1000) ei))
 |[],i,dP,h=>by simp only[rD,Option.some.injEq] at h;subst h;exact⟨λM D h=>(by cases h),λn s h=>(by simp at h)⟩
 |s::l,i,dP,h=>by
  unfold rD at h;split at h
  .rename_i ei K;split at h
   .rename_i aI;have⟨r,B,h⟩:=i9 h;cases h;have⟨g1,g2⟩:=Dr B;constructor
    .intro M D bb;rw[hO] at bb;by_cases e:M=i
     .rw[b3 e] at bb;cases bb;exists 0,s,ei,Y,rfl,K,aI
     rw[bA e] at bb;have⟨n,cP,bs,bq,aS,bU,cU⟩:=g1 M D bb;exact⟨n+1,cP,bs,Y,by simpa using aS,bU,cU⟩
    intro n cP aB;cases n with
    |zero=>simp at aB;subst aB;exact⟨ei,K,by rw[hO,b3 Y]⟩
    |succ n=>have⟨bs,bq,aS⟩:=g2 n cP (by simpa using aB);exact⟨bs,bq,by rw[hO,bA Y,show i+(n+1)=i+1+n by omega];exact aS⟩
   cases h
  cases h
def Te:∀{bc}{n cx s:Nat},kR bc->bc[n]?=some s->bc[cx]?=some s->n=cx
 |[],n,cx,s,_,h,_=>by simp at h
 |a::l,n,cx,s,aJ,h,b5=>by
  simp only[kR] at aJ;cases q:l.contains a with
  |true=>rw[q] at aJ;cases aJ
  |false=>
   rw[q] at aJ;have aB:a∉l:=by simpa using q
   cases n with
   |zero=>cases cx with
    |zero=>rfl
    |succ cx=>simp at h b5;subst h;exact absurd (uo b5) aB
   |succ n=>cases cx with
    |zero=>simp at h b5;subst b5;exact absurd (uo h) aB
    |succ cx=>exact mJ (· +1) (Te aJ (by simpa using h) (by simpa using b5))
def uJ(Z:Nat->Nat)(bc:aO):Nat->Nat:=λM=>Z<|bc.getD (M - 1000) 0
def vY(h:bc[n]?=some s):uJ Z bc (1000+n)=Z s:=by unfold uJ;rw[show 1000+n - 1000=n by omega,oE,h];rfl
def ox.R3{bV bw cP}(h:ox U Z A H s D)(aI:ji f U Z A bh bV bw)(hle:U.le bh)(aH:bV cP=Z s)(br:D.real->aq.get (Z s)=H.get (Z s)):ox bh bV bw aq cP (gx f D):=by
 cases D with
 |box el z aF=>
  have⟨am,g1,g2,g3,g4⟩:=h;have g5:=aI.row hle g4;have g6:aq.get (bV cP)=.cells am 1 z el false false:=by rw[aH,br rfl];exact g1
  cases aF with
  |cc l=>exact⟨am,g6,g2,g3,g5⟩
  |bE l=>exact⟨am,g6,g2,g3,g5⟩
 |arr el z ab u=>intro ad;have⟨am,g1,g2,g3,g4⟩:=h ad;exact⟨am,by rw[aH,br ad];exact g1,g2,g3,fI.mono hle _ _ _ _ g4⟩
section
variable{U:dO}{Z:Nat->Nat}{A dP:be}{H:bd}{bc:aO}
def R6(h:gx f D=.box el z aF):∃i6,D=.box el z i6:=by
 cases D with
 |box eC cI fB=>cases fB<;>(cases h;exact⟨_,rfl⟩)
 |arr=>cases h
def Sg(h:gx f D=.arr el z ab u):D=.arr el z ab u:=by
 cases D with
 |box eC cI fB=>cases fB<;>cases h
 |arr=>exact h
def Zr(av:rD bc A 1000 bc=some dP)(aJ:kR bc):ji (qT bc 1000) U Z A U (uJ Z bc) dP:=by
 intro e v h;cases e with
 |J t=>exact h
 |bT=>exact h
 |iy=>simp only[qT,cN,bp]
 |bH s aT=>
  simp only[qT];cases q:place bc 1000 s with
  |none=>simp only[cN,bp]
  |some M=>obtain⟨n,rfl,aB⟩:=IZ q;intro el z aF K;have⟨cx,cP,ei,aZ,aN,c9,_,hB⟩:=(Dr av).1 _ _ K;have:cx=n:=Y;subst this;rw[aB] at aN;cases aN;rw[vY aB];obtain⟨i6,rfl⟩:=R6 hB.symm;exact h _ _ _ c9
 |bQ s=>
  simp only[qT];cases q:place bc 1000 s with
  |none=>simp only[cN,bp]
  |some M=>obtain⟨n,rfl,aB⟩:=IZ q;intro el z ab u K;have⟨cx,cP,ei,aZ,aN,c9,_,hB⟩:=(Dr av).1 _ _ K;have:cx=n:=Y;subst this;rw[aB] at aN;cases aN;rw[vY aB];have:=Sg hB.symm;subst this;exact h _ _ _ _ c9
 |fF s r aT=>simp only[qT,cN,bp]
 |agg l=>exact h.elim
 |fn f x y=>exact h.elim
def OY(aW:bL U Z A H)(av:rD bc A 1000 bc=some dP)(aJ:kR bc):bL U (uJ Z bc) dP H:=by
 have⟨g1,g2⟩:=Dr av;refine⟨aW.gf,λM D bb ad=>?_,λM qm D bs bb xN ad fN e=>?_,λM D bb=>?_⟩
 .obtain⟨n,s,ei,rfl,aN,c9,r7,rfl⟩:=g1 M D bb;rw[vY aN];exact aW.lt s _ c9 (BP r7)
 .obtain⟨n,s,ei,rfl,aN,c9,r7,rfl⟩:=g1 M D bb;obtain⟨cx,cP,Mc,rfl,z4,ahm,afo,rfl⟩:=g1 qm bs xN;rw[vY aN,vY z4] at e;have:=aW.inj s cP _ _ c9 ahm (BP r7) (BP afo) e;subst this;rw[Te aJ aN z4]
 obtain⟨n,s,ei,rfl,aN,c9,r7,rfl⟩:=g1 M D bb;exact(aW.obj s _ c9).R3 (Zr av aJ) (dO.le_refl U) (vY aN) λ_=>rfl
def acy:∀{l}{i}{r A bw},kR l->r0 bc i l r A=some bw->(∀t,t∉l->look bw t=look A t)/\(∀(n s),l[n]?=some s->∃D ei,look r (i+n)=some D/\look A s=some ei/\wD ei D/\look bw s=some (gx (yK bc) D))
 |[],i,[],A,bw,_,h=>by simp only[r0,Option.some.injEq] at h;subst h;exact⟨λ_ _=>rfl,λn s h=>(by simp at h)⟩
 |[],i,_::_,A,bw,_,h=>by simp [r0] at h
 |s::l,i,[],A,bw,_,h=>by simp [r0] at h
 |s::l,i,(M,D)::r,A,bw,aJ,h=>by
  unfold r0 at h;split at h
  .rename_i bs q K;split at h
   .rename_i aS;have q:=cF.1 q;subst q;have kP:s∉l/\kR l:=by
     simp only[kR] at aJ;cases bU:l.contains s with
     |true=>rw[bU] at aJ;cases aJ
     |false=>rw[bU] at aJ;exact⟨by simpa using bU,aJ⟩
    have⟨g1,g2⟩:=acy kP.2 h;constructor
    .intro t al;simp only[fS,not_or] at al;rw[g1 t al.2,ss,bA al.1]
    .intro n cP aB;cases n with
     |zero=>simp at aB;subst aB;exists D,bs,by rw[hO,b3 Y],K,aS;rw[g1 s kP.1,ss,b3 rfl,K];rfl
     |succ n=>
      have Af:l[n]?=some cP:=by simpa using aB
      have⟨eL,jU,aZ,aN,hB,c9⟩:=g2 n cP Af;refine⟨eL,jU,?_,?_,hB,c9⟩
      .rw[hO,bA Y,show i+(n+1)=i+1+n by omega];exact aZ
      .rw[ss,bA (λe=>by subst e;exact kP.1 (uo Af))] at aN;exact aN
   .cases h
  .cases h
def ab8(h:wD D (.box el z aF)):∃i6,D=.box el z i6:=by
 cases D with
 |box eC cI fB=>simp only[wD,c6] at h;rw[cF.1 h.1,cF.1 h.2];exact⟨_,rfl⟩
 |arr=>cases h
def ac0(h:wD D (.arr el z ab u)):u=false/\∃ey:gF,ey.length=ab.length/\D=.arr el z ey false:=by
 cases D with
 |box=>cases h
 |arr eC cI f7 fa=>simp only[wD,c6,AP] at h;have⟨⟨⟨⟨B,F⟩,ah⟩,aE⟩,bt⟩:=h;rw[cF.1 B,cF.1 F,ah];exists aE,f7,cF.1 bt
def Ys{bs}(h:wD D bs):D.real/\bs.real:=by
 cases bs with
 |box el z aF=>obtain⟨r,rfl⟩:=ab8 h;exists rfl
 |arr el z ab u=>obtain⟨rfl,r,_,rfl⟩:=ac0 h;exact⟨by cases r<;>rfl,by cases ab<;>rfl⟩
def WP:∀{bc l},jQ bc l->a∈bc->cr a l=false
 |[],_,_,h=>by cases h
 |b::bc,l,h,hm=>by
  have ax:∀l:aO,jQ.Ed b l=cr b l:=by
   intro l;induction l with
   |nil=>rfl
   |cons a l bB=>simp only[jQ.Ed,cr,bB]
  simp only[jQ,ax,c6,AP] at h;rcases fS.1 hm with rfl|hm
  .exact h.1
  exact WP h.2 hm
def X8{l aM t}:∀{bc}{i n},Ml l aM i bc->bc[n]?=some t->cr t l->cr (i+n) aM
 |[],_,_,_,h,_=>by simp at h
 |b::bc,i,n,h,aB,al=>by
  simp only[Ml,c6] at h;cases n with
  |zero=>simp at aB;subst aB;have:=h.1;rw[al] at this;simpa using this
  |succ n=>rw[show i+(n+1)=i+1+n by omega];exact X8 h.2 (by simpa using aB) al
def aoI{bc X er}{n t el z eC cI}{aF fB}(h:w8 bc X er)(aB:bc[n]?=some t)(aI:f6 er t (.box el z aF)):f6 X (1000+n) (.box eC cI fB):=by
 cases er with
 |nil=>cases aI
 |cons a l=>cases a with
  |succ a=>cases aI
  |zero=>
   have aI:cr t l:=aI;have dC:jQ bc l->False:=λh=>by rw[WP h (uo aB)] at aI;cases aI
   cases X with
   |nil=>exact(dC h).elim
   |cons b aM=>cases b with
    |succ b=>exact(dC h).elim
    |zero=>exact X8 (l:=l) (aM:=aM) h aB aI
def acI{X}{s}{D}(h:f6 X s D):∃el z aF,D=.box el z aF:=by
 cases D with
 |box=>exact⟨_,_,_,rfl⟩
 |arr=>cases h
def UF{X er gq}(uY:∀x,cr x (ev X)->cr x gq)(R4:∀x,cr x (ev X)->cr x (ev er))(S8:w8 bc X er){bh}{bV}{jX bw}{aq}(aW:bL U Z A H)(av:rD bc A 1000 bc=some dP)(aJ:kR bc)(aw:bL bh bV jX aq)(az:eQ X U (uJ Z bc) dP H bh bV jX aq)(aH:∀s D,look dP s=some D->bV s=uJ Z bc s)(h:r0 bc 1000 bc jX (nm gq A)=some bw):bL bh Z bw aq/\eQ er U Z A H bh Z bw aq/\ji (ip gq) U Z A bh Z bw/\∀s,look A s=none->look bw s=none:=by
 have⟨cw,c7⟩:=Dr av;have⟨g1,aqx⟩:=acy aJ h;have g2:∀(n s:Nat),bc[n]?=some s->∃D ei,look jX (1000+n)=some D/\(look (nm gq A) s=some ei/\wD ei D)/\(∃cQ,look A s=some cQ/\cQ.real)/\look bw s=some (gx (yK bc) D):=by
  intro n s aB;have⟨D,ei,aZ,aN,hB,c9⟩:=aqx n s aB;have mo:=(Ys hB).1;have z4:=aN;rw[w4] at z4;cases ax:look A s with
  |none=>rw[ax] at z4;cases z4
  |some cQ=>rw[ax] at z4;cases z4;rw[uZ] at mo;exact⟨D,_,aZ,⟨aN,hB⟩,⟨cQ,rfl,mo⟩,c9⟩
 have mem:∀t,t∈bc->∃n:Nat,bc[n]?=some t:=λt al=>by have⟨n,aB,e⟩:=LY al;exact⟨n,by rw[na aB,e]⟩
 have hid:∀(n s:Nat),bc[n]?=some s->bV (1000+n)=Z s:=λn s aB=>by have⟨ei,aZ,aN⟩:=c7 n s aB;rw[aH _ _ aN,vY aB]
 have sZ:Shape (nm gq A) bw:=by
  constructor
  .intro t el z aF K;by_cases al:t∈bc
   .have⟨n,aB⟩:=mem t al;have⟨D,ei,aZ,⟨aN,hB⟩,_,c9⟩:=g2 n t aB;rw[c9] at K;obtain⟨Hb,rfl⟩:=R6 (Er K);obtain⟨i6,rfl⟩:=ab8 hB;exact⟨i6,aN⟩
   .rw[g1 t al] at K;exact⟨_,K⟩
  .intro t el z ab u K;by_cases al:t∈bc
   .have⟨n,aB⟩:=mem t al;have⟨D,ei,aZ,⟨aN,hB⟩,_,c9⟩:=g2 n t aB;rw[c9] at K;have:=Sg (Er K);subst this;obtain⟨rfl,ey,mo,rfl⟩:=ac0 hB;exact⟨ey,mo,aN⟩
   .rw[g1 t al] at K;exact⟨_,rfl,K⟩
 have low:∀x (W:aO),(∀x,cr x (ev X)->cr x W)->cr x W=false->cr x (ev X)=false:=λx W B F=>by
  cases q:cr x (ev X) with
  |false=>rfl
  |true=>rw[B x q] at F;cases F
 have HO:U.iz gq bh:=λa D ay I=>az.le a D ay (low _ gq uY I);have C1:ji (ip gq) U Z A bh Z bw:=λe v g=>sZ.P3 (Rc HO e v g);have Pz:ji (yK bc) bh bV jX bh Z bw:=by
  intro e v g;cases e with
  |J t=>exact g
  |bT=>exact g
  |iy=>simp only[yK,cN,bp]
  |bH s aT=>
   simp only[yK];cases q:Nat.ble 1000 s with
   |false=>simp only[cN,bp]
   |true=>
    have q:=dn.1 q;cases im:bc[s - 1000]? with
    |none=>simp only[cN,bp]
    |some t=>intro el z aF K;have⟨D,ei,aZ,_,_,c9⟩:=g2 _ t im;rw[c9] at K;obtain⟨Hb,rfl⟩:=R6 (Er K);rw[show 1000+(s - 1000)=s by omega] at aZ;have:=g _ _ _ aZ;rw[this,<-hid _ t im,show 1000+(s - 1000)=s by omega]
  |bQ s=>
   simp only[yK];cases q:Nat.ble 1000 s with
   |false=>simp only[cN,bp]
   |true=>
    have q:=dn.1 q;cases im:bc[s - 1000]? with
    |none=>simp only[cN,bp]
    |some t=>intro el z ab u K;have⟨D,ei,aZ,_,_,c9⟩:=g2 _ t im;rw[c9] at K;have:=Sg (Er K);subst this;rw[show 1000+(s - 1000)=s by omega] at aZ;have:=g _ _ _ _ aZ;rwa [<-hid _ t im,show 1000+(s - 1000)=s by omega]
  |fF s r aT=>simp only[yK,cN,bp]
  |agg l=>exact g.elim
  |fn f x y=>exact g.elim
 have kK:∀t D,t∉bc->look A t=some D->D.real->(∀s bs,look dP s=some bs->bs.real->uJ Z bc s≠Z t):=by intro t D al K ad s bs ak fN e;obtain⟨n,cP,ei,rfl,aN,c9,r7,rfl⟩:=cw s bs ak;rw[vY aN] at e;have:=aW.inj cP t _ _ c9 K (BP r7) ad e;subst this;exact al (uo aN)
 have e8:∀t D,t∉bc->look bw t=some D->∃bs,look A t=some bs/\D=ob gq bs:=λt D al K=>by
  rw[g1 t al,w4] at K;cases ax:look A t with
  |none=>rw[ax] at K;cases K
  |some bs=>rw[ax] at K;cases K;exact⟨bs,rfl,rfl⟩
 refine⟨⟨aw.gf,λt D K ad=>?_,λt a6 D bs K hJ ad fN e=>?_,λt D K=>?_⟩,⟨λa D ay I=>az.le a D ay (low _ _ R4 I),az.next,λa aD ak I=>?_,λa D ay=>?_,λt D K ad=>.inr ?_⟩,C1,λt al=>?_⟩
 .by_cases al:t∈bc
  .have⟨n,aB⟩:=mem t al;have⟨cQ,ei,aZ,⟨aN,hB⟩,_,c9⟩:=g2 n t aB;rw[<-hid n t aB];exact aw.lt _ _ aZ (Ys hB).2
  .obtain⟨cQ,j7,rfl⟩:=e8 t D al K;rw[uZ] at ad;have cb:=aW.lt t cQ j7 ad;refine⟨nV cb.1 az.next,?_⟩;cases ax:bh (Z t) with
   |none=>rfl
   |some x=>
    rcases az.new _ _ ax with h|h|⟨s,bs,aZ,aN,c9⟩|⟨ei,h,_⟩
    .rw[cb.2] at h;cases h
    .omega
    .exact absurd c9 (kK t cQ al j7 ad s bs aZ aN)
    .rw[cb.2] at h;cases h
 .have Ba:∀t D,look bw t=some D->D.real->∃bs,look A t=some bs/\bs.real:=by
   intro t D K ad;by_cases al:t∈bc
   .have⟨n,aB⟩:=mem t al;have⟨_,_,_,_,g,_⟩:=g2 n t aB;exact g
   .obtain⟨cQ,j7,rfl⟩:=e8 t D al K;rw[uZ] at ad;exact⟨cQ,j7,ad⟩
  have⟨N,eY,ex⟩:=Ba t D K ad;have⟨mm,RU,P1⟩:=Ba a6 bs hJ fN;exact aW.inj t a6 N mm eY RU ex P1 e
 .by_cases al:t∈bc
  .have⟨n,aB⟩:=mem t al;have⟨cQ,ei,aZ,_,_,c9⟩:=g2 n t aB;rw[c9] at K;cases K;exact(aw.obj _ _ aZ).R3 Pz (dO.le_refl _) (hid n t aB).symm λ_=>rfl
  .obtain⟨cQ,j7,rfl⟩:=e8 t D al K;exact(aW.obj t cQ j7).bz C1 HO rfl λad=>az.same _ (aW.lt t cQ j7 ad).1 (λs bs g1 g2 _=>kK t cQ al j7 ad s bs g1 g2) λD ay=>by rw[(aW.lt t cQ j7 ad).2] at ay;cases ay
 .refine az.same a aD (λs bs aZ aN BF c9=>?_) λD ay=>low _ _ R4 (I D ay);obtain⟨n,cP,ei,rfl,aS,bU,r7,rfl⟩:=cw s bs aZ;rw[vY aS] at c9;refine ak cP _ bU (BP r7) ?_ c9;cases q:f6 er cP ei with
  |false=>rfl
  |true=>obtain⟨el,z,aF,rfl⟩:=acI q;rw[Bl,aoI S8 aS q] at BF;cases BF
 .rcases az.new a D ay with h|h|⟨s,bs,aZ,aN,c9⟩|h
  .exact .inl h
  .exact .inr (.inl h)
  .obtain⟨n,cP,ei,rfl,aS,bU,r7,rfl⟩:=cw s bs aZ;rw[vY aS] at c9;exact .inr (.inr (.inl ⟨cP,_,bU,BP r7,c9⟩))
  .have⟨ei,B,F⟩:=h;exact .inr (.inr (.inr ⟨ei,B,R4 _ F⟩))
 .by_cases al:t∈bc
  .have⟨n,aB⟩:=mem t al;have⟨_,_,_,_,⟨cQ,hB,mo⟩,_⟩:=g2 n t aB;refine⟨t,_,hB,mo,rfl,λh=>?_⟩;obtain⟨el,z,aF,rfl⟩:=acI h;cases D with
   |box eC cI fB=>exact h
   |arr eC cI f7 fa=>have⟨_,_,bt⟩:=sZ.2 _ _ _ _ _ K;rw[w4,hB] at bt;cases aF<;>cases bt
  .obtain⟨cQ,j7,rfl⟩:=e8 t D al K;rw[uZ] at ad;exact⟨t,cQ,j7,ad,rfl,λh=>by rw[NV];exact h⟩
 .by_cases av:t∈bc
  .have⟨n,aB⟩:=mem t av;have⟨_,_,_,_,⟨cQ,hB,_⟩,_⟩:=g2 n t aB;rw[al] at hB;cases hB
  .rw[g1 t av,w4,al];rfl
end
section
variable{U:dO}{Z:Nat->Nat}{S:c5}{H:bd}
open Classical in
noncomputable def sk(Z:Nat->Nat)(A:be)(bc:aO)(bh:dO):dO:=λa=>if wB Z A bc a then none else bh a
def Z0{D}(h:sk Z A bc bh a=some D):¬wB Z A bc a/\bh a=some D:=by
 unfold sk at h;by_cases aI:wB Z A bc a
 .rw[b3 aI] at h;cases h
 .rw[bA aI] at h;exact⟨aI,h⟩
def Rt(h:¬wB Z A bc a):sk Z A bc bh a=bh a:=by unfold sk;rw[bA h]
def Wt{X}{d}{aX bP bc}{aq}{bh}(aW:bL U Z S.A H)(cM:∀s,cr s bP->cr s aX/\cr s bc=false)(im:∀s,cr s aX->cr s bP\/cr s bc)(hle:(hQ U Z S.A H aX).le bh)(aB:H.next<=aq.next)(br:∀a,a<H.next->aq.get a=H.get a)(aI:∀a D,bh a=some D->aq.get a=D/\a<aq.next)(pK:∀a D,bh a=some D->hQ U Z S.A H aX a=some D\/H.next<=a):fx X d U Z H S (sk Z S.A bc bh) Z aq (S.ft bP):=by
 have HT:=fx.ft (X:=X) (d:=d) (S:=S) aW bP;have Ut:(hQ U Z S.A H bP).le (sk Z S.A bc bh):=by
  intro a D ay;by_cases GU:wB Z S.A bP a
  .obtain⟨s,bs,aZ,aN,c9,rfl⟩:=GU;rw[xy aZ aN c9] at ay;rw[Rt]
   .refine hle _ _ ?_;rw[xy (cM s aZ).1 aN c9];exact ay
   .rintro⟨cP,eL,gN,gj,hU,iw⟩;have:=aW.inj cP s _ _ gj aN hU c9 iw;subst this;rw[(cM _ aZ).2] at gN;cases gN
  .rw[FL GU] at ay;rw[Rt]
   .exact hle _ _ (rr aW _ _ ay)
   .rintro⟨cP,eL,gN,gj,hU,rfl⟩;rw[(aW.lt cP eL gj hU).2] at ay;cases ay
 have abO:∀a D,sk Z S.A bc bh a=some D->hQ U Z S.A H bP a=some D\/H.next<=a:=by
  intro a D ay;have⟨dl,cB⟩:=Z0 ay;rcases pK _ _ cB with h|h
  .refine .inl ?_;by_cases GU:wB Z S.A aX a
   .obtain⟨s,bs,aZ,aN,c9,rfl⟩:=GU;rcases im s aZ with q|q
    .rw[xy aZ aN c9] at h;rw[xy q aN c9];exact h
    .exact absurd ⟨s,bs,q,aN,c9,rfl⟩ dl
   .rw[FL GU] at h;exact rr aW _ _ h
  .exact .inr h
 have ze:∀{A:be},ji id (hQ U Z S.A H bP) Z A (sk Z S.A bc bh) Z A:=λ{A} e v h=>by
  cases e with
  |J t=>exact bp.mono Ut _ _ h
  |_=>exact h
 have nz:bL (sk Z S.A bc bh) Z (S.ft bP).A aq:=by
  refine⟨λa D ay=>aI a D (Z0 ay).2,λs D K ad=>?_,HT.ok.inj,λs D K=>?_⟩
  .have:=HT.ok.lt s D K ad;refine⟨nV this.1 aB,?_⟩;cases az:sk Z S.A bc bh (Z s) with
   |none=>rfl
   |some x=>
    rcases abO _ _ az with h|h
    .rw[this.2] at h;cases h
    .omega
  .have:=(HT.ok.obj s D K).hZ (bh:=sk Z S.A bc bh) (bw:=(S.ft bP).A) (aq:=aq) ze Ut rfl λad=>br _ (HT.ok.lt s D K ad).1;have e:gx id D=D:=by
    cases D with
    |box el z aF=>cases aF<;>simp [gx]
    |arr=>rfl
   rwa [e] at this
 have aog:fx X d (hQ U Z S.A H bP) Z H (S.ft bP) (sk Z S.A bc bh) Z aq (S.ft bP):=by have:=fx.of_map (S:=S.ft bP) (X:=X) (d:=d) (H:=H) ze nz ⟨λa D h _=>Ut a D h,aB,λa aD _ _=>br a aD,λa D ay=>(abO a D ay).elim .inl λh=>.inr (.inl h),λs D K ad=>.inr ⟨s,D,K,ad,rfl,λh=>h⟩⟩ (λ_ _=>rfl) (λ_ _ h=>h) po.id λ_ _ _ _ _=>⟨rfl,rfl,rfl⟩;rwa [show(S.ft bP).L.map (dJ id)=(S.ft bP).L from by rw[show(dJ id)=id from uj td];simp,show(S.ft bP).E.map (dJ id)=(S.ft bP).E from by rw[show(dJ id)=id from uj td];simp] at this
 exact HT.trans aog
def WH{A:be}:∀{l:aO}{s:Nat}{D:eS},cr s l=true->look A s=some D->cr (match D with|.box el _ _=>el|.arr el _ _ _=>el) (tu A l)=true
 |[],_,_,h,_=>by cases h
 |a::l,s,D,h,K=>by
  simp only[cr] at h;cases q:Nat.beq a s with
  |true=>have:=cF.1 q;subst this;simp only[tu,K];cases D<;>simp only[cr,cF.2 rfl]
  |false=>
   rw[q] at h;have:=WH (l:=l) h K;simp only[tu];cases look A a with
   |none=>exact this
   |some bs=>cases bs<;>simp only[cr]<;>split<;>first|rfl|exact this
def apU{aX bc:aO}{aq:bd}{bh:dO}(aW:bL U Z S.A H)(br:∀a,a<H.next->aq.get a=H.get a)(aI:∀a D,bh a=some D->aq.get a=D/\a<aq.next):bh.iz (tu S.A bc) (sk Z S.A bc bh):=by
 intro a D ay I;rw[Rt]
 .exact ay
 .rintro⟨s,bs,aZ,aN,c9,rfl⟩;have B:=(aI _ _ ay).1;rw[br _ (aW.lt s bs aN c9).1] at B;have F:=WH aZ aN;have ah:=aW.obj s bs aN;cases bs with
  |box el z aF=>have⟨am,g1,_⟩:=ah;rw[g1] at B;subst B;simp only[l1] at I;rw[I] at F;cases F
  |arr el z ab u=>have⟨am,g1,_⟩:=ah c9;rw[g1] at B;subst B;simp only[l1] at I;rw[I] at F;cases F
def ak9(h:cr s (zL A aX)):cr s aX/\cr s (wc A aX)=false:=by
 rw[wJ] at h;unfold zL at h;rw[kf] at h;refine⟨wJ.2 h.1,?_⟩;cases q:cr s (wc A aX) with
 |false=>rfl
 |true=>rw[wJ] at q;unfold wc at q;rw[kf,h.2] at q;cases q.2
def apG(h:cr s aX):cr s (zL A aX)\/cr s (wc A aX):=by
 rw[wJ] at h;cases q:nS A s with
 |true=>exact .inl (wJ.2 (kf.2 ⟨h,q⟩))
 |false=>exact .inr (wJ.2 (kf.2 ⟨h,by rw[q];rfl⟩))
end
def EW:∀{l}{t},cr t l=true↔t∈l
 |[],t=>by simp [cr]
 |a::l,t=>by
  simp only[cr];cases q:Nat.beq a t with
  |true=>have:=cF.1 q;subst this;simp
  |false=>
   simp only[EW,fS];have:=tC q;constructor
   .exact .inr
   .rintro(h|h)
    .exact absurd h.symm this
    .exact h
def Cr:∀{l m},jQ l m->∀t,t∈l->t∉m
 |[],_,_,t,h=>by simp at h
 |a::l,m,h,t,al=>by
  simp only[jQ,c6,AP] at h;have dC:∀(m:aO),jQ.Ed a m=false->a∉m:=by
   intro m;induction m with
   |nil=>intro _;simp
   |cons b m bB=>
    intro h;simp only[jQ.Ed] at h;cases q:Nat.beq b a with
    |true=>rw[q] at h;cases h
    |false=>rw[q] at h;simp only[fS,not_or];exact⟨λe=>tC q e.symm,bB h⟩
  simp only[fS] at al;rcases al with rfl|al
  .exact dC m h.1
  .exact Cr h.2 t al
section
variable{C:Nat->cG}{S:c5}
def akf(C:Nat->cG)(X:aO)(d:Nat)(g:b2)(args:bG)(S:c5)(k:a1->c5->Prop):Prop:=
 ∃f bY bJ,g=.fn f bY bJ/\∀(U:dO)(Z:Nat->Nat)(H:bd)(hH da cC:cv),bL U Z S.A H->cJ U bY hH->eW U Z S.A args da->cJ U bJ cC->
  ∃e dM v aq bh bV,k e dM/\(∃cy,∀m,cy<=m->∀k,C m f (hH++(da++cC)) H k=k (.val v) aq)/\fx X d U Z H S bh bV aq dM/\cd bh bV dM.A e v
def Js{U Z aX dP r}(aW:bL U Z S.A H)(av:rD bc (S.ft aX).A 1000 bc=some dP)(aJ:kR bc)(FZ:jQ aX bc):∀{args:bG}{i}{da:bG}{eE},kG r bc (keeps S.A aX) i args=some da->eW U Z S.A args eE->eW (hQ U Z S.A H aX) (uJ Z bc) dP da eE
 |[],i,da,eE,h,au=>by simp only[kG,Option.some.injEq] at h;subst h;exact au
 |e::args,i,da,eE,h,au=>by
  obtain⟨v,aM,rfl,g1,g2⟩:=au;have bP:=fx.ft (X:=[]) (d:=0) (S:=S) aW aX;have VN:∀(s:Nat)(e:a1),(e=.bH s 0\/e=.bQ s)->cN U Z S.A e v->cd (hQ U Z S.A H aX) (uJ Z bc) dP (qT bc 1000 e) v:=by
   intro s e ar g1;have hm:=Zr (U:=hQ U Z S.A H aX) (Z:=Z) av aJ;by_cases ak:s∈bc
   .have v8:cr s aX=false:=by
     cases q:cr s aX with
     |false=>rfl
     |true=>exact absurd ak (Cr FZ s (EW.1 q))
    have:cN (hQ U Z S.A H aX) Z (S.ft aX).A e v:=by
     cases aX with
     |nil=>rw[TV];exact g1
     |cons a aX=>
      have:=RA aW (aX:=a::aX) _ _ g1;have az:look (keeps S.A (a::aX)) s=none:=by rw[Ha,v8]
      rcases ar with rfl|rfl
      .simp only[lk,az] at this;exact this
      .simp only[lk,az] at this;exact this
    exact(hm _ _ this).px
   .have:qT bc 1000 e=.J .undef:=by
     rcases ar with rfl|rfl
     all_goals
      simp only[qT]
      cases q:place bc 1000 s with
      |none=>rfl
      |some M=>have⟨n,_,aB⟩:=IZ q;exact absurd (uo aB) ak
    rw[this];simp only[cd,cN,bp]
  unfold kG at h;split at h
  .rename_i s _;have⟨iO,B,h⟩:=i9 h;cases h;exact⟨v,aM,rfl,VN s _ (.inl rfl) g1,Js aW av aJ FZ B g2⟩
  .rename_i s _;have⟨iO,B,h⟩:=i9 h;cases h;exact⟨v,aM,rfl,VN s _ (.inr rfl) g1,Js aW av aJ FZ B g2⟩
  .have⟨t,iO,B,F,h⟩:=rU h;cases h;exact⟨v,aM,rfl,MY aW B g1,Js aW av aJ FZ F g2⟩
def adZ:∀{l m},wM l m->∀x,cr x l->cr x m
 |[],_,_,x,h=>by cases h
 |a::l,m,h,x,I=>by
  simp only[wM,c6] at h;simp only[cr] at I;cases q:Nat.beq a x with
  |true=>have:=cF.1 q;subst this;exact h.1
  |false=>rw[q] at I;exact adZ h.2 x I
def ZD{g lj args}(h:tV (dq C) bf g lj args S k):akf C bf.du d g args S k:=by
 obtain⟨r,f6,X,h⟩:∃(r:Nat->Bool)(f6:Bool)(X:aO),(match reach S.A 9 [] (oM r 0 args),lP ((tq r 0 args).flatMap (e6 S.A 3)) with
  |[],aX=>match f6 with
   |true=>hs (dq C) (kG r [] (keeps S.A aX) 0 args) λda=>(dq C).call [] g da [] λv _=>tU (yS v) (k (.J v) S) (tU (!cA (tu S.A (wc S.A aX)) v) (k (.J v) (S.ft (zL S.A aX))) (dq C).fail)
   |false=>hs (dq C) (kG r [] (keeps S.A aX) 0 args) λda=>(dq C).call [] g da [] λv _=>k (.J v) (S.ft aX)
  |bc,aX=>match lP (aX++bc.flatMap (t9 S.A)) with
   |aX=>match jQ aX bc&&kR bc&&wM (ev X) (ev bf.du)&&w8 bc X bf.du with
    |true=>hs (dq C) (kG r bc (keeps S.A aX) 0 args) λda=>match S.ft aX with
     |om=>hs (dq C) (rD bc om.A 1000 bc) λdP=>(dq C).call X g da dP λv dP=>hs (dq C) (r0 bc 1000 bc dP (om.bz (ev X)).A) λA=>k (.J v) ⟨(om.bz (ev X)).L,(om.bz (ev X)).E,A⟩
    |false=>(dq C).fail):=by
  cases lj with
  |none=>exact⟨λ_=>false,false,[],h⟩
  |some g=>exact⟨bf.sF g,bf.flat g,bf.mt g,h⟩
 generalize im:reach S.A 9 [] (oM r 0 args)=bc at h;generalize v8:lP ((tq r 0 args).flatMap (e6 S.A 3))=aX at h;have amd:∀(args:bG)(i:Nat)(bc:aO)(A:be),oM r i args=[]->kG r bc A i args=kG (λ_=>false) bc A i args:=by
  intro args;induction args with
  |nil=>intro i bc A _;rfl
  |cons e args bB=>
   intro i bc A av;simp only[oM] at av;simp only[kG];cases w5:r i with
   |false=>rw[w5] at av;simp only at av;simp only[bB _ bc A av]
   |true=>
    rw[w5] at av;cases e with
    |bH s z=>
     cases z with
     |zero=>cases av
     |succ z=>simp only at av;simp only[bB _ bc A av]
    |bQ s=>cases av
    |_=>simp only at av;simp only[bB _ bc A av]
 have ajq:∀l,reach S.A 9 [] l=[]->l=[]:=by
  have ze:∀(n:Nat)(done l:aO),done≠[]->reach S.A n done l≠[]:=by
   intro n;induction n with
   |zero=>intro done l h;exact h
   |succ n bB=>
    intro done l h;cases l with
    |nil=>exact h
    |cons s l=>
     simp only[reach];cases cr s done with
     |true=>exact bB _ _ h
     |false=>exact bB _ _ (by simp)
  intro l h;cases l with
  |nil=>rfl
  |cons s l=>simp only[reach,cr] at h;exact absurd h (ze _ _ _ (by simp))
 cases bc with
 |nil=>
  have MZ:=ajq _ im;simp only at h;rw[amd args 0 [] (keeps S.A aX) MZ] at h;cases f6 with
  |true=>
   simp only at h;obtain⟨da,B,f,bY,bJ,rfl,F⟩:=kk h;refine⟨f,bY,bJ,rfl,λU Z H hH eE cC aW I aD ap=>?_⟩;have⟨fG,bw,v,aq,bh,ah,g1,g2,g3,g4,g5,g6,gA⟩:=Lp (S:=S) (args:=args) (aX:=aX) F B U Z H hH eE cC aW I aD ap;cases q:yS fG with
   |true=>rw[q] at ah;have:fx bf.du d U Z H S (sk Z S.A aX bh) Z aq S:=Wt (X:=bf.du) (d:=d) (bP:=[]) (bc:=aX) aW (λs ak=>by cases ak) (λs ak=>.inr ak) g3 g4 g5 g6 gA;exact⟨_,_,v,aq,_,Z,ah,g1,this,ahe q g2⟩
   |false=>
    rw[q] at ah;cases aS:cA (tu S.A (wc S.A aX)) fG with
    |true=>rw[aS] at ah;exact ah.elim
    |false=>rw[aS] at ah;exact⟨_,_,v,aq,_,Z,ah,g1,Wt (X:=bf.du) (d:=d) aW (λs ak=>ak9 ak) (λs ak=>apG ak) g3 g4 g5 g6 gA,bp.iz (apU (aX:=aX) aW g5 g6) _ _ aS g2⟩
  |false=>simp only at h;obtain⟨da,B,f,bY,bJ,rfl,F⟩:=kk h;refine⟨f,bY,bJ,rfl,λU Z H hH eE cC aW I aD ap=>?_⟩;have⟨fG,bw,v,aq,bh,ah,g1,g2,g3,g4,g5,g6,gA⟩:=Lp (S:=S) (args:=args) (aX:=aX) F B U Z H hH eE cC aW I aD ap;exact⟨_,_,v,aq,bh,Z,ah,g1,aoi aW g3 g4 g5 g6 gA,g2⟩
 |cons b bc=>
  simp only at h;generalize ahi:lP (aX++(b::bc).flatMap (t9 S.A))=o0 at h;cases q:(jQ o0 (b::bc)&&kR (b::bc)&&wM (ev X) (ev bf.du)&&w8 (b::bc) X bf.du) with
  |false=>simp only[q] at h;exact h.elim
  |true=>simp only[q] at h;simp only[c6] at q;obtain⟨⟨⟨bq,aS⟩,bU⟩,cU⟩:=q;have⟨da,B,h⟩:=kk h;have⟨dP,F,f,bY,bJ,br,ak⟩:=kk h;refine⟨f,bY,bJ,br,λU Z H hH eE cC aW I aD ap=>?_⟩;have bP:=fx.ft (X:=bf.du) (d:=d) (S:=S) aW o0;have hle:U.le (hQ U Z S.A H o0):=rr aW;have Cc:=OY bP.ok F aS;have q2:=Js aW F aS bq B aD;have m9:=((I.z9 hle).o8 (A:=dP) (Z:=uJ Z (b::bc))).append (q2.append (ap.z9 hle).o8);have⟨fG,jX,v,aq,bh,bV,gX,dr,c3,dY,e9,f9⟩:=ak _ _ H _ Cc m9;have⟨H7,ah,b1⟩:=kk gX;rw[Pn] at ah b1;have⟨cw,c7,fu,fh⟩:=UF (er:=bf.du) (λ_ h=>h) (adZ bU) cU bP.ok F aS c3 dY f9 ah;exact⟨_,_,v,aq,bh,Z,b1,dr,bP.trans (fx.of_map fu cw c7 (λ_ _=>rfl) (λs _ h=>fh s h) (Pp _) λs _ _=>UU _ s),e9⟩
end
section
variable{C:Nat->cG}{P:dy}{es:aO}{ae:dv}{S:c5}{X:aO}{d:Nat}
def qw(C:Nat->cG)(X:aO)(d:Nat)(es:aO)(f:cG->cv->b4->bd->(bl->bd->Bool)->(bl->bd->Bool)->Bool)(S:c5)(k:a1->c5->Prop):Prop:=
 ∀(U:dO)(Z:Nat->Nat)(H:bd)(L:cv)(T:b4),bL U Z S.A H->eW U Z S.A S.L L->gp U Z S.A es.length S.E T->
  ∃e dM v aq bh bV,k e dM/\(∃cy,∀m,cy<=m->∀k aU,f (C m) L T H k aU=k v aq)/\fx X d U Z H S bh bV aq dM/\cd bh bV dM.A e v
def ano(aw:lN P op=.pure)(h:hs (dq C) (u5 P es ae S op) λv=>k v S):qw C X d es (oi P es ae op).f S k:=by have⟨e,B,F⟩:=kk h;intro U Z H L T aW cn bR;have⟨v,g1,g2⟩:=VG cn bR B;refine⟨e,S,v,H,U,Z,F,⟨0,λm _ k aU=>?_⟩,fx.refl aW,g2⟩;unfold oi;rw[aw];simp only;generalize sY P es ae op=c at g1;have⟨c⟩:=c;exact g1 _
def ajr{t}(h:hs (dq C) (wP P t S.A (dN es ae S x)) λv=>k v S):qw C X d es (hN P es ae (.load t x)).f S k:=by have⟨e,B,F⟩:=kk h;intro U Z H L T aW cn bR;have⟨v,g1,g2⟩:=RD aW B (kD (ae:=ae) cn bR x);refine⟨e,S,v,H,U,Z,F,⟨0,λm _ k aU=>?_⟩,fx.refl aW,g2⟩;unfold hN;simp only;generalize db es ae x=g at g1;generalize il P t=c at g1;have⟨g⟩:=g;have⟨c⟩:=c;exact g1 _
def VU{t}(cb:zH X (dN es ae S x)=false)(h:hs (dq C) (ve P t S (dN es ae S x) (dN es ae S y)) λA=>k (.J .undef) ⟨S.L,S.E,A⟩):qw C X d es (hN P es ae (.store t x y)).f S k:=by
 have⟨A,B,F⟩:=kk h;intro U Z H L T aW cn bR;have⟨aq,g1,g2,g3,g4⟩:=ajL (X:=X) aW B cb (kD (ae:=ae) cn bR x) (kD (ae:=ae) cn bR y);have bP:=fx.of_map (S:=S) (d:=d) (Shape.map g4 (U:=U) (Z:=Z)) g2 g3 (λ_ _=>rfl) (λs _ h=>by
  cases q:look A s with
  |none=>rfl
  |some D=>
   cases D with
   |box el z aF=>have⟨fG,B⟩:=g4.1 _ _ _ _ q;rw[h] at B;cases B
   |arr el z ab u=>have⟨fG,_,B⟩:=g4.2 _ _ _ _ _ q;rw[h] at B;cases B) po.id λ_ _ _ _ _=>⟨rfl,rfl,rfl⟩
 rw[show S.L.map (dJ id)=S.L from by rw[show(dJ id)=id from uj td];simp,show S.E.map (dJ id)=S.E from by rw[show(dJ id)=id from uj td];simp] at bP;refine⟨_,_,.undef,aq,U,Z,F,⟨0,λm _ k aU=>?_⟩,bP,by simp only[cd,cN,bp]⟩;unfold hN;simp only;generalize db es ae x=ce at g1;generalize db es ae y=ee at g1;generalize oy P t=c at g1;have⟨ce⟩:=ce;have⟨ee⟩:=ee;have⟨c⟩:=c;exact g1 _
def adQ{t}(g1:∀k,(oy P t).f ((db es ae x).g L T) ((db es ae y).g L T) H k=k aq):∃cy,∀m,cy<=m->∀k aU,(hN P es ae (.store t x y)).f (C m) L T H k aU=k .undef aq:=by refine⟨0,λm _ k aU=>?_⟩;unfold hN;simp only;generalize db es ae x=ce at g1;generalize db es ae y=ee at g1;generalize oy P t=c at g1;have⟨ce⟩:=ce;have⟨ee⟩:=ee;have⟨c⟩:=c;exact g1 _
def abB{x er}(h:cr x (ev er)):w8 bc X er:=by
 cases er with
 |nil=>rfl
 |cons a l=>cases a with
  |zero=>cases h
  |succ a=>rfl
def ajd{t}(h:CZ (dq C) bf P t S (dN es ae S x) (dN es ae S y) k):qw C bf.du d es (hN P es ae (.store t x y)).f S k:=by
 unfold CZ at h;split at h
 .rename_i N v hp au;split at h
  .rename_i q;simp only[c6] at q;obtain⟨⟨⟨⟨_,_⟩,bU⟩,aS⟩,_⟩:=q;have⟨dP,F,ak⟩:=kk h;intro U Z H L T aW cn bR;have g1:=kD (ae:=ae) cn bR x;have g2:=kD (ae:=ae) cn bR y;rw[hp] at g1;rw[au] at g2;have Cc:=OY aW F aS;have⟨mI,jX,aq,bh,bV,gX,dr,c3,dY,f9,_⟩:=ak U _ H _ _ _ Cc g1 g2 .nil;have⟨H7,ah,b1⟩:=kk gX;rw[Pn] at ah b1;have eI:∀x,cr x (ev [nJ N / 4])=true->cr x (ev bf.du)=true:=λx I=>by have:=wJ.1 (JA I);simp only[iF] at this;rw[this];exact bU
   have⟨cw,c7,fu,fh⟩:=UF (er:=bf.du) (λ_ h=>JA h) eI (abB bU) aW F aS c3 dY f9 ah;exact⟨_,_,.undef,aq,bh,Z,b1,adQ dr,fx.of_map fu cw (c7) (λ_ _=>rfl) (λs _ h=>fh s h) (Pp _) λs _ _=>UU _ s,by simp only[cd,cN,bp]⟩
  .exact h.elim
 .split at h
  .exact h.elim
  .rename_i cb;exact VU cb h
end
section
variable{C:Nat->cG}{P:dy}{es:aO}{ae:dv}{S:c5}
def BQ(cn:eW U Z S.A S.L L)(bR:gp U Z S.A es.length S.E T):∀l,eW U Z S.A (l.map (dN es ae S)) ((ol es ae l).g L T)
 |[]=>rfl
 |x::l=>by have B:=kD (ae:=ae) cn bR x;have F:=BQ cn bR l;rw[Ou] at F ⊢;exact⟨_,_,rfl,B,F⟩
def DE{f hH cC args}(h:(db es ae f).g L T=.fn n hH cC)(call)(H)(k aU):(q3 es ae f args).f call L T H k aU=call n (hH++((ol es ae args).g L T++cC)) H λr H=>Ac r (λv=>k v H) (λv=>aU v H):=by
 unfold q3;generalize br:db es ae f=g at h;generalize ol es ae args=da;have⟨g⟩:=g;have⟨da⟩:=da;cases f with
 |func f=>
  simp only[db] at br;have:g=λ_ _=>bl.fn f [] []:=by cases br;rfl
  subst this;cases h;simp
 |_=>simp only;simp only at h;rw[h];simp only[BK,qM];rfl
def an8{d:Nat}{bf:Hint}{f:Operand}{args:List Operand}{k:a1->c5->Prop}(h:match dN es ae S f with
 |.J g=>tV (dq C) bf g (Ca f) (args.map (dN es ae S)) S k
 |.fn g bY bJ=>tV (dq C) bf (.fn g [] []) (some g) (bY++(args.map (dN es ae S)++bJ)) S k
 |_=>(dq C).fail):qw C bf.du d es (q3 es ae f args).f S k:=by
 generalize aI:dN es ae S f=r7 at h
 cases r7 with
 |J g=>obtain⟨n,bY,bJ,rfl,F⟩:=ZD (d:=d) h;intro U Z H L T aW cn bR;have ah:=kD (ae:=ae) cn bR f;rw[aI] at ah;simp only[cd,cN,bp] at ah;have⟨hH,cC,c9,aE,bt⟩:=ah;have⟨e,dM,v,aq,bh,bV,Bf,⟨cy,g1⟩,g2,g3⟩:=F U Z H hH _ cC aW aE (BQ cn bR args) bt;refine⟨e,dM,v,aq,bh,bV,Bf,⟨cy,λm hm k aU=>?_⟩,g2,g3⟩;rw[DE c9,g1 m hm];rfl
 |fn g bY bJ=>have⟨n,ix,z0,br,F⟩:=ZD (d:=d) h;cases br;intro U Z H L T aW cn bR;have ah:=kD (ae:=ae) cn bR f;rw[aI] at ah;simp only[cd] at ah;have⟨hH,cC,c9,aE,bt⟩:=ah;have⟨e,dM,v,aq,bh,bV,Bf,⟨cy,g1⟩,g2,g3⟩:=F U Z H [] _ [] aW rfl ((cd.d8 aE).append ((BQ cn bR args).append (cd.d8 bt))) rfl;refine⟨e,dM,v,aq,bh,bV,Bf,⟨cy,λm hm k aU=>?_⟩,g2,g3⟩;rw[DE c9];have g1:=g1 m hm;simp only[kv,oK] at g1;rw[g1];rfl
 |_=>exact h.elim
end
section
variable{C:Nat->cG}{P:dy}{es:aO}{ae:dv}{S:c5}{X:aO}
def ana(D):(gx f D).real=D.real:=lJ ..
def QO(aW:bL U Z S.A H)(ad:D.real)(aB:xK U Z S.A iq D):fx X d U Z H S U (lI Z d H.next) (H.add iq) (S.put d (gx (et d) D)):=by
 have hm:=yG (U:=U) (Z:=Z) (A:=S.A) (s:=d) H.next (gx (et d) D);have br:=zW H iq;refine fx.of_map hm (aW.put (by rw[br.2.2];omega) br.1 (λ_=>⟨by rw[br.2.2];omega,?_⟩) (λh=>?_)) (eQ.put aW (by rw[br.2.2];omega) br.1) (λs q=>jH q) (λs q e=>zh q e) (yx d) λs q _=>yV q
 .cases D with
  |box el z aF=>
   obtain⟨am,rfl,g2,g3,g4⟩:=aB;have g5:=hm.row (dO.le_refl U) g4;cases aF with
   |cc l=>exact⟨am,by rw[nk];exact br.2.1,g2,g3,g5⟩
   |bE l=>exact⟨am,by rw[nk];exact br.2.1,g2,g3,g5⟩
  |arr el z ab u=>obtain⟨am,rfl,g2,g3,g4⟩:=aB;exact λ_=>⟨am,by rw[nk];exact br.2.1,g2,g3,g4⟩
 .rw[ana,ad] at h;cases h
def WN:∀{args:bG}{bX:di}{eE},gD HJ args=some bX->eW U Z A args eE->cJ U bX eE
 |[],bX,eE,h,au=>by cases h;simpa only[eW,cJ] using au
 |e::args,bX,eE,h,au=>by
  obtain⟨v,aM,rfl,g1,g2⟩:=au;cases e with
  |J t=>
   simp only[gD,HJ] at h;cases q:gD HJ args with
   |none=>rw[q] at h;cases h
   |some r=>rw[q] at h;cases h;exact .cons g1 (WN q g2)
  |_=>cases h
def alH{aF am}(aW:bL U Z S.A H)(hle:U.le bh)(aB:H.next<=aq.next)(br:∀b,b<H.next->aq.get b=H.get b)(aI:∀b D,bh b=some D->aq.get b=D/\b<aq.next)(pK:∀b D,bh b=some D->U b=some D\/H.next<=b)(B:H.next<=a)(F:a<aq.next)(ah:bh a=none)(aE:aq.get a=.cells am 1 z el false false)(bt:1<=am.cap)(b1:0<z)(ep:aF.length=z)(fm:cJ bh aF (am.row 0)):fx X d U Z H S bh (lI Z d a) aq (S.put d (.box el z (.cc aF))):=by
 have e8:∀t bs,look ((d,eS.box el z (.cc aF))::fL (et d) (rem S.A d)) t=some bs->(t=d/\bs=.box el z (.cc aF))\/(t≠d/\∃cQ,look S.A t=some cQ/\bs=gx (et d) cQ):=λt bs al=>by
  rw[hO] at al;by_cases e:t=d
  .rw[b3 e] at al;cases al;exact .inl ⟨e,rfl⟩
  .rw[bA e,nQ,rQ,bA e] at al;cases az:look S.A t with
   |none=>rw[az] at al;cases al
   |some cQ=>rw[az] at al;cases al;exact .inr ⟨e,cQ,rfl,rfl⟩
 have hm:ji (et d) U Z S.A bh (lI Z d a) ((d,eS.box el z (.cc aF))::fL (et d) (rem S.A d)):=λe v h=>by
  have cb:=yG (U:=U) (Z:=Z) (A:=S.A) (s:=d) a (.box el z (.cc aF)) e v h;cases az:et d e with
  |J t=>rw[az] at cb;exact bp.mono hle _ _ cb
  |_=>rw[az] at cb;exact cb
 have low:∀t cQ,look S.A t=some cQ->cQ.real=true->Z t<H.next/\bh (Z t)=none:=λt cQ K ad=>by
  have g:=aW.lt t cQ K ad;refine⟨g.1,?_⟩;cases az:bh (Z t) with
  |none=>rfl
  |some x=>
   rcases pK _ _ az with h|h
   .rw[g.2] at h;cases h
   .omega
 refine fx.of_map hm ⟨aI,λt bs al ad=>?_,λt a6 cQ eL al hS ad fN e=>?_,λt bs al=>?_⟩ ⟨λb D ay _=>hle b D ay,aB,λb av _ _=>br b av,λb D ay=>(pK b D ay).elim .inl λh=>.inr (.inl h),λt bs al ad=>?_⟩ (λs q=>jH q) (λs q e=>zh q e) (yx d) λs q _=>yV q
 .rcases e8 t bs al with⟨rfl,rfl⟩|⟨dB,cQ,K,rfl⟩
  .rw[nk];exact⟨F,ah⟩
  .rw[jH dB];rw[lJ] at ad;have:=low t cQ K ad;exact⟨nV this.1 aB,this.2⟩
 .rcases e8 t cQ al with⟨rfl,rfl⟩|⟨dB,eY,g1,rfl⟩<;>rcases e8 a6 eL hS with⟨rfl,rfl⟩|⟨Ff,ex,g2,rfl⟩
  .rfl
  .rw[nk,jH Ff] at e;rw[lJ] at fN;have:=(low a6 ex g2 fN).1;omega
  .rw[nk,jH dB] at e;rw[lJ] at ad;have:=(low t eY g1 ad).1;omega
  .rw[jH dB,jH Ff] at e;rw[lJ] at ad fN;exact aW.inj t a6 eY ex g1 g2 ad fN e
 .rcases e8 t bs al with⟨rfl,rfl⟩|⟨dB,cQ,K,rfl⟩
  .exact⟨am,by rw[nk];exact aE,bt,b1,ep,fm⟩
  .exact(aW.obj t cQ K).hZ hm hle (jH dB) λad=>br _ (aW.lt t cQ K ad).1
 .rcases e8 t bs al with⟨rfl,rfl⟩|⟨dB,cQ,K,rfl⟩
  .rw[nk];exact .inl B
  .rw[jH dB];rw[lJ] at ad;exact .inr ⟨t,cQ,K,ad,rfl,λh=>by rw[Bl];exact h⟩
def Wl{d:Nat}{f:Operand}{args:List Operand}{k:a1->c5->Prop}(h:match dN es ae S f with
 |.J g=>P2 (dq C) d g (args.map (dN es ae S)) S k
 |_=>(dq C).fail):qw C X d es (q3 es ae f args).f S k/\∀(U:dO)(Z:Nat->Nat)(H:bd)(L:cv)(T:b4),bL U Z S.A H->eW U Z S.A S.L L->gp U Z S.A es.length S.E T->
 ∃cy v aq,(∀m,cy<=m->∀k aU,(q3 es ae f args).f (C m) L T H k aU=k v aq)/\∀a,a<H.next->aq.get a=H.get a:=by
 generalize aI:dN es ae S f=r7 at h
 cases r7 with
 |J g=>
  obtain⟨bX,B,n,bY,bJ,rfl,F⟩:=kk h;have oY:∀(U:dO)(Z:Nat->Nat)(H:bd)(L:cv)(T:b4),bL U Z S.A H->eW U Z S.A S.L L->gp U Z S.A es.length S.E T->
   ∃el z aF a aq bh,k (.bH d 0) (S.put d (.box el z (.cc aF)))/\(∃cy,∀m,cy<=m->∀k aU,(q3 es ae f args).f (C m) L T H k aU=k (.ptr a 0 0 z) aq)/\fx X d U Z H S bh (lI Z d a) aq (S.put d (.box el z (.cc aF)))/\∀b,b<H.next->aq.get b=H.get b:=by
   intro U Z H L T aW cn bR
   have ah:=kD (ae:=ae) cn bR f
   rw[aI] at ah
   simp only[cd,cN,bp] at ah
   have⟨hH,cC,c9,aE,bt⟩:=ah
   have b1:=WN B (BQ (ae:=ae) cn bR args)
   have BM:bL U Z [] H:=⟨aW.gf,λs D h=>(by cases h),λs cP D bs h=>(by cases h),λs D h=>(by cases h)⟩
   have⟨el,z,aF,a,am,aq,bh,q,⟨cy,g1⟩,g2,g3,g4,g5,g6,gA,j4,KF,Ph,aqD,aqv,aqy,aqz⟩:=F U Z H _ BM (aE.append (b1.append bt))
   refine⟨el,z,aF,a,aq,bh,q,⟨cy,λm hm k aU=>?_⟩,alH aW g2 g3 g4 g5 g6 gA j4 KF Ph aqD aqv aqy aqz,g4⟩
   rw[DE c9,g1 m hm]
   rfl
  refine⟨λU Z H L T aW cn bR=>?_,λU Z H L T aW cn bR=>?_⟩
  .have⟨el,z,aF,a,aq,bh,q,g1,g2,_⟩:=oY U Z H L T aW cn bR;refine⟨_,_,_,aq,bh,_,q,g1,g2,λeC cI fB K=>?_⟩;have:look (S.put d (.box el z (.cc aF))).A d=some (.box el z (.cc aF)):=by show look ((d,eS.box el z (.cc aF))::_) d=_;rw[hO,b3 rfl]
   rw[this] at K;cases K;rw[nk]
  .have⟨el,z,aF,a,aq,bh,q,⟨cy,g1⟩,g2,g3⟩:=oY U Z H L T aW cn bR;exact⟨cy,_,aq,g1,g3⟩
 |_=>exact h.elim
end
section
variable{C:Nat->cG}{P:dy}{es:aO}{ae:dv}{S:c5}{bf:Hint}{X:aO}
def we(l:bG):l.map (dJ id)=l:=by rw[show(dJ id)=id from uj td];simp
def adg(D):gx id D=D:=by
 cases D with
 |box el z aF=>cases aF<;>simp [gx]
 |arr=>rfl
def ahW(aW:bL U Z S.A H):fx X d U Z H S (λa=>if a=H.next then some iq else U a) Z (H.add iq) S:=by
 have br:=zW H iq;have hle:U.le (λa=>if a=H.next then some iq else U a):=λa D ay=>by have:=(aW.gf a D ay).2;simp only;rw[bA Y];exact ay
 have hm:ji id U Z S.A (λa=>if a=H.next then some iq else U a) Z S.A:=λe v h=>by
  cases e with
  |J t=>exact bp.mono hle _ _ h
  |_=>exact h
 have ait:S.L.map (dJ id)=S.L:=we _;have agA:S.E.map (dJ id)=S.E:=we _;refine⟨⟨λa D ay=>?_,λs D K ad=>?_,aW.inj,λs D K=>?_⟩,⟨λa D h _=>hle a D h,by rw[br.2.2];omega,λa aD _ _=>br.1 a aD,λa D ay=>?_,λs D K ad=>.inr ⟨s,D,K,ad,rfl,λh=>h⟩⟩,λ_ _=>rfl,λ_ _ h=>h,id,po.id,λ_ _ _ _ _=>⟨rfl,rfl,rfl⟩,ait.symm,agA.symm,hm⟩
 .by_cases e:a=H.next
  .subst e;simp only[nI] at ay;cases ay;exact⟨br.2.1,by rw[br.2.2];omega⟩
  .simp only[bA e] at ay;have:=aW.gf a D ay;exact⟨by rw[br.1 a this.2];exact this.1,by rw[br.2.2];omega⟩
 .have:=aW.lt s D K ad;refine⟨by rw[br.2.2];omega,?_⟩;show(if Z s=H.next then some iq else U (Z s))=none;rw[bA Y];exact this.2
 .have:=(aW.obj s D K).hZ (aq:=H.add iq) hm hle rfl λad=>br.1 _ (aW.lt s D K ad).1;rwa [adg] at this
 .by_cases e:a=H.next
  .exact .inr (.inl Y)
  .simp only[bA e] at ay;exact .inl ay
def aje(aw:lN P op=.sf)(h:D1 (dq C) bf P es ae d op S k):qw C X d es (oi P es ae op).f S k:=by
 unfold D1 at h;have⟨r,B,F⟩:=kk h;have dC:∀(c:cG)(L:cv)(T:b4)(H:bd)(k aU:bl->bd->Bool)(D:gB)(gb:Nat->bl),(∀k,(xz P es ae op).f L T k=k D gb)->(oi P es ae op).f c L T H k aU=k (gb H.next) (H.add D):=by intro c L T H k aU D gb g;unfold oi;rw[aw];simp only;generalize xz P es ae op=q at g;have⟨q⟩:=q;simp only at g ⊢;rw[g,OQ eN]
 have⟨e,D⟩:=r;cases D with
 |some D=>
  intro U Z H L T aW cn bR;have⟨iq,gb,g1,g2⟩:=RN aW cn bR B;rcases g2 with⟨el,z,aF,aZ,rfl,g3⟩|⟨el,z,ab,aZ,rfl,g3⟩|⟨el,z,ab,aZ,rfl,g3⟩
  .cases aZ;refine⟨_,_,_,_,_,_,F,⟨0,λm _ k aU=>dC _ _ _ _ _ _ _ _ g1⟩,QO aW rfl g3,?_⟩;intro eC cI fB K;have K:look ((d,gx (et d) (.box el z aF))::fL (et d) (rem S.A d)) d=some (.box eC cI fB):=K;rw[hO,b3 rfl] at K;rw[nk];cases aF<;>cases K<;>rfl
  .cases aZ;refine⟨_,_,_,_,_,_,F,⟨0,λm _ k aU=>dC _ _ _ _ _ _ _ _ g1⟩,QO aW (by cases ab<;>rfl) g3,?_⟩;intro eC cI f7 u K;have K:look ((d,gx (et d) (.arr el z ab false))::fL (et d) (rem S.A d)) d=some (.arr eC cI f7 u):=K;rw[hO,b3 rfl] at K;rw[nk];cases K;rfl
  .cases aZ
 |none=>
  intro U Z H L T aW cn bR;have⟨iq,gb,g1,g2⟩:=RN aW cn bR B;rcases g2 with⟨el,z,aF,aZ,rfl,g3⟩|⟨el,z,ab,aZ,rfl,g3⟩|⟨el,z,ab,aZ,rfl,g3⟩
  .cases aZ
  .cases aZ
  .cases aZ;have bP:=fx.ft (X:=X) (d:=d) (S:=S) aW (nF es ae op S);have bc:=ahW (X:=X) (d:=d) (iq:=iq) bP.ok;refine⟨_,_,_,_,_,_,F,⟨0,λm _ k aU=>dC _ _ _ _ _ _ _ _ g1⟩,bP.trans bc,?_⟩;obtain⟨am,rfl,cB,dV,gO⟩:=g3;refine .inr ⟨H.next,0,_,_,_,am,ab.length,el,false,false,rfl,?_,by omega,cB,⟨λ_=>ez _,rfl⟩,fI.mono (λa D h=>by have:=(bP.ok.gf a D h).2;show(if a=H.next then _ else _)=_;rw[bA Y];exact h) _ _ _ _ gO,by omega,by omega⟩;simp only[nI]
end
end Go.Tx
