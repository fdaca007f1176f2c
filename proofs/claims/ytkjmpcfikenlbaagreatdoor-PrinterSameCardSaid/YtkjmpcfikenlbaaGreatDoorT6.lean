/- A part. -/
import Derived.Test.YtkjmpcfikenlbaaGreatDoorT5
set_option linter.all false
namespace Go.Tx
open Go Go.Ev
section
variable{C:Nat->cE}{P:dK}{es:aO}{bo:kH}{aT:Nat}
def HM(C:Nat->cE)(X:aO)(es:aO)(f:cE->cx->ca->bg->(ca->bg->Bool)->(ca->bp->bg->Bool)->Bool)(S:c8)(k:c8->Prop):Prop:=
 ∀(U:ek)(Z:Nat->Nat)(H:bg)(L:cx)(T:ca),b0 U Z S.A H->f9 U Z S.A S.L L->gR U Z S.A es.length S.E T->
  ∃ei c6 az bm b2,k ei/\(∃cS,∀m,cS<=m->∀k a8,f (C m) L T H k a8=k c6 az)/\b0 bm b2 ei.A az/\fz X U Z S.A H bm b2 ei.A az/\gR bm b2 ei.A es.length ei.E c6/\c6.ah=T.ah/\∀s,1000<=s->b2 s=Z s
def K7(C:Nat->cE)(X:aO)(d:Nat)(es:aO)(f:cE->cx->ca->bg->(bp->bg->Bool)->(bp->bg->Bool)->Bool)(S:c8)(k:a2->c8->Prop):Prop:=
 ∀(U:ek)(Z:Nat->Nat)(H:bg)(L:cx)(T:ca),b0 U Z S.A H->f9 U Z S.A S.L L->gR U Z S.A es.length S.E T->
  ∃e ei v az bm b2,k e ei/\(∃cS,∀m,cS<=m->∀k a8,f (C m) L T H k a8=k v az)/\(b0 bm b2 ei.A az/\fz X U Z S.A H bm b2 ei.A az/\(∀s,s≠d->b2 s=Z s)/\f9 bm b2 ei.A ei.L L/\gR bm b2 ei.A es.length ei.E T)/\co bm b2 ei.A e v
def qa.w{X}{d}{f}{S}{k}(h:qa C X d es f S k):K7 C X d es f S k:=λU Z H L T a4 cB bY=>by have⟨e,ei,v,az,bm,b2,D,F,aq,aL⟩:=h U Z H L T a4 cB bY;exact⟨e,ei,v,az,bm,b2,D,F,⟨aq.ok,aq.iB,aq.aN,aq.sy _ cB,aq.ru _ _ bY⟩,aL⟩
variable{E:bK}{L:cx}{S:c8}{T:ca}{d n:Nat}{ah:dM}{k:a2->c8->Prop}{A:bf}{U:ek}{Z:Nat->Nat}
def gR.ajx{i e}(h:gR U Z A n E T)(aI:i<n->co U Z A e (T.slot i)):gR U Z A n (j9 E i e) T:=by
 refine⟨h.1,by rw[FR];exact h.2.1,λj bl=>?_⟩;rcases m4 i n with aN|aN
 .rw[G8 E i j e (by rw[h.2.1];exact aN)];by_cases q:j=i
  .rw[ev q,q];exact aI aN
  .rw[cO q];exact h.2.2 j bl
 .rw[ae5 (by rw[h.2.1];exact aN)];exact h.2.2 j bl
 where ae5:∀{E:bK}{i:Nat}{v:a2},E.length<=i->j9 E i v=E
  |[],_,_,_=>rfl
  |_::_,0,_,h=>by simp at h
  |a::l,n+1,v,h=>by simp only[j9,ae5 (by simpa using h)]
def QP(T:ca)(n:Nat):aO->cx
 |[]=>[]|s::l=>(if s<n then T.slot s else .any)::QP T n l
def abs(h:gR U Z A n E T):∀l,c5 U (H7 E l) (QP T n l)
 |[]=>.nil
 |s::l=>by
  refine .cons ?_ (abs h l);split
  .rename_i t au;by_cases q:s<n
   .rw[ev q];have:=h.2.2 s q;rw[au]at this;exact this
   .have F:∀(E:bK)(s:Nat),E.length<=s->jv E s=.J .undef:=by
     intro E;induction E with
     |nil=>intro s _;rfl
     |cons a l bQ=>intro s ap;cases s with
      |zero=>grind
      |succ s=>exact bQ s (by simp_all)
    rw[F E s (by rw[h.2.1];omega)]at au;cases au;simp[bR]
  .simp[bR]
def ZP:∀(l)(bX){E},gR U Z A n E T->c5 U bX (QP T n l)->gR U Z A n (IR E l bX) T
 |[],_,_,h,_=>by exact h
 |_::_,[],_,h,_=>h
 |s::l,t::r,E,h,g=>by have⟨v,aK,aP,aj,an⟩:=g.inv;obtain⟨rfl,rfl⟩:=aP;refine ZP l r (h.ajx λq=>?_) an;rw[ev q]at aj;exact aj
def am8{x y}{t}(h:Cb (dH C) bo P t S (ey es ah S x) (ey es ah S y) k):K7 C bo.dL d es (im P es ah (.store t x y)).f S k:=by
 unfold Cb at h;split at h
 .rename_i p v bq aI;split at h
  .rename_i q;simp at q;obtain⟨⟨⟨⟨_,_⟩,b4⟩,aX⟩,_⟩:=q;have⟨ej,F,ap⟩:=kJ h;intro U Z H L T a4 cB bY;have aj:=lf (ah:=ah) cB bY x;have an:=lf (ah:=ah) cB bY y;rw[bq]at aj;rw[aI]at an;have B3:=MR a4 F aX;have⟨nI,kL,az,bm,b2,e5,cT,cN,el,gB,Bl⟩:=ap U _ H _ _ _ B3 aj an (abs bY bo.xu);have⟨J5,aq,cr⟩:=kJ e5;have eC:∀x,cn x (fq [nz p / 4])=true->cn x (fq bo.dL)=true:=λx M=>by have:=uo.1 (It M);simp_all
   have⟨cD,dp,ga,fX⟩:=Pq (et:=bo.dL) (λ_ h=>It h) eC (ael b4) a4 F aX cN el gB aq;exact⟨_,_,.undef,az,bm,Z,cr,acL cT,⟨cD,dp,λ_ _=>rfl,ga.lC cB,ZP _ _ (ga.xg bY) Bl⟩,by simp[co,dE,bR]⟩
  .exact h.elim
 .split at h
  .exact h.elim
  .rename_i br;exact(aey br h).w
def acD{op}(h:CV (dH C) bo P es ah d op S k):K7 C bo.dL d es (og P es ah op).f S k:=by
 unfold CV at h;split at h
 .simp_all[am8,og]
 .exact(ah1 h).w
def K6{X}{pY}{s}{r:ri}{S}{cN}{k}{d0}(aY:d0<1000)(h:K7 C X d0 es s.f S λv S=>A0 (dH C) es aT pY v S cN)(ag:∀EJ,cN EJ->HM C X es r.f EJ k):HM C X es (after es aT pY s r).f S k:=by
 intro U Z H L T a4 cB bY;have⟨e,ow,v,cM,iP,jU,D,⟨B8,F⟩,⟨Sd,k3,T4,Cc,rB⟩,aL⟩:=h U Z H L T a4 cB bY;have⟨s⟩:=s;unfold after;unfold A0 at D;cases pY with
 |none=>simp only at D ⊢;have⟨ei,c6,az,bm,b2,aj,⟨l1,an⟩,aM,bs,cp,dj,ip⟩:=ag _ D iP jU cM (.any::L) T Sd ⟨_,_,rfl,(by simp[co,dE,bR]),Cc⟩ rB;refine⟨ei,c6,az,bm,b2,aj,⟨B8+l1,λm hm k a8=>?_⟩,aM,k3.trans bs,cp,dj,λs q=>(ip s q).trans (T4 s I)⟩;grind
 |some d=>
  simp only at D ⊢;cases aY:Nat.blt d aT with
  |false=>rw[aY]at D;exact D.elim
  |true=>
   rw[aY]at D;cases aN:jB d es with
   |none=>rw[aN]at D;simp only at D ⊢;have⟨ei,c6,az,bm,b2,aj,⟨l1,an⟩,aM,bs,cp,dj,ip⟩:=ag _ D iP jU cM (v::L) T Sd ⟨_,_,rfl,aL,Cc⟩ rB;refine⟨ei,c6,az,bm,b2,aj,⟨B8+l1,λm hm k a8=>?_⟩,aM,k3.trans bs,cp,dj,λs q=>(ip s q).trans (T4 s I)⟩;grind
   |some i=>rw[aN]at D;simp only at D ⊢;have be:=P3 aN;rw[zu (show i<64 by have:=bY.1;omega)];have bq:=Jg i;simp only at bq ⊢;have⟨ei,c6,az,bm,b2,aj,⟨l1,an⟩,aM,bs,cp,dj,ip⟩:=ag _ D iP jU cM (v::L) (T.A8 i v) Sd ⟨_,_,rfl,aL,Cc⟩ (rB.set be aL);refine⟨ei,c6,az,bm,b2,aj,⟨B8+l1,λm hm k a8=>?_⟩,aM,k3.trans bs,cp,by rw[dj,ca.Ki],λs q=>(ip s q).trans (T4 s I)⟩;grind
def XE:∀{L:bK}{i}{b}{U}{Z}{A}{l},jv L i=.J (.bool b)->f9 U Z A L l->f9 U Z A (su L i b) l
 |[],_,_,_,_,_,_,_,h=>h
 |e::L,0,b,_,_,_,_,aD,h=>by obtain⟨v,aK,rfl,aj,an⟩:=h;have:e=.J (.bool b):=aD;subst this;exact⟨v,aK,rfl,aj,an⟩
 |e::L,i+1,b,_,_,_,_,aD,h=>by obtain⟨v,aK,rfl,aj,an⟩:=h;exact⟨v,aK,rfl,aj,XE (i:=i) aD an⟩
def acV{w y n}(h:Bs (dH C) ah d w S y n)(cB:f9 U Z S.A S.L L):((ls es ah d).g L T=.undef/\n S)\/∃b gD,(ls es ah d).g L T=.bool b/\f9 U Z S.A gD L/\(if b=w then y ⟨gD,S.E,S.A⟩else n ⟨gD,S.E,S.A⟩):=by
 unfold Bs at h;cases bq:j2 d ah with
 |none=>rw[bq]at h;exact h.elim
 |some i=>
  rw[bq]at h;have bI:(ls es ah d).g L T=L.getD i .any:=by simp_all[ls,CF]
  have aI:=cB.nth i;rw[bI];simp at h;split at h
  .rename_i aD;rw[aD]at aI;exact .inl ⟨aI,h⟩
  .rename_i t aD;rw[aD]at aI;have⟨b,D,F⟩:=kJ h;have au:=SG D;cases au;refine .inr ⟨b,su S.L i b,?_,XE aD cB,?_⟩
   .simp_all[co,dE,bR]
   .rcases X8 F with⟨rfl,aq⟩|⟨rfl,aq⟩<;>cases w<;>simpa using aq
  .exact h.elim
def TY{g w yes no call H k a8}:(g.g L T=.undef->(guarded g w yes no).f call L T H k a8=no.f call L T H k a8)/\∀b,g.g L T=.bool b->(guarded g w yes no).f call L T H k a8=if b=w then yes.f call L T H k a8 else no.f call L T H k a8:=by
 have⟨g⟩:=g;refine⟨λh=>?_,λb h=>?_⟩
 .cases w
  .show FU (g L T) _ _=_;rw[show g L T=.undef from h];rfl
  .show GZ (g L T) _ _=_;rw[show g L T=.undef from h];rfl
 .cases w
  .show FU (g L T) _ _=_;rw[show g L T=.bool b from h];cases b<;>rfl
  .show GZ (g L T) _ _=_;rw[show g L T=.bool b from h];cases b<;>rfl
def Yw{d}{X}{S}{k}(h:k .i4 S):qa C X d es If.f S k:=λU Z H L T a4 cB bY=>
 ⟨.i4,S,.undef,H,U,Z,h,⟨0,λm _ k a8=>rfl⟩,fM.refl a4,rfl⟩
def acQ{av}{k}:∀{l}{ah}{S},zx (dH C) bo P es aT av ah l S k->HM C bo.dL es (vJ P es aT av ah l).f S k
 |[],ah,S,h=>λU Z H L T a4 cB bY=>⟨S,T,H,U,Z,h,⟨0,λm _ k a8=>rfl⟩,a4,fz.refl _ _ _ _,bY,rfl,λ_ _=>rfl⟩
 |B::l,ah,S,h=>by
  have bQ:=λ{ah:dM}{S:c8}=>acQ (av:=av) (k:=k) (l:=l) (ah:=ah) (S:=S);unfold zx at h;unfold vJ;cases rh:(z7 B.op|| !Nat.blt (B.dst.getD 0) 1000)with
  |true=>rw[rh]at h;exact h.elim
  |false=>
   rw[rh]at h;have⟨rh,aY⟩:=sX rh;have aY:B.dst.getD 0<1000:=dg.1 (by simp_all);split
   .rename_i c aQ;rw[aQ]at rh;cases rh
   .split
    .rename_i bI;rw[bI]at h;exact K6 aY (acD h) λEJ F=>bQ F
    .rename_i j w bI;rw[bI]at h;simp at h;cases bl:(av[j]?).bind (·.dst)with
     |none=>rw[bl]at h;exact h.elim
     |some d=>
      rw[bl]at h;intro U Z H L T a4 cB bY;rcases acV h cB with⟨D,F⟩|⟨b,gD,D,F,aq⟩
      .have⟨ei,c6,az,bm,b2,aj,⟨cS,an⟩,aM⟩:=K6 aY (Yw F).w (λEJ F=>bQ F) U Z H L T a4 cB bY;exact⟨ei,c6,az,bm,b2,aj,⟨cS,λm hm k a8=>by rw[TY.1 D];simp_all⟩,aM⟩
      .by_cases e:b=w
       .rw[ev e]at aq;have⟨ei,c6,az,bm,b2,aj,⟨cS,an⟩,aM⟩:=K6 aY (acD aq) (λEJ F=>bQ F) U Z H L T a4 F bY;exact⟨ei,c6,az,bm,b2,aj,⟨cS,λm hm k a8=>by simp_all[TY]⟩,aM⟩
       .rw[cO e]at aq;have⟨ei,c6,az,bm,b2,aj,⟨cS,an⟩,aM⟩:=K6 aY (qa.w (Yw (S:=⟨gD,S.E,S.A⟩) aq)) (λEJ F=>bQ F) U Z H L T a4 F bY;exact⟨ei,c6,az,bm,b2,aj,⟨cS,λm hm k a8=>by simp_all[TY]⟩,aM⟩
end
variable{E l:bK}{H:bg}{T:ca}{e:a2}{ak j n s t x z:Nat}{g:a2->a2}{r:cx}{A bE:bf}{v:bp}{U:ek}{Z:Nat->Nat}
def abi(pG:s≠t):∀{A},look A t=none->∀x,look (wc s t A) x=if x=t then look A s else if x=s then none else look A x
 |[],_,x=>by simp[wc,look]
 |(a,B)::l,au,x=>by
  rw[iC]at au;by_cases w5:t=a
  .simp_all
  rw[cO w5]at au;simp[wc];cases q:Nat.beq a s with
  |true=>
   have q:=dA.1 q;subst q;simp only;rw[iC,rU,iC,iC,ev rfl];simp_all
  |false=>
   have q:=tu q;have aP:look ((a,B)::l) s=look l s:=by rw[iC,cO (λh=>q h.symm)]
   rw[aP,iC];by_cases e:x=a
   .subst e;rw[ev rfl,cO (λh=>w5 h.symm),cO q,iC,ev rfl]
   .rw[cO e,abi pG au x,iC,cO e]
section
variable{U:ek}{Z:Nat->Nat}{A:bf}{H:bg}{X:aO}
def abk(pG:s≠t)(au:look A t=none)(x):look (gh (q0 s t) (wc s t A)) x=if x=t then(look A s).map (g8 (q0 s t))else if x=s then none else(look A x).map (g8 (q0 s t)):=by
 rw[nB,abi pG au];grind
def afr{aJ}(h:(look A x).map (g8 g)=some (.box ak z aJ)):∃mf,look A x=some (.box ak z mf):=by
 cases ar:look A x with
 |none=>simp_all
 |some B=>
  rw[ar]at h;cases B with
  |box e8 cJ gj=>cases gj<;>(cases h;simp_all)
  |bF=>cases h
def Mf{Q u}(h:(look A x).map (g8 g)=some (.bF ak z Q u)):look A x=some (.bF ak z Q u):=by
 cases ar:look A x with
 |none=>simp_all
 |some B=>
  rw[ar]at h;cases B with
  |box e8 cJ gj=>cases gj<;>cases h
  |bF=>cases h;rfl
def Sh(pG:s≠t)(au:look A t=none):jV (q0 s t) U Z A U (mc Z t (Z s)) (gh (q0 s t) (wc s t A)):=by
 have fR:=abk (A:=A) pG au;intro e v h;cases e with
 |J t=>exact h|bx=>exact h|i4=>exact h
 |bN a aR=>
  simp[q0];cases q:Nat.beq a t with
  |true=>simp[dE,bR]
  |false=>
   have q:=tu q;intro ak z aJ Y;rw[fR,cO q]at Y;by_cases e:a=s
   .simp_all
   .rw[cO e]at Y;have⟨mf,Y⟩:=afr Y;rw[j6 q];exact h _ _ _ Y
 |bD a=>
  simp[q0];cases q:Nat.beq a t with
  |true=>simp[dE,bR]
  |false=>
   have q:=tu q;cases aX:Nat.beq a s with
   |true=>have aX:=dA.1 aX;subst aX;intro ak z Q u Y;rw[fR,ev rfl]at Y;rw[m2];exact h _ _ _ _ (Mf Y)|false=>have aX:=tu aX;intro ak z Q u Y;rw[fR,cO q,cO aX]at Y;rw[j6 q];exact h _ _ _ _ (Mf Y)
 |fU a r aR=>
  simp[q0];cases q:Nat.beq a t with
  |true=>simp[dE,bR]
  |false=>
   have q:=tu q;cases aX:Nat.beq a s with
   |true=>have aX:=dA.1 aX;subst aX;intro ak z Q u Y;rw[fR,ev rfl]at Y;rw[m2];exact h _ _ _ _ (Mf Y)|false=>have aX:=tu aX;intro ak z Q u Y;rw[fR,cO q,cO aX]at Y;rw[j6 q];exact h _ _ _ _ (Mf Y)
 |agg l=>exact h|fn f x y=>exact h
def Zr(xz:nW A s)(pG:s≠t)(au:look A t=none)(a4:b0 U Z A H):b0 U (mc Z t (Z s)) (gh (q0 s t) (wc s t A)) H/\fz X U Z A H U (mc Z t (Z s)) (gh (q0 s t) (wc s t A)) H:=by
 have fR:=abk (A:=A) pG au;have BC:∀x B,look (gh (q0 s t) (wc s t A)) x=some B->∃y bH,look A y=some bH/\B=g8 (q0 s t) bH/\mc Z t (Z s) x=Z y/\(if x=t then y=s else y=x/\x≠s):=by
  intro x B h;rw[fR]at h;by_cases e:x=t
  .rw[ev e]at h;cases ar:look A s with
   |none=>simp_all
   |some bH=>rw[ar]at h;cases h;exact⟨s,bH,ar,rfl,by rw[e,m2],by grind⟩
  .rw[cO e]at h;by_cases a3:x=s
   .simp_all
   .rw[cO a3]at h;cases ar:look A x with
    |none=>simp_all
    |some bH=>rw[ar]at h;cases h;exact⟨x,bH,ar,rfl,j6 e,by simp_all⟩
 refine⟨⟨a4.e6,λx B h ag=>?_,λx QG B bH h cz ag f7 e=>?_,λx B h=>?_⟩,⟨λ_ _ h _=>h,fI _,λ_ _ _ _=>rfl,λ_ _ h=>.inl h,λx B h ag=>.inr ?_⟩⟩
 .obtain⟨y,bH,D,rfl,F,_⟩:=BC x B h;rw[mi]at ag;rw[F];exact a4.lt y bH D ag
 .obtain⟨y,cL,D,rfl,F,aq⟩:=BC x B h;obtain⟨zp,ah9,s8,rfl,On,aac⟩:=BC QG bH cz;rw[mi]at ag f7;rw[F,On]at e;have:=a4.inj y zp cL ah9 D s8 ag f7 e;grind
 .obtain⟨y,bH,D,rfl,F,_⟩:=BC x B h;exact(a4.obj y bH D).U5 (Sh pG au) (ek.le_refl U) F λ_=>rfl
 .obtain⟨y,bH,D,rfl,F,aq⟩:=BC x B h;rw[mi]at ag;refine⟨y,bH,D,ag,F.symm,λa1=>?_⟩;rw[BP];by_cases e:x=t
  .rw[ev e]at aq;rw[aq]at D;unfold nW at xz;rw[D]at xz;cases bH with
   |box=>grind
   |bF=>cases a1
  simp_all
def IE(ap:∀s B,look bE s=some B->look A s=some B):jV id U Z A U Z bE:=λe v h=>by
 cases e with
 |bN s aR=>exact λak z aJ Y=>h _ _ _ (ap _ _ Y)|bD s=>exact λak z Q u Y=>h _ _ _ _ (ap _ _ Y)|fU s r aR=>exact λak z Q u Y=>h _ _ _ _ (ap _ _ Y)|_=>exact h
def S3(ap:∀s B,look bE s=some B->look A s=some B)(a4:b0 U Z A H):b0 U Z bE H/\fz X U Z A H U Z bE H:=by refine⟨⟨a4.e6,λs B h=>a4.lt s B (ap _ _ h),λs dx B bH h cz=>a4.inj s dx B bH (ap _ _ h) (ap _ _ cz),λs B h=>?_⟩,⟨λ_ _ h _=>h,fI _,λ_ _ _ _=>rfl,λ_ _ h=>.inl h,λs B h ag=>.inr ⟨s,B,ap _ _ h,ag,rfl,λh=>h⟩⟩⟩;have:=(a4.obj s B (ap _ _ h)).iB (az:=H) (IE ap) (ek.le_refl U) rfl λ_=>rfl;rwa[Y9]at this
def Lu:∀{l}{bE},pS A l=some bE->∀s B,look bE s=some B->look A s=some B
 |[],_,h,s,B,Y=>by cases h;cases Y
 |a::l,bE,h,s,B,Y=>by
  unfold pS at h;split at h
  .rename_i cL D;have⟨r,F,aq⟩:=it h;cases aq;rw[iC]at Y;by_cases e:s=a
   .simp_all
   .rw[cO e]at Y;exact Lu F s B Y
  grind
def gR.forget:∀{l}{E},gR U Z A n E T->gR U Z A n (forget E l) T
 |[],E,h=>h
 |i::l,E,h=>by
  refine gR.forget (l:=l) ⟨h.1,by rw[FR];exact h.2.1,λj bl=>?_⟩;by_cases aN:i<E.length
  .rw[G8 _ _ _ _ aN];by_cases e:j=i
   .simp_all[co,dE,bR]
   .rw[cO e];exact h.2.2 j bl
  .have:∀(E:bK)(i:Nat)(v:a2),¬i<E.length->j9 E i v=E:=by
    intro E;induction E with
    |nil=>intro i v _;rfl
    |cons a E bQ=>
     intro i v aN;cases i with
     |zero=>grind|succ i=>simp_all[j9]
   rw[this _ _ _ aN];exact h.2.2 j bl
def gc.set(h:gc U Z A l r)(aw:∀v,r[j]?=some v->dE U Z A e v):gc U Z A (j9 l j e) r:=by
 induction l generalizing r j with
 |nil=>exact h
 |cons a l bQ=>
  obtain⟨v,eH,rfl,aj,an⟩:=h;cases j with
  |zero=>exact⟨v,eH,rfl,aw v rfl,an⟩
  |succ j=>exact⟨v,eH,rfl,aj,bQ an λw cw=>aw w (by simp_all)⟩
def gc.at(h:gc U Z A l r)(aI:r[j]?=some v):dE U Z A (jv l j) v:=by
 induction l generalizing r j with
 |nil=>simp_all[gc]
 |cons a l bQ=>
  obtain⟨w,eH,rfl,aj,an⟩:=h;cases j with
  |zero=>cases aI;exact aj
  |succ j=>exact bQ an (by simp_all)
def aa1(bI:g (.J .undef)=.J .undef):∀(l:bK)(j),jv (l.map g) j=g (jv l j)
 |[],j=>by simp[jv,bI]
 |_::_,0=>rfl|_::l,j+1=>aa1 bI l j
def Hl:∀{l}{E:bK}{A}{Z}{r:bK×bf},we l E A=some r->b0 U Z A H->gR U Z A n E T->∃b2,b0 U b2 r.2 H/\fz X U Z A H U b2 r.2 H/\gR U b2 r.2 n r.1 T/\∀s,1000<=s->b2 s=Z s
 |[],E,A,Z,r,h,a4,bY=>by cases h;exact⟨Z,a4,fz.refl _ _ _ _,bY,λ_ _=>rfl⟩
 |a::l,E,A,Z,r,h,a4,bY=>by
  unfold we at h;split at h
  .rename_i ib aI;have ib:=dg.1 ib;split at h
   .rename_i pF oM yT nJ;have hm:=yB (U:=U) (Z:=Z) (A:=A) (s:=a.fE) H.next (.bF a.ak a.z [] true);have mj:b0 U (mc Z a.fE H.next) ((a.fE,.bF a.ak a.z [] true)::gh (e1 a.fE) (rem A a.fE)) H:=a4.put (fI _) (λ_ _=>rfl) (λh=>by cases h) (λ_ H=>λh=>by cases h);have Ze:fz X U Z A H U (mc Z a.fE H.next) ((a.fE,.bF a.ak a.z [] true)::gh (e1 a.fE) (rem A a.fE)) H:=fz.put a4 (fI _) λ_ _=>rfl;have rB:=hm.xg bY;have xz:∀v,v=bp.nil .s->dE U (mc Z a.fE H.next) ((a.fE,.bF a.ak a.z [] true)::gh (e1 a.fE) (rem A a.fE)) (.bD a.fE) v:=by intro v aI ak z Q u Y;rw[iC,ev rfl]at Y;cases Y;exact aI
    have jT:∃b2,b0 U b2 oM H/\fz X U Z A H U b2 oM H/\gR U b2 oM n pF T/\∀s,1000<=s->b2 s=Z s:=by
     unfold adI at aI;unfold Wl at nJ;cases aB:a.box with
     |false=>
      rw[aB]at aI nJ;simp only at aI nJ;cases nJ;refine⟨_,mj,Ze,⟨rB.1,by rw[FR];exact rB.2.1,λj bl=>?_⟩,λs q=>j6 I⟩;by_cases aN:a.i<(E.map (dF (e1 a.fE))).length
      .rw[G8 _ _ _ _ aN];by_cases e:j=a.i
       .rw[ev e,e];have br:=bY.2.2 a.i (by simp_all);rw[aI]at br;exact(xz _ br).aA
       .rw[cO e];exact rB.2.2 j bl
      .exfalso;rw[ex]at aN;have:jv E a.i=.J .undef:=by
        have:∀(E:bK)(i:Nat),¬i<E.length->jv E i=.J .undef:=by
         intro E;induction E with
         |nil=>intro i _;rfl
         |cons x E bQ=>
          intro i aN;cases i with
          |zero=>grind
          |succ i=>exact bQ i (by simp_all)
        simp_all
       simp_all
     |true=>
      rw[aB]at aI nJ;simp at aI nJ;split at aI
      .rename_i ak z g3 GN;have ed:a.i≠a.fE:=λe=>by simp_all
       have lR:look ((a.fE,fB.bF a.ak a.z [] true)::gh (e1 a.fE) (rem A a.fE)) a.i=some (.box ak z (.bS (g3.map (e1 a.fE)))):=by rw[iC,cO ed,nB,rU,cO ed,GN];rfl
       rw[lR]at nJ;cases nJ;have tx:=Bg (gj:=.bS (j9 (g3.map (e1 a.fE)) a.j (.bD a.fE))) lR;refine⟨_,?_,Ze.trans ?_,tx.xg rB,λs q=>j6 I⟩
       .refine⟨mj.e6,λt B au ag=>?_,λt a6 B bH au iL ag f7 e=>?_,λt B au=>?_⟩
        .rw[sH]at au;by_cases e:t=a.i
         .rw[e];exact mj.lt _ _ lR rfl
         .rw[cO e]at au;exact mj.lt t B au ag
        .have W3:∀t B,look (kO ((a.fE,fB.bF a.ak a.z [] true)::gh (e1 a.fE) (rem A a.fE)) a.i (.box ak z (.bS (j9 (g3.map (e1 a.fE)) a.j (.bD a.fE))))) t=some B->B.real=true->∃dP,look ((a.fE,fB.bF a.ak a.z [] true)::gh (e1 a.fE) (rem A a.fE)) t=some dP/\dP.real=true:=by
          intro t B au ag;rw[sH]at au;by_cases e:t=a.i
          .rw[e];exact⟨_,lR,rfl⟩
          simp_all
         have⟨p,ic,hF⟩:=W3 t B au ag;have⟨lO,Tb,Re⟩:=W3 a6 bH iL f7;exact mj.inj t a6 p lO ic Tb hF Re e
        .rw[sH]at au;by_cases e:t=a.i
         .rw[ev e,lR]at au;cases au;subst e;have⟨ax,aj,an,aM,bs,cp⟩:=mj.obj _ _ lR;refine⟨ax,aj,an,aM,by rw[FR];grind,tx.qo (cp.set λv ape=>xz v ?_)⟩;have:=cp.at ape;rw[aa1 (by rfl),aI]at this;exact this
         .rw[cO e]at au;exact tx.obj (mj.obj t B au) λ_=>rfl
       .refine⟨λ_ _ h _=>h,fI _,λ_ _ _ _=>rfl,λ_ _ h=>.inl h,λt B au ag=>.inr ?_⟩;rw[sH]at au;by_cases e:t=a.i
        .rw[ev e,lR]at au;cases au;exact⟨a.i,_,lR,rfl,by rw[e],λh=>by rw[e];exact h⟩
        grind
      grind
    have⟨jU,f1,f2,f3,f4⟩:=jT;have⟨mF,aj,an,aM,bs⟩:=Hl h f1 f3;exact⟨mF,aj,f2.trans an,aM,λs q=>(bs s q).trans (f4 s q)⟩
   grind
  .rename_i s ib aI;have ib:=dg.1 ib;split at h
   .exact Hl h a4 bY
   .rename_i ed;have ed:=tu ed;split at h
    .rename_i D8 yT;have⟨f1,f2⟩:=Zr (X:=X) D8 ed yT a4;have⟨mF,aj,an,aM,bs⟩:=Hl h f1 ((Sh ed yT).xg bY);exact⟨mF,aj,f2.trans an,aM,λs q=>(bs s q).trans (j6 I)⟩
    .cases h
    .rename_i fD D8 atg;have K:=fM.kill (X:=X) (d:=0) (S:=⟨[],E,A⟩) a4 a.fE (.inr (by simp_all));have yT:look (gh (e1 a.fE) (rem A a.fE)) a.fE=none:=by simp_all[nB,rU]
     have ah7:b0 U Z (gh (e1 a.fE) (rem A a.fE)) H:=K.ok;have aoG:fz X U Z A H U Z (gh (e1 a.fE) (rem A a.fE)) H:=K.iB;have ahr:gR U Z (gh (e1 a.fE) (rem A a.fE)) n (E.map (dF (e1 a.fE))) T:=K.ru n T bY;have aop:nW (gh (e1 a.fE) (rem A a.fE)) s=true:=by
      unfold nW at D8 ⊢;rw[nB,rU,cO ed];cases ar:look A s with
      |none=>simp_all
      |some B=>rw[ar]at D8;cases B with
       |box=>grind|bF=>rfl
     have⟨f1,f2⟩:=Zr (X:=X) aop ed yT ah7;have⟨mF,aj,an,aM,bs⟩:=Hl h f1 ((Sh ed yT).xg ahr);exact⟨mF,aj,(aoG.trans f2).trans an,aM,λs q=>(bs s q).trans (j6 I)⟩
  grind
def agh{C bB k}(h:norm (dH C) bB E A k)(a4:b0 U Z A H)(bY:gR U Z A n E T):∃fe bE bm b2,k fe bE/\b0 bm b2 bE H/\fz X U Z A H bm b2 bE H/\gR bm b2 bE n fe T/\∀s,1000<=s->b2 s=Z s:=by
 unfold norm at h;cases bB with
 |none=>exact⟨E,A,U,Z,h,a4,fz.refl _ _ _ _,bY,λ_ _=>rfl⟩|some bB=>have aU:=fM.fZ (X:=X) (d:=0) (S:=⟨[],forget E bB.dQ,A⟩) a4 bB.ci;have rB:=aU.ru _ _ bY.forget;have⟨r,D,F⟩:=kJ h;have⟨bE,aq,aL⟩:=kJ F;have⟨jU,aj,an,aM,bs⟩:=Hl (X:=X) D aU.ok rB;have⟨ic,hF⟩:=S3 (X:=X) (Lu aq) aj;refine⟨r.1,bE,_,jU,aL,ic,(aU.iB.trans an).trans hF,?_,λs q=>(bs s q).trans (aU.aN s I)⟩;have:=(IE (U:=h8 U Z A H bB.ci) (Z:=jU) (Lu aq)).xg aM;rwa[xH]at this
end
def V2:yy->Ev.X
 |.exit i=>.exit i|.ret=>.ret
section
variable{C:Nat->cE}{P:dK}{es:aO}{bo:kH}{aT:Nat}{jc:Nat->Option qq}
def Xs(C:Nat->cE)(et:aO)(es:aO)(f:Nat->cE->ca->bg->(ca->bg->Bool)->(Ev.X->ca->bg->Bool)->Bool)(E:bK)(A:bf)(ce:bK->bf->Prop)(bJ:yy->bK->bf->Prop):Prop:=
 ∀(U:ek)(Z:Nat->Nat)(H:bg)(T:ca),b0 U Z A H->gR U Z A es.length E T->
  ∃fe bE c6 az bm b2,b0 bm b2 bE az/\fz et U Z A H bm b2 bE az/\gR bm b2 bE es.length fe c6/\c6.ah=T.ah/\(∀s,1000<=s->b2 s=Z s)/\
   ((ce fe bE/\∃cS,∀n m,cS<=n->cS<=m->∀ce bJ,f n (C m) T H ce bJ=ce c6 az)\/
    ∃x,bJ x fe bE/\∃cS,∀n m,cS<=n->cS<=m->∀ce bJ,f n (C m) T H ce bJ=bJ (V2 x) c6 az)
def Vx(C:Nat->cE)(P:dK)(es:aO)(bo:kH)(aT:Nat):Prop:=∀(av:gT)(bb:aO)(pl:ES)(E:bK)(A:bf)(k:bK->bf->Prop),xS P bb av pl=true->MP (dH C) bo P es aT av bb pl E A k->
 HM C bo.dL es (Mg P es aT av bb pl).f ⟨[],E,A⟩ λS=>k S.E S.A
def Zs{f}{E:bK}{A}{ce:bK->bf->Prop}{bJ}(h:HM C bo.dL es f ⟨[],E,A⟩ λS=>ce S.E S.A):Xs C bo.dL es (λ_ call T H ce bJ=>f call [] T H ce λT v H=>bJ (.panic v) T H) E A ce bJ:=by intro U Z H T a4 bY;have⟨ei,c6,az,bm,b2,aj,⟨cS,an⟩,aM,bs,cp,dj,ip⟩:=h U Z H [] T a4 rfl bY;exact⟨ei.E,ei.A,c6,az,bm,b2,aM,bs,cp,dj,ip,.inl ⟨aj,cS,λn m _ hm ce bJ=>an m hm _ _⟩⟩
def ajH{c b}(h:pj (ey es [] ⟨[],E,A⟩ c)=some b)(bY:gR U Z A es.length E T):(eF es [] c).g [] T=.bool b:=by have:=lf (S:=⟨[],E,A⟩) (L:=[]) (ah:=[]) rfl bY c;rw[SG h]at this;simp_all[co,dE,bR]
def acy{f:Nat->cE->ca->bg->(ca->bg->Bool)->(Ev.X->ca->bg->Bool)->Bool}{body:(bK->bf->Prop)->bK->bf->Prop}{bJ:yy->bK->bf->Prop}(aB:∀(ba)(E)(A),body ba E A->∀(U)(Z)(H)(T),b0 U Z A H->gR U Z A es.length E T->∃fe bE c6 az bm b2,b0 bm b2 bE az/\fz bo.dL U Z A H bm b2 bE az/\gR bm b2 bE es.length fe c6/\c6.ah=T.ah/\(∀s,1000<=s->b2 s=Z s)/\((ba fe bE/\∃cS,∀n m,cS<=n->cS<=m->∀ce bJ,f n (C m) T H ce bJ=ce c6 az)\/∃x,bJ x fe bE/\∃cS,∀n m,cS<=n->cS<=m->∀ce bJ,f n (C m) T H ce bJ=bJ (V2 x) c6 az)):∀(j)(E)(A),eE body j E A->∀(U)(Z)(H)(T),b0 U Z A H->gR U Z A es.length E T->∃x fe bE c6 az bm b2,bJ x fe bE/\b0 bm b2 bE az/\fz bo.dL U Z A H bm b2 bE az/\gR bm b2 bE es.length fe c6/\c6.ah=T.ah/\(∀s,1000<=s->b2 s=Z s)/\∃cS,∀n m i,cS<=n->cS<=m->cS<=i->∀bJ,GD (λba T H=>f n (C m) T H ba bJ) i T H=bJ (V2 x) c6 az
 |0,E,A,h=>h.elim
 |j+1,E,A,h=>by
  intro U Z H T a4 bY;obtain⟨pF,oM,mO,cM,iP,jU,bk,bu,b1,cP,dO,⟨eb,cS,eY⟩|⟨x,eb,cS,eY⟩⟩:=aB _ E A h U Z H T a4 bY
  .have⟨x,mM,m3,uO,ie,ns,mF,mL,cD,dp,ga,fX,hO,l1,kd⟩:=acy aB j pF oM eb iP jU cM mO bk b1;refine⟨x,mM,m3,uO,ie,ns,mF,mL,cD,bu.trans dp,ga,fX.trans cP,λs q=>(hO s q).trans (dO s q),cS+l1+1,λn m i aD hm aN bJ=>?_⟩;obtain⟨i,rfl⟩:∃t9,i=t9+1:=⟨i - 1,I⟩;rw[aaZ,eY n m I I];exact kd n m i I I I bJ
  .refine⟨x,pF,oM,mO,cM,iP,jU,eb,bk,bu,b1,cP,dO,cS+1,λn m i aD hm aN bJ=>?_⟩;obtain⟨i,rfl⟩:∃t9,i=t9+1:=⟨i - 1,I⟩;rw[aaZ,eY n m I I]
def ahl(aS:Vx C P es bo aT):∀{c}{id}{E:bK}{A}{ce:bK->bf->Prop}{bJ:yy->bK->bf->Prop},rl (dH C) bo jc P es aT c id E A ce bJ->Xs C bo.dL es (lo P es aT c).f E A ce bJ:=by
 intro c;induction c with
 |skip=>intro id E A ce bJ h U Z H T a4 bY;exact⟨E,A,T,H,U,Z,a4,fz.refl _ _ _ _,bY,rfl,λ_ _=>rfl,.inl ⟨h,0,λn m _ _ ce bJ=>rfl⟩⟩
 |region i av d=>
  intro id E A ce bJ h;cases d with
  |false=>have:=Zs (bJ:=bJ) (acQ (C:=C) (P:=P) (es:=es) (bo:=bo) (aT:=aT) (av:=av) (k:=λS=>ce S.E S.A) h);unfold lo;simp_all
  |true=>
   unfold rl at h;split at h
   .rename_i bq;have:=Zs (bJ:=bJ) (aS _ _ _ _ _ _ bq h);unfold lo Jf;simp_all
   .exact h.elim
 |seq a b vI uX=>
  intro id E A ce bJ h U Z H T a4 bY;unfold lo;generalize lo P es aT a=xe at vI;generalize lo P es aT b=z9 at uX;have⟨xe⟩:=xe;have⟨z9⟩:=z9;obtain⟨pF,oM,mO,cM,iP,jU,bk,bu,b1,cP,dO,⟨eb,cS,eY⟩|⟨x,eb,cS,eY⟩⟩:=vI h U Z H T a4 bY
  .have⟨mM,m3,uO,ie,ns,mF,cD,dp,ga,fX,hO,kd⟩:=uX eb iP jU cM mO bk b1;refine⟨mM,m3,uO,ie,ns,mF,cD,bu.trans dp,ga,fX.trans cP,λs q=>(hO s q).trans (dO s q),?_⟩;rcases kd with⟨kd,l1,nE⟩|⟨x,kd,l1,nE⟩
   .refine .inl ⟨kd,cS+l1,λn m aD hm ce bJ=>?_⟩;grind
   .refine .inr ⟨x,kd,cS+l1,λn m aD hm ce bJ=>?_⟩;grind
  .exact⟨pF,oM,mO,cM,iP,jU,bk,bu,b1,cP,dO,.inr ⟨x,eb,cS,λn m aD hm ce bJ=>eY n m aD hm _ _⟩⟩
 |cond c a b vI uX=>
  intro id E A ce bJ h U Z H T a4 bY;unfold lo;have⟨v,D,F⟩:=kJ h;have aQ:=ajH D bY;generalize eF es [] c=g at aQ;generalize lo P es aT a=xe at vI;generalize lo P es aT b=z9 at uX;have⟨g⟩:=g;have⟨xe⟩:=xe;have⟨z9⟩:=z9;simp at aQ;have dv:∀(n:Nat)(call:cE)(ce:ca->bg->Bool)(bJ:Ev.X->ca->bg->Bool),(ni (g [] T) λv=>bd v (xe n call T H ce bJ) (z9 n call T H ce bJ))=if v then xe n call T H ce bJ else z9 n call T H ce bJ:=by intro n call ce bJ;rw[aQ];cases v<;>rfl
  replace F:=X8 F;cases v with
  |true=>
   replace F:rl (dH C) bo jc P es aT a 0 E A ce bJ:=by rcases F with⟨_,F⟩|⟨h,_⟩;exact F;cases h
   have⟨mM,m3,uO,ie,ns,mF,cD,dp,ga,fX,hO,kd⟩:=vI F U Z H T a4 bY;refine⟨mM,m3,uO,ie,ns,mF,cD,dp,ga,fX,hO,?_⟩;rcases kd with⟨kd,l1,nE⟩|⟨x,kd,l1,nE⟩
   .exact .inl ⟨kd,l1,λn m aD hm ce bJ=>(dv n (C m) ce bJ).trans (nE n m aD hm _ _)⟩
   .exact .inr ⟨x,kd,l1,λn m aD hm ce bJ=>(dv n (C m) ce bJ).trans (nE n m aD hm _ _)⟩
  |false=>
   replace F:rl (dH C) bo jc P es aT b 0 E A ce bJ:=by simp_all
   have⟨mM,m3,uO,ie,ns,mF,cD,dp,ga,fX,hO,kd⟩:=uX F U Z H T a4 bY;refine⟨mM,m3,uO,ie,ns,mF,cD,dp,ga,fX,hO,?_⟩;rcases kd with⟨kd,l1,nE⟩|⟨x,kd,l1,nE⟩
   .exact .inl ⟨kd,l1,λn m aD hm ce bJ=>(dv n (C m) ce bJ).trans (nE n m aD hm _ _)⟩
   .exact .inr ⟨x,kd,l1,λn m aD hm ce bJ=>(dv n (C m) ce bJ).trans (nE n m aD hm _ _)⟩
 |block i c bQ=>
  intro id E A ce bJ h U Z H T a4 bY;unfold lo;generalize lo P es aT c=f at bQ;have⟨f⟩:=f;obtain⟨pF,oM,mO,cM,iP,jU,bk,bu,b1,cP,dO,⟨eb,cS,eY⟩|⟨x,eb,cS,eY⟩⟩:=bQ h U Z H T a4 bY
  .exact⟨pF,oM,mO,cM,iP,jU,bk,bu,b1,cP,dO,.inl ⟨eb,cS,λn m aD hm ce bJ=>eY n m aD hm _ _⟩⟩
  .refine⟨pF,oM,mO,cM,iP,jU,bk,bu,b1,cP,dO,?_⟩;cases x with
   |ret=>refine .inr ⟨.ret,eb,cS,λn m aD hm ce bJ=>?_⟩;show f n (C m) T H ce _=_;rw[show f n (C m) T H ce _=_ from eY n m aD hm _ _];rfl
   |exit j=>
    simp at eb;cases q:Nat.beq j i with
    |true=>rw[q]at eb;refine .inl ⟨eb,cS,λn m aD hm ce bJ=>?_⟩;show f n (C m) T H ce _=_;rw[show f n (C m) T H ce _=_ from eY n m aD hm _ _];show bd (Nat.beq j i) _ _=_;rw[q];rfl|false=>rw[q]at eb;refine .inr ⟨.exit j,eb,cS,λn m aD hm ce bJ=>?_⟩;show f n (C m) T H ce _=_;rw[show f n (C m) T H ce _=_ from eY n m aD hm _ _];show bd (Nat.beq j i) _ _=_;rw[q];rfl
 |loop c bQ=>intro id E A ce bJ h U Z H T a4 bY;unfold lo;generalize lo P es aT c=f at bQ;have⟨f⟩:=f;have⟨j,h⟩:=h;have⟨x,mM,m3,uO,ie,ns,mF,mL,cD,dp,ga,fX,hO,cS,kd⟩:=acy (C:=C) (es:=es) (bo:=bo) (f:=f) (bJ:=bJ) (λba E A aB U Z H T a4 bY=>by have⟨pF,oM,iP,jU,en,gI,l3,tz,KN⟩:=agh (X:=bo.dL) aB a4 bY;have⟨mM,m3,uO,ie,ns,mF,d1,d2,d3,d4,d5,d6⟩:=bQ en iP jU H T gI tz;exact⟨mM,m3,uO,ie,ns,mF,d1,l3.trans d2,d3,d4,λs q=>(d5 s q).trans (KN s q),d6⟩) j E A h U Z H T a4 bY;exact⟨mM,m3,uO,ie,ns,mF,cD,dp,ga,fX,hO,.inr ⟨x,mL,cS,λn m aD hm ce bJ=>kd n m n aD hm aD bJ⟩⟩
 |exit i=>intro id E A ce bJ h U Z H T a4 bY;exact⟨E,A,T,H,U,Z,a4,fz.refl _ _ _ _,bY,rfl,λ_ _=>rfl,.inr ⟨.exit i,h,0,λn m _ _ ce bJ=>rfl⟩⟩|ret=>intro id E A ce bJ h U Z H T a4 bY;exact⟨E,A,T,H,U,Z,a4,fz.refl _ _ _ _,bY,rfl,λ_ _=>rfl,.inr ⟨.ret,h,0,λn m _ _ ce bJ=>rfl⟩⟩|_=>intro id E A ce bJ h;exact h.elim
end
def alQ:∀l,l.length<=16->∃T,∀k,Dd l k=k T
 |[],_=>⟨_,λk=>rfl⟩|[_],_=>⟨_,λk=>rfl⟩|[_,_],_=>⟨_,λk=>rfl⟩|[_,_,_],_=>⟨_,λk=>rfl⟩|[_,_,_,_],_=>⟨_,λk=>rfl⟩|[_,_,_,_,_],_=>⟨_,λk=>rfl⟩|[_,_,_,_,_,_],_=>⟨_,λk=>rfl⟩|[_,_,_,_,_,_,_],_=>⟨_,λk=>rfl⟩|[_,_,_,_,_,_,_,_],_=>⟨_,λk=>rfl⟩|[_,_,_,_,_,_,_,_,_],_=>⟨_,λk=>rfl⟩|[_,_,_,_,_,_,_,_,_,_],_=>⟨_,λk=>rfl⟩|[_,_,_,_,_,_,_,_,_,_,_],_=>⟨_,λk=>rfl⟩|[_,_,_,_,_,_,_,_,_,_,_,_],_=>⟨_,λk=>rfl⟩|[_,_,_,_,_,_,_,_,_,_,_,_,_],_=>⟨_,λk=>rfl⟩|[_,_,_,_,_,_,_,_,_,_,_,_,_,_],_=>⟨_,λk=>rfl⟩|[_,_,_,_,_,_,_,_,_,_,_,_,_,_,_],_=>⟨_,λk=>rfl⟩|[_,_,_,_,_,_,_,_,_,_,_,_,_,_,_,_],_=>⟨_,λk=>rfl⟩
 |_::_::_::_::_::_::_::_::_::_::_::_::_::_::_::_::_::_,h=>by simp_all
def aoS{l}(h:l.length<=16):∃T,(∀k,Dd l k=k T)/\T.ah=[]/\∀s,s<64->T.slot s=l.getD s .undef:=by
 have⟨T,hK⟩:=alQ l h;refine⟨T,hK,?_⟩;have:Dd l (λc6=>@decide (c6=T) (Classical.propDecidable _))=true:=by simp_all
 have⟨uO,D,F,aq⟩:=L2 this;simp_all
section
variable{C:Nat->cE}{P:dK}{es:aO}
def SY(a4:b0 U Z A H)(bY:gR U Z A es.length E T):∀{ax}{fx:bK},F5 P es ⟨[],E,A⟩ ax=some fx->∃l,(∀k,(uh P es ax).f T H k=k l)/\f9 U Z A fx l
 |[],fx,h=>by cases h;exact⟨[],λk=>rfl,rfl⟩
 |.tmp t::ax,fx,h=>by have⟨r,D,F⟩:=it h;cases F;have⟨l,aj,an⟩:=SY a4 bY D;have aI:=lf (S:=⟨[],E,A⟩) (L:=[]) (ah:=[]) rfl bY (.tmp t);exact⟨_,λk=>aj _,⟨_,_,rfl,aI,an⟩⟩
 |.cell a t::ax,fx,h=>by have⟨v,r,br,D,F⟩:=qW h;cases F;have⟨l,aj,an⟩:=SY a4 bY D;have aI:=lf (S:=⟨[],E,A⟩) (L:=[]) (ah:=[]) rfl bY (.tmp a);have⟨w,aM,bs⟩:=PN a4 br aI;exact⟨_,λk=>(aM _).trans (aj _),⟨_,_,rfl,bs,an⟩⟩
def To{S}:∀{ax}{fx:bK},F5 P es S ax=some fx->ax.length=fx.length
 |[],fx,h=>by cases h;rfl
 |.tmp t::ax,fx,h=>by have⟨r,aq,aL⟩:=it h;cases aL;simp[To aq]
 |.cell a t::ax,fx,h=>by have⟨v,r,_,aq,aL⟩:=qW h;cases aL;simp[To aq]
def ZA{aU}(a4:b0 U Z A H):∀{fx:bK}{bX:di}{l},g7 (oA (keeps A aU)) fx=some bX->f9 U Z A fx l->c5 (h8 U Z A H aU) bX l
 |[],bX,l,h,Y=>by simp[g7]at h;subst h;subst Y;exact .nil
 |e::fx,bX,l,h,Y=>by
  simp[g7]at h;obtain⟨v,aK,rfl,aj,an⟩:=Y;cases D:oA (keeps A aU) e with
  |none=>simp_all
  |some t=>
   rw[D]at h;cases F:g7 (oA (keeps A aU)) fx with
   |none=>simp_all
   |some r=>rw[F]at h;cases h;exact .cons (KQ a4 D aj) (ZA a4 F an)
def Zz{X}{ax}{iu}{E:bK}{A}{k}(h:finish (dH C) P es ax iu E A k){U}{Z}{H}{T}(a4:b0 U Z A H)(bY:gR U Z A es.length E T):∃r bE v bm,k r bE/\(∀m7,(xJ P es ax).f T H m7=m7 v)/\b0 bm Z bE H/\fz X U Z A H bm Z bE H/\bR bm r v:=by
 have⟨fx,D,h⟩:=kJ h;have⟨bX,F,h⟩:=kJ h;have⟨bE,aq,h⟩:=kJ h;have⟨l,aj,an⟩:=SY a4 bY D;have aM:=ZA a4 F an;have aU:=fM.fZ (X:=X) (d:=0) (S:=⟨[],[],A⟩) a4 (Ey A);have⟨ic,hF⟩:=S3 (X:=X) (Lu aq) aU.ok;have dv:∃v,(∀m7,(xJ P es ax).f T H m7=m7 v)/\bR (h8 U Z A H (Ey A)) (Pe bX) v:=by
  have Y:ax.length=fx.length:=To D;have jw:fx.length=bX.length:=(QX F).1;unfold xJ;generalize uh P es ax=q at aj;have⟨q⟩:=q;simp only at aj;cases bX with
  |nil=>have:ax=[]:=HY.1 (by rw[Y,jw];rfl);subst this;exact⟨.gy l,λm7=>aj _,⟨l,rfl,aM⟩⟩
  |cons t bX=>
   cases bX with
   |nil=>
    cases ax with
    |nil=>rw[<-Y]at jw;cases jw
    |cons r ax=>
     cases ax with
     |cons _ _=>rw[<-Y]at jw;simp at jw
     |nil=>obtain⟨v,aK,rfl,bC,aX⟩:=aM.inv;exact⟨v,λm7=>aj _,bC⟩
   |cons j5 bX=>
    refine⟨.gy l,λm7=>?_,⟨l,rfl,aM⟩⟩;grind
 have⟨v,cT,cN⟩:=dv;exact⟨_,bE,v,_,h,cT,ic,aU.iB.trans hF,cN⟩
def aeb:∀{args}{fV}{n i},f9 U Z A args fV->co U Z A (jv (args++List.replicate n (.J .undef)) i) (fV.getD i .undef)
 |[],fV,n,i,h=>by
  have:jv (List.replicate n (a2.J .undef)) i=.J .undef:=by
   induction n generalizing i with
   |zero=>rfl
   |succ n bQ=>
    cases i with
    |zero=>rfl|succ i=>exact bQ (i:=i)
  simp_all[co,dE,bR]
 |e::args,fV,n,0,h=>by obtain⟨v,aK,rfl,aj,an⟩:=h;exact aj
 |e::args,fV,n,i+1,h=>by obtain⟨v,aK,rfl,aj,an⟩:=h;exact aeb (i:=i) an
def f9.len:∀{es}{l},f9 U Z A es l->l.length=es.length
 |[],_,h=>by simp_all[f9]
 |_::_,_,h=>by obtain⟨v,aK,rfl,_,h⟩:=h;simp[h.len]
def Zc{α}:∀{l:List α}{n}{k},l.length=n->L9 l n k=k
 |[],0,_,_=>rfl
 |[],n+1,_,h=>by cases h
 |_::_,0,_,h=>by cases h
 |_::l,n+1,k,h=>Zc (l:=l) (n:=n) (k:=k) (by simp_all)
def afu{ap:Nat->kH}{jc}{je}{ext}{f}{args:bK}{A}{b8}(kV:∀m args H k,C (m+1) f args H k=(yI P je ext f).f m (C m) args H k)(M:ext f=none)(aS:∀fn,P.fn f=some fn->Vx C P (je f) (ap f) fn.ntmps)(h:Kv (dH C) ap jc P je f args A b8):bU C (ap f).dL f args A b8:=by
 intro U Z H fV a4 sJ;unfold Kv at h;cases a1:P.fn f with
 |none=>rw[a1]at h;exact h.elim
 |some fn=>
  rw[a1]at h;simp at h;cases aB:fn.body with
  |none=>rw[aB]at h;exact h.elim
  |some c=>
   rw[aB]at h;simp at h;split at h
   .rename_i q;simp only[ig,U9]at q;obtain⟨⟨⟨⟨⟨⟨⟨bC,aX⟩,b4⟩,dc⟩,eC⟩,oy⟩,yE⟩,UP⟩:=q;have bC:args.length=fn.params.size+fn.nfree:=dA.1 bC;have aX:=dT.1 aX;have b4:=dT.1 b4;have dc:=dT.1 dc;have z1:=sJ.len;have⟨T,t1,j5,rW⟩:=aoS (l:=fV) I;have bY:gR U Z A (je f).length (args++List.replicate ((je f).length - (fn.params.size+fn.nfree)) (.J .undef)) T:=
     ⟨dc,by simp_all,λi aN=>by rw[rW i I];exact aeb sJ⟩
    have YF:=ahl (aS fn a1) h U Z H T a4 bY;have gM:∀m k,C (m+1) f fV H k=(lo P (je f) fn.ntmps c).f m (C m) T H (λT H=>tM T ((xJ P (je f) fn.results.toList).f T H λv=>k (.val v) H)) (λx T H=>z3 x (λ_=>false) (tM T ((xJ P (je f) fn.results.toList).f T H λv=>k (.val v) H)) λv=>tM T (k (.nu v) H)):=by intro m k;rw[kV];unfold yI;rw[M];simp[a1,aB,yE,eC,oy];rw[Zc I,t1]
    have aN:∀s B,look A s=some B->1000<=s:=by
     intro s B Y;clear h YF bY a4 sJ;induction A with
     |nil=>cases Y
     |cons p l bQ=>
      have⟨a,bH⟩:=p;simp only[IW,ig]at UP;rw[iC]at Y;by_cases e:s=a
      all_goals simp_all
    obtain⟨pF,oM,mO,cM,iP,jU,bk,bu,b1,cP,dO,⟨eb,cS,eY⟩|⟨x,eb,cS,eY⟩⟩:=YF
    .have⟨r,bE,v,bm,cD,dp,ga,fX,hO⟩:=Zz (X:=(ap f).dL) eb bk b1;refine⟨r,bE,v,cM,bm,jU,cD,⟨cS+1,λm hm k=>?_⟩,ga,bu.trans fX,hO,λs B Y=>dO s (aN s B Y)⟩;obtain⟨m,rfl⟩:∃i7,m=i7+1:=⟨m - 1,I⟩;simp_all[YK]
    .cases x with
     |exit i=>exact eb.elim
     |ret=>have⟨r,bE,v,bm,cD,dp,ga,fX,hO⟩:=Zz (X:=(ap f).dL) eb bk b1;refine⟨r,bE,v,cM,bm,jU,cD,⟨cS+1,λm hm k=>?_⟩,ga,bu.trans fX,hO,λs B Y=>dO s (aN s B Y)⟩;obtain⟨m,rfl⟩:∃i7,m=i7+1:=⟨m - 1,I⟩;rw[gM,eY m m I I];show tM mO _=_;simp_all[YK]
   .exact h.elim
end
section
variable{U:ek}{Z:Nat->Nat}{A:bf}{H az:bg}{P:dK}
def nX.congr{B}(h:nX U Z A H s B)(bI:az.get (Z s)=H.get (Z s)):nX U Z A az s B:=by
 cases B with
 |box ak z aJ=>have⟨ax,aj,an⟩:=h;exact⟨ax,by simp_all,an⟩
 |bF ak z Q u=>exact λag=>by have⟨ax,aj,an⟩:=h ag;simp_all
def b0.congr(h : b0 U Z A H)(bI : ∀ a, az.get a = H.get a)(aD : az.next = H.next) : b0 U Z A az :=
  ⟨λa B aV => by rw [bI, aD]; exact h.e6 a B aV, λs B Y ag => by rw [aD]; exact h.lt s B Y ag, h.inj, λs B Y => (h.obj s B Y).congr (bI _)⟩
def fz.congr{X}{bm}{b2}{bE}{ie RW:bg}(h:fz X U Z A H bm b2 bE az)(bI:∀a,ie.get a=H.get a)(aD:ie.next=H.next)(Cl:∀a,RW.get a=az.get a)(l9:RW.next=az.next):fz X U Z A ie bm b2 bE RW:=
 ⟨h.le,by rw[aD,l9];exact h.next,λa aC ap M=>by rw[bI,Cl];exact h.same a I ap M,λa B aV=>by rw[aD];exact h.new a B aV,λs B Y ag=>by rw[aD];exact h.fE s B Y ag⟩
def ap9{a r aR}{t}(aI:v=.ptr a r aR z)(bI:az.get a=H.get a)(k):(js P t).f v az k=(js P t).f v H k:=by
 have dv:∀k,rowOf v az k=rowOf v H k:=λk=>by simp_all[rowOf,pC]
 unfold js;split
 .simp_all
 .simp_all
 .rfl
def agL{p w}{t}(h:wI P t A p=some w)(bq:co U Z A p v):∃a r aR z,v=.ptr a r aR z/\((∃s B,s∈ug p/\look A s=some B/\B.real/\Z s=a/\ug p=[s])\/∃a6 B,p=.J a6/\U a=some B/\mQ B=nz a6 / 4):=by
 have au0:∀a6,p=.J a6->vs a6=true->∃a r aR z,v=.ptr a r aR z/\((∃s B,s∈ug p/\look A s=some B/\B.real=true/\Z s=a/\ug p=[s])\/∃a6 B,p=.J a6/\U a=some B/\mQ B=nz a6 / 4):=by intro a6 e q;subst e;have aP:=H2 q;rw[aP]at bq;have⟨a,r,z,ax,n,ak,u,ee,aI,bI,ag,aQ,cA,jR,rZ⟩:=bq;exact⟨a,r,_,z,aI,.inr ⟨a6,_,rfl,bI,rZ.1⟩⟩
 have box:∀s aR ak z aJ,p=.bN s aR->look A s=some (.box ak z aJ)->∃a r aR z,v=.ptr a r aR z/\((∃s B,s∈ug p/\look A s=some B/\B.real=true/\Z s=a/\ug p=[s])\/∃a6 B,p=.J a6/\U a=some B/\mQ B=nz a6 / 4):=by intro s aR ak z aJ e Y;subst e;exact⟨_,_,_,_,bq _ _ _ Y,.inl ⟨s,_,by simp[ug],Y,rfl,rfl,rfl⟩⟩
 have bF:∀s r aR ak z Q u aJ,p=.fU s r aR->look A s=some (.bF ak z Q u)->Q[r]?=some aJ->∃a r aR z,v=.ptr a r aR z/\((∃s B,s∈ug p/\look A s=some B/\B.real=true/\Z s=a/\ug p=[s])\/∃a6 B,p=.J a6/\U a=some B/\mQ B=nz a6 / 4):=by
  intro s r aR ak z Q u aJ e Y ag;subst e;have be:=(oo.1 ag).1;have lP:(fB.bF ak z Q u).real=true:=by cases Q<;>first|(simp at be;done)|(cases u<;>rfl)
  exact⟨_,_,_,_,bq _ _ _ _ Y,.inl ⟨s,_,by simp[ug],Y,lP,rfl,rfl⟩⟩
 unfold wI at h;split at h
 all_goals grind
def Sj(a r s z):pw (.ptr a r s z) (.ptr a r s z):=by simp[pw]
def Rp(a i l c z)(u):pw (.slice a i l c u z) (.slice a i l c u z):=by simp[pw]
def t6{t}(h:DW t)(aI:bR U t v):pw v v/\qX v v:=by
 have dv:pw v v=true/\(∀n l,v≠.agg n l):=by
  cases t<;>simp only[DW]at h<;>try(cases h;done)
  .simp_all[bR,pw]
  .simp_all[bR,pw]
  .simp only[bR]at aI;obtain⟨n,rfl,_⟩:=aI;simp_all[pw]
  .simp_all[bR,pw]
  .simp only[bR]at aI;rcases aI with⟨_,rfl|⟨_,a,i,c,u,z,rfl⟩⟩|⟨a,i,c,u,z,ax,n,ak,fY,ee,rfl,_⟩
   .simp_all[pw]
   .simp_all[Rp]
   simp_all[Rp]
  .obtain⟨a,r,z,ax,n,ak,u,ee,rfl,_⟩:=aI;exact⟨Sj ..,nofun⟩
 refine⟨dv.1,?_⟩;cases v<;>first|exact absurd rfl (dv.2 _ _)|exact dv.1
def abR:∀{l}{aK},l.all DW->c5 U l aK->Bi aK aK
 |[],_,_,h=>by subst h;rfl
 |t::l,_,h,aI=>by simp only[IW,ig]at h;obtain⟨v,aK,rfl,aj,an⟩:=aI.inv;simp[Bi,(t6 h.1 aj).1,abR h.2 an]
def H1(h:HO A e)(aI:dE U Z A e v):pw v v/\qX v v:=by
 cases e<;>simp only[HO]at h<;>try(cases h;done)
 .exact t6 h aI
 .have aI:v=.nil .s:=aI;simp_all[pw,qX]
 .have⟨ak,z,aJ,e⟩:=F3 h;rw[aI _ _ _ e];simp_all[Sj,qX]
 .have⟨ak,z,Q,u,e⟩:=BD h;rcases N1 (aI _ _ _ _ e)with⟨_,F⟩|⟨c,F⟩
  .simp_all[pw,qX]
  simp_all[Rp,qX]
 .have⟨ak,z,Q,u,e⟩:=BD h;rw[aI _ _ _ _ e];simp_all[Sj,qX]
def abW:∀{l}{aK},l.all (HO A)->gc U Z A l aK->Bi aK aK
 |[],_,_,h=>by subst h;rfl
 |t::l,_,h,aI=>by simp only[IW,ig]at h;obtain⟨v,aK,rfl,aj,an⟩:=aI;simp[Bi,(H1 h.1 aj).1,abW h.2 an]
def anR(h:KT A e)(aI:co U Z A e v):qX v v:=by
 cases e with
 |J t=>
  cases t with
  |agg l=>obtain⟨aK,rfl,g⟩:=aI;simp[qX];exact abR h g
  |undef=>exact(t6 (U:=U) (t:=.undef) h aI).2|bool b=>exact(t6 (U:=U) (t:=.bool b) h aI).2|int c n=>exact(t6 (U:=U) (t:=.int c n) h aI).2|str x=>exact(t6 (U:=U) (t:=.str x) h aI).2|nil c=>exact(t6 (U:=U) (t:=.nil c) h aI).2|aH g r=>exact(t6 (U:=U) (t:=.aH g r) h aI).2|hy g r B=>exact(t6 (U:=U) (t:=.hy g r B) h aI).2|fn f x y=>exact(t6 (U:=U) (t:=.fn f x y) h aI).2|gy l=>exact(t6 (U:=U) (t:=.gy l) h aI).2|op g W=>exact(t6 (U:=U) (t:=.op g W) h aI).2
 |agg l=>obtain⟨aK,rfl,g⟩:=aI;simp[qX];exact abW h g
 |fn f x y=>cases h
 |i4=>cases h
 |bx=>exact(H1 (U:=U) (Z:=Z) (A:=A) (e:=.bx) h aI).2|bN s B=>exact(H1 (U:=U) (Z:=Z) (A:=A) (e:=.bN s B) h aI).2|bD s=>exact(H1 (U:=U) (Z:=Z) (A:=A) (e:=.bD s) h aI).2|fU s r B=>exact(H1 (U:=U) (Z:=Z) (A:=A) (e:=.fU s r B) h aI).2
end
end Go.Tx
