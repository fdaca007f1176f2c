/- A part. -/
import Derived.Test.YtkjmpcfikenlbaaGreatDoorT2
set_option linter.all false
namespace Go.Tx
open Go Go.Ev
section
variable{P:dK}{H:bg}{X:aO}
variable{a ak m n r z:Nat}{c:cx}{lg l4:bp}{ax:Ev.Rows}{u:Bool}
def aeg{t}(ap:fy P t=some (m+1))(bq:lg=.ptr a r 0 z)(bI:H.get a=.cells ax n z ak u false)(ag:r<n)(aQ:∀k,kD l4 (m+1) k=k c)(cA:m+1=z)(k):(px P t).f lg l4 H k=k (H.put a (.cells (ax.nl r c) n z ak u false)):=by unfold px;rw[ap];simp;rw[bq,CM,aQ,pC,bI];show bd false false (bd (Nat.blt r n) (bd (Nat.beq z z) (bd (Nat.beq (m+1) z) (bd (Nat.beq 0 0) (setRow ax r c λax=>qz H a (.cells ax n z ak u false) k) false) _) false) false)=_;rw[o9,zu ag,kN rfl,kN cA,kN rfl,iG,iG,iG,iG,Dr,s9]
def RZ{aR}{t}(ap:fy P t=some (m+1))(bq:lg=.ptr a r aR z)(bI:H.get a=.cells ax n z ak u false)(ag:r<n)(na:n<=ax.cap)(aQ:∀k,kD l4 (m+1) k=k c)(cA:m+1≠z)(jR:(ax.row r).length=z)(JV:aR+(m+1)<=z)(k):(px P t).f lg l4 H k=k (H.put a (.cells (ax.nl r ((ax.row r).take aR++(c++(ax.row r).drop (aR+(m+1))))) n z ak u false)):=by
 unfold px;rw[ap];simp;rw[bq,CM,aQ,pC,bI];show bd false false (bd (Nat.blt r n) (bd (Nat.beq z z) (bd (Nat.beq (m+1) z) _
  (Ev.rowAt ax r λaJ=>rn aJ aR λq=>o8 aJ (aR+(m+1)) λw=>nL c w λw=>nL q w λaJ=>setRow ax r aJ λax=>qz H a (.cells ax n z ak u false) k)) false) false)=_
 rw[o9,zu ag,kN rfl,u1 cA,iG,iG,o9,G5 _ _ I,zr _ _ _ I,wi _ _ _ I,q8,q8,Dr,s9]
end
section
variable{U:ek}{Z:Nat->Nat}{S:c8}{P:dK}{H:bg}{X:aO}
variable{a lg l4:bp}{p v:a2}{r:cx}{aJ:uq}{A bE:bf}{z:Nat}
def nG.length(h:nG U Z A z aJ r):r.length=z:=by
 cases aJ with
 |cb l=>exact h.2.length.trans h.1|bS l=>exact h.2.length.trans h.1
def agc(h:nG U Z A z aJ r):gc U Z A (F6 z aJ) r/\(F6 z aJ).length=z:=by
 cases aJ with
 |cb l=>have⟨D,F⟩:=h;subst D;simp only[F6,Oo];exact⟨F.qo,by simp⟩
 |bS l=>exact⟨h.2,h.1⟩
def ar3{n c}{U:ek}{t:b9}(h:HN t n=some c)(aI:bR U t l4):∃l,(∀k,kD l4 n k=k l)/\c5 U c l/\c.length=n:=by
 unfold HN at h;split at h
 .obtain⟨aX,rfl⟩:=hC h;refine⟨[l4],λk=>?_,.cons aI .nil,rfl⟩;unfold kD;rw[GY aX aI];rfl
 .obtain⟨aX,rfl⟩:=hC h;have⟨aP,aX⟩:=Ej aX;rw[aP]at aI;have⟨aK,a3,cW⟩:=aI;refine⟨aK,λk=>?_,cW,aX⟩;rw[a3,aX];exact AN _ _ _
def QQ:∀{l r}{fx:cx},zR l=some r->gc U Z A l fx->c5 U r fx/\r.length=l.length
 |[],r,fx,h,aI=>by cases h;exact⟨aI,rfl⟩
 |.J t::l,r,fx,h,aI=>by
  unfold zR at h;cases q:zR l with
  |none=>simp_all
  |some eH=>rw[q]at h;cases h;obtain⟨v,aK,rfl,D,F⟩:=aI;have⟨aq,aL⟩:=QQ q F;exact⟨.cons D aq,by grind⟩
 |.bx::l,r,fx,h,aI=>by
  unfold zR at h;cases q:zR l with
  |none=>simp_all
  |some eH=>rw[q]at h;cases h;obtain⟨v,aK,rfl,D,F⟩:=aI;have⟨aq,aL⟩:=QQ q F;have D:v=.nil .s:=D;exact⟨.cons (by simp only[bR];simp_all) aq,by grind⟩
 |.i4::_,_,_,h,_|.bN _ _::_,_,_,h,_|.bD _::_,_,_,h,_|.fU _ _ _::_,_,_,h,_|.fn _ _ _::_,_,_,h,_|.agg _::_,_,_,h,_=>by cases h
def amw(h:co U Z A v a):co U Z A (TI v) a:=by
 unfold TI;split
 .split
  .rename_i r q;obtain⟨aK,rfl,D⟩:=h;have⟨F,aq⟩:=QQ q D;simp_all[co.J,bR]
  grind
 grind
def apW(h:co U Z A v a):co U Z A (M4 p v) a:=by
 unfold M4;split
 .exact amw h
 grind
def ar1{t}(a4:b0 U Z S.A H)(h:BY P t S p v=some bE)(VW:yd X p=false)(bq:co U Z S.A p lg)(aI:co U Z S.A v l4):∃az,(∀k,(px P t).f lg l4 H k=k az)/\b0 U Z bE az/\fz X U Z S.A H U Z bE az/\Shape S.A bE:=by
 unfold BY at h;split at h
 .rename_i m ap;split at h
  .rename_i s aR;split at h
   .rename_i ak z aJ Y;have pz:hr X s (.box ak z aJ)=false:=VW;have⟨ax,aj,an,aM,bs⟩:=a4.obj s _ Y;have v4:=bq _ _ _ Y;have G1:∀(gj:uq)(c:cx),(∀k,kD l4 (m+1) k=k c)->aR=0->m+1=z->(nG U Z (kO S.A s (.box ak z gj)) z gj c)->bE=kO S.A s (.box ak z gj)->
     ∃az,(∀k,(px P t).f lg l4 H k=k az)/\b0 U Z bE az/\fz X U Z S.A H U Z bE az/\Shape S.A bE:=by
     intro gj c aQ aV cA ag e
     subst e
     subst aV
     refine⟨_,λk=>aeg ap v4 aj I aQ cA k,a4.v9 Y rfl rfl (Bg Y) ⟨_,bg.IZ gp,?_,aM,?_⟩,fz.v9 Y rfl pz,Bg Y⟩
     .simp_all[Rows.vr]
     .rw[Rows.DJ _ _ _ _ I I];grind
    cases q:(Nat.beq aR 0&&Nat.beq (m+1) z)with
    |true=>
     rw[q]at h;simp only[ig]at q;have aV:=dA.1 q.1;have cA:=dA.1 q.2;simp at h;split at h
     .split at h
      .obtain⟨aX,rfl⟩:=hC h;refine G1 (.cb [_]) [l4] (λk=>?_) aV cA (show nG _ _ _ _ (.cb _) _ from⟨rfl,.cons aI .nil⟩) rfl;rw[cA];unfold kD;rw[GY aX aI];rfl
      .obtain⟨aX,rfl⟩:=hC h;have⟨aP,aX⟩:=Ej aX;rw[aP]at aI;have⟨aK,a3,cW⟩:=aI;refine G1 (.cb _) aK (λk=>?_) aV cA (show nG _ _ _ _ (.cb _) _ from⟨aX,cW⟩) rfl;rw[a3,cA,aX];exact AN _ _ _
     .have⟨c,D,h⟩:=it h;cases h;have⟨l,en,gI,l3⟩:=IM D aI;rw[cA.symm]at en l3;refine G1 (.bS c) l en aV cA (show nG _ _ _ _ (.bS _) _ from⟨?_,(Bg Y).qo gI⟩) rfl;rw[<-gI.length,l3,cA]
    |false=>
     rw[q]at h;cases aX:Nat.ble (aR+(m+1)) z<;>rw[aX]at h<;>try(cases h;done)
     have aX:=dT.1 aX;have⟨c,D,h⟩:=it h;cases h;have⟨l,en,gI,l3⟩:=IM D aI;have ed:m+1≠z:=by intro e;have:aR=0:=I;simp_all
     have⟨dC,b3⟩:=agc bs;have pi:=gI.length;refine⟨_,λk=>RZ ap v4 aj I an en ed bs.length aX k,a4.v9 Y rfl rfl (Bg Y) ⟨_,bg.IZ gp,?_,aM,?_⟩,fz.v9 Y rfl pz,Bg Y⟩
     .simp_all[Rows.vr]
     .rw[Rows.DJ _ _ _ _ I I];unfold LK;rw[show aR+c.length=aR+(m+1) by omega];refine⟨?_,(Bg Y).qo ((dC.take aR).append (gI.append (dC.drop _)))⟩;grind
   grind
  .rename_i s r aR;split at h
   .rename_i ak z Q u Y;split at h
    .rename_i a6 q;simp only[ig]at q;have aV:=dA.1 q.1.1;have cA:=dA.1 q.1.2;have be:=dg.1 q.2;subst aV;have lP:∀gw:g4,gw.length=Q.length->(fB.bF ak z gw u).real=true:=λgw e=>by
      cases gw with
      |nil=>grind
      |cons=>cases u<;>rfl
     have⟨ax,aj,an,aM,bs⟩:=a4.obj s _ Y (lP Q rfl);have v4:=bq _ _ _ _ Y;have G1:∀(gj:di)(c:cx),(∀k,kD l4 (m+1) k=k c)->gj.length=z->c5 U gj c->bE=kO S.A s (.bF ak z (Q.set r gj) u)->
      ∃az,(∀k,(px P t).f lg l4 H k=k az)/\b0 U Z bE az/\fz X U Z S.A H U Z bE az/\Shape S.A bE:=by
      intro gj c aQ D F e
      subst e
      have tx:=WI (gw:=Q.set r gj) Y (by simp)
      refine⟨_,λk=>aeg ap v4 aj be aQ cA k,a4.v9 Y (lP Q rfl) (lP _ (by simp)) tx (λ_=>⟨_,by rw[kg];exact bg.IZ gp,?_,aM,?_⟩),fz.v9 Y (lP Q rfl) rfl,tx⟩
      .simp_all[Rows.vr]
      .refine gY.of λj aJ bl=>?_;have xT:=(oo.1 bl).1;rw[kg]at xT;rw[pW,Rows.DJ _ _ _ _ I I];by_cases e:j=r
       .simp_all
       .rw[List.getElem?_set_ne (λh=>e h.symm)]at bl;rw[cO e];have:=bs.get j bl;simp_all
     split at h
     .obtain⟨aX,rfl⟩:=hC h;refine G1 [a6] [l4] (λk=>?_) rfl (.cons aI .nil) rfl;rw[cA];unfold kD;rw[GY aX aI];rfl
     .obtain⟨aX,rfl⟩:=hC h;have⟨aP,aX⟩:=Ej aX;rw[aP]at aI;have⟨aK,a3,cW⟩:=aI;refine G1 (pQ a6) aK (λk=>?_) aX cW rfl;rw[a3,cA,aX];exact AN _ _ _
    .cases aX:(Nat.blt r Q.length&&Nat.ble (aR+(m+1)) z&& !Nat.beq (m+1) z)<;>rw[aX]at h<;>try(cases h;done)
     rename_i a6 _;simp only[ig]at aX;have be:=dg.1 aX.1.1;have JV:=dT.1 aX.1.2;have ed:m+1≠z:=λe=>by simp_all
     have⟨c,D,h⟩:=it h;cases h;have ap6:bR U a6 l4:=co.J.mp aI;have⟨l,en,gI,l3⟩:=ar3 D ap6;have lP:∀gw:g4,gw.length=Q.length->(fB.bF ak z gw u).real=true:=λgw e=>by
      cases gw with
      |nil=>grind
      |cons=>cases u<;>rfl
     have⟨ax,aj,an,aM,bs⟩:=a4.obj s _ Y (lP Q rfl);have v4:=bq _ _ _ _ Y;have tx:=WI (gw:=Q.set r (Pp (fT Q r) aR c)) Y (by simp)
     have oh:=bs.get r (EX Q r be);rw[pW]at oh;obtain⟨kx,n1⟩:=oh
     have nv:(ax.row r).length=z:=n1.length.trans kx
     refine⟨_,λk=>RZ ap v4 aj be I en ed nv JV k,a4.v9 Y (lP Q rfl) (lP _ (by simp)) tx (λ_=>⟨_,by rw[kg];exact bg.IZ gp,?_,aM,?_⟩),fz.v9 Y (lP Q rfl) rfl,tx⟩
     .simp_all[Rows.vr]
     .refine gY.of λj aJ bl=>?_;have xT:=(oo.1 bl).1;rw[kg]at xT;rw[pW,Rows.DJ _ _ _ _ I I];by_cases e:j=r
      .subst e;rw[List.getElem?_set_self be]at bl;cases bl;rw[ev rfl];unfold Pp;rw[show aR+c.length=aR+(m+1) by omega];refine⟨?_,(n1.take aR).append (gI.append (n1.drop _))⟩;grind
      .rw[List.getElem?_set_ne (λh=>e h.symm)]at bl;rw[cO e];have:=bs.get j bl;simp_all
    grind
   grind
  grind
 grind
def arR{t}(a4:b0 U Z S.A H)(h:yS P t S p v=some bE)(VW:yd X p=false)(bq:co U Z S.A p lg)(aI:co U Z S.A v l4):∃az,(∀k,(px P t).f lg l4 H k=k az)/\b0 U Z bE az/\fz X U Z S.A H U Z bE az/\Shape S.A bE:=by
 exact ar1 a4 h VW bq (apW aI)
end
def HG:∀(A:bf)(aU:aO)(s:Nat),look (keeps A aU) s=match cn s aU with|true=>look A s|false=>none
 |[],aU,s=>by cases cn s aU<;>rfl
 |(a,B)::l,aU,s=>by
  simp[keeps];cases h:cn a aU with
  |true=>
   simp only;rw[iC,iC,HG l aU s];grind
  |false=>
   simp only;rw[iC,HG l aU s];grind
def vw:∀(A:bf)(aU:aO)(s:Nat),look (kh A aU) s=match cn s aU with|true=>none|false=>look A s
 |[],aU,s=>by grind[kh,look]
 |(a,B)::l,aU,s=>by
  simp[kh];cases h:cn a aU with
  |true=>
   simp only;rw[iC,vw l aU s];grind
  |false=>
   simp only;rw[iC,iC,vw l aU s];grind
def xv(Z:Nat->Nat)(A:bf)(aU:aO)(a:Nat):Prop:=∃s B,cn s aU=true/\look A s=some B/\B.real=true/\Z s=a
open Classical in
noncomputable def h8(U:ek)(Z:Nat->Nat)(A:bf)(H:bg)(aU:aO):ek:=λa=>if h:xv Z A aU a then some (Jh (JJ h.choose_spec.choose) (H.get a))else U a
section
variable{U:ek}{Z:Nat->Nat}{A:bf}{H:bg}{aU:aO}
def rk(a4:b0 U Z A H):U.le (h8 U Z A H aU):=by
 intro a B h;unfold h8;rw[dif_neg]
 .exact h
 .rintro⟨s,bH,D,F,aq,rfl⟩;rw[(a4.lt s bH F aq).2]at h;cases h
variable{B:fB}{s:Nat}
def xa(a4:b0 U Z A H)(D:cn s aU)(F:look A s=some B)(aq:B.real):h8 U Z A H aU (Z s)=some (Jh (JJ B) (H.get (Z s))):=by
 have h:xv Z A aU (Z s):=⟨s,B,D,F,aq,rfl⟩
 unfold h8;rw[dif_pos h]
 have g:=h.choose_spec.choose_spec
 have e:=a4.inj _ _ _ _ g.2.1 F g.2.2.1 aq g.2.2.2
 grind
def Em{a}(h:¬xv Z A aU a):h8 U Z A H aU a=U a:=by unfold h8;simp_all
def akY(g:nX U Z A H s B)(ag:B.real):H.get (Z s)=xU (Jh (JJ B) (H.get (Z s))):=by
 cases B with
 |box ak z aJ=>obtain⟨ax,aj,_⟩:=g;rw[aj];rfl
 |bF ak z Q u=>obtain⟨ax,aj,_⟩:=g ag;rw[aj];rfl
def MX(h:look (keeps A aU) s=some B):cn s aU/\look A s=some B:=by
 rw[HG]at h;grind
def Lm{n hY l bX fx}(bQ:∀e t v,h9 (keeps A aU) n e=some t->dE U Z A e v->bR hY t v)(h:g7 (h9 (keeps A aU) n) l=some bX)(aI:gc U Z A l fx):c5 hY bX fx:=by
 induction l generalizing bX fx with
 |nil=>simp[g7]at h;subst h;subst aI;exact .nil
 |cons e l Cq=>
  simp[g7]at h;cases D:h9 (keeps A aU) n e with
  |none=>simp_all
  |some t=>
   rw[D]at h;cases F:g7 (h9 (keeps A aU) n) l with
   |none=>simp_all
   |some nI=>rw[F]at h;cases h;obtain⟨v,aK,rfl,aj,an⟩:=aI;exact .cons (bQ _ _ _ D aj) (Cq F an)
def Jw(a4:b0 U Z A H):∀(n)(e)(t)(v),h9 (keeps A aU) n e=some t->dE U Z A e v->bR (h8 U Z A H aU) t v:=by
 intro n;induction n with
 |zero=>
  intro e t v h aI;cases e with
  |J a6=>simp[h9]at h;subst h;exact bR.mono (rk a4) _ _ aI|bx=>simp only[h9,Option.some.injEq]at h;subst h;simp_all[dE,bR]
  |bD s=>
   simp[h9]at h;split at h
   .rename_i ak z Q u Y;cases h;have⟨hm,Y⟩:=MX Y;have aI:=aI _ _ _ _ Y;cases ag:(fB.bF ak z Q u).real with
    |true=>
     have⟨ax,aj,an,aM,bs⟩:=a4.obj s _ Y ag;have a1:=xa a4 hm Y ag;rw[aj]at a1;rcases N1 aI with⟨D,F⟩|⟨c,F⟩
     .exact .inl ⟨D,.inl F⟩
     .refine .inr ⟨Z s,0,c,u,z,ax,Q.length,ak,u,false,F,a1,I,an,⟨?_,rfl⟩,gY.mono (rk a4) _ _ _ _ bs,by cases u<;>simp only[Bool.toNat_true,Bool.toNat_false]<;>omega,λcw=>?_⟩
      .grind[yH]
      .cases u with
       |false=>simp_all
       |true=>
        cases Q with
        |nil=>cases ag
        |cons r Q=>
         have:v=.slice (Z s) 0 (r::Q).length 0 true z:=aI;simp_all
    |false=>
     cases Q with
     |cons=>cases u<;>cases ag
     |nil=>cases u with
      |false=>cases ag
      |true=>simp only[bR];exact .inl ⟨trivial,.inl aI⟩
   grind
  |fU s r aR=>
   simp[h9]at h;split at h
   .rename_i ak z Q u Y;split at h
    .rename_i aJ jR;cases h;have⟨hm,Y⟩:=MX Y;have aI:=aI _ _ _ _ Y;have be:=(oo.1 jR).1;have ag:(fB.bF ak z Q u).real=true:=by cases Q<;>first|(simp at be;done)|(cases u<;>rfl)
     have⟨ax,aj,an,aM,bs⟩:=a4.obj s _ Y ag;have a1:=xa a4 hm Y ag;rw[aj]at a1;have⟨cp,dj⟩:=bs.get r jR;rw[pW]at dj;exact⟨Z s,r,z,ax,Q.length,ak,u,false,aI,a1,be,an,cp,dj.zW (rk a4),I,λ_=>rfl,λq=>I⟩
    grind
   grind
  |bN s aR=>simp[h9]at h|i4=>simp[h9]at h|agg l=>simp[h9]at h|fn f x y=>simp[h9]at h
 |succ n bQ=>
  intro e t v h aI;cases e with
  |J a6=>simp[h9]at h;subst h;exact bR.mono (rk a4) _ _ aI
  |bx=>exact bQ .bx t v (by cases n<;>exact h) aI
  |bD s=>exact bQ (.bD s) t v (by cases n<;>exact h) aI
  |fU s r aR=>exact bQ (.fU s r aR) t v (by cases n<;>exact h) aI
  |bN s aR=>
   simp[h9]at h;split at h
   .rename_i ak z l Y;cases h;have⟨hm,Y⟩:=MX Y;have aI:=aI _ _ _ Y;have⟨ax,aj,an,aM,bs⟩:=a4.obj s _ Y;have a1:=xa a4 hm Y rfl;rw[aj]at a1;exact⟨Z s,0,z,ax,1,ak,false,false,aI,a1,I,an,bs.1,bs.2.zW (rk a4),I,λ_=>rfl,λ_=>⟨rfl,rfl,rfl,aM⟩⟩
   .rename_i ak z l Y;split at h
    .rename_i bX DC;cases h;have⟨hm,Y⟩:=MX Y;have aI:=aI _ _ _ Y;have⟨ax,aj,an,aM,bs⟩:=a4.obj s _ Y;have a1:=xa a4 hm Y rfl;rw[aj]at a1;have cp:=Lm bQ DC bs.2;refine⟨Z s,0,z,ax,1,ak,false,false,aI,a1,I,an,?_,cp,I,λ_=>rfl,λ_=>⟨rfl,rfl,rfl,aM⟩⟩;rw[<-cp.length,bs.2.length,bs.1]
    grind
   grind
  |i4=>simp[h9]at h|agg l=>simp[h9]at h|fn f x y=>simp[h9]at h
def KQ{e t v}(a4:b0 U Z A H)(h:oA (keeps A aU) e=some t)(aI:co U Z A e v):bR (h8 U Z A H aU) t v:=by
 unfold oA at h;split at h
 .split at h
  .rename_i b5 cV D F;cases h;obtain⟨dw,cQ,rfl,aj,an⟩:=aI;exact⟨dw,cQ,rfl,Lm (Jw a4 3) D aj,Lm (Jw a4 3) F an⟩
  grind
 .split at h
  .rename_i aK bX DC;cases h;obtain⟨l,rfl,g⟩:=aI;have an:=Lm (Jw a4 3) DC g;exact⟨l,by rw[<-an.length,g.length],an⟩
  grind
 .rename_i D F;refine Jw a4 3 e t v h ?_;cases e with
  |agg l=>simp_all|fn f x y=>simp_all|_=>exact aI
def SI(a4:b0 U Z A H):jV (lZ (keeps A aU) aU) U Z A (h8 U Z A H aU) Z (gh (lZ (keeps A aU) aU) (kh A aU)):=by
 have ass:∀(e:a2)(v:bp),dE U Z A e v->dE (h8 U Z A H aU) Z (gh (lZ (keeps A aU) aU) (kh A aU)) (F4 (h9 (keeps A aU) 3 e)) v:=by
  intro e v aI;cases aY:h9 (keeps A aU) 3 e with
  |none=>simp[F4,dE,bR]|some t=>exact Jw a4 3 e t v aY aI
 have fR:∀t,cn t aU=false->look (gh (lZ (keeps A aU) aU) (kh A aU)) t=(look A t).map (g8 (lZ (keeps A aU) aU)):=λt au=>by simp_all[nB,vw]
 have VM:∀{t:Nat}{B:fB},look (keeps A aU) t=none->look (gh (lZ (keeps A aU) aU) (kh A aU)) t=some B->cn t aU=false/\look (gh (lZ (keeps A aU) aU) (kh A aU)) t=some B:=λ{t B} D F=>by
  refine⟨?_,F⟩;rw[nB,vw]at F;grind
 intro e v h;cases e with
 |J t=>exact bR.mono (rk a4) _ _ h|bx=>exact h|i4=>exact h
 |bN t aR=>
  simp[lZ];cases iw:look (keeps A aU) t with
  |some _=>simp_all
  |none=>
   intro ak z aJ Y;have⟨q,Y⟩:=VM iw Y;rw[fR t q]at Y;cases ar:look A t with
   |none=>simp_all
   |some B=>
    rw[ar]at Y;cases B with
    |box e8 cJ gj=>cases gj<;>(cases Y;exact h _ _ _ ar)
    |bF=>cases Y
 |bD t=>
  simp[lZ];cases iw:look (keeps A aU) t with
  |some _=>simp_all
  |none=>
   intro ak z Q u Y;have⟨q,Y⟩:=VM iw Y;rw[fR t q]at Y;cases ar:look A t with
   |none=>simp_all
   |some B=>
    rw[ar]at Y;cases B with
    |box e8 cJ gj=>cases gj<;>cases Y
    |bF=>cases Y;exact h _ _ _ _ ar
 |fU t r aR=>
  simp[lZ];cases iw:look (keeps A aU) t with
  |some _=>simp_all
  |none=>
   intro ak z Q u Y;have⟨q,Y⟩:=VM iw Y;rw[fR t q]at Y;cases ar:look A t with
   |none=>simp_all
   |some B=>
    rw[ar]at Y;cases B with
    |box e8 cJ gj=>cases gj<;>cases Y
    |bF=>cases Y;exact h _ _ _ _ ar
 |agg l=>exact h|fn f x y=>exact h
def b0.fZ(a4:b0 U Z A H):b0 (h8 U Z A H aU) Z (gh (lZ (keeps A aU) aU) (kh A aU)) H:=by
 have fR:∀t B,look (gh (lZ (keeps A aU) aU) (kh A aU)) t=some B->cn t aU=false/\∃bH,look A t=some bH/\B=g8 (lZ (keeps A aU) aU) bH:=λt B au=>by
  rw[nB,vw]at au;cases q:cn t aU with
  |true=>simp_all
  |false=>
   rw[q]at au;cases ar:look A t<;>simp_all
 refine⟨λa B aC=>?_,λt B au ag=>?_,λt a6 B bH au iL ag f7 e=>?_,λt B au=>?_⟩
 .by_cases a1:xv Z A aU a
  .obtain⟨s,bH,D,F,aq,rfl⟩:=a1;rw[xa a4 D F aq]at aC;cases aC;exact⟨akY (a4.obj _ _ F) aq,(a4.lt s bH F aq).1⟩
  .rw[Em a1]at aC;exact a4.e6 a B aC
 .obtain⟨q,bH,D,rfl⟩:=fR t B au;rw[mi]at ag;have:=a4.lt t bH D ag;refine⟨this.1,?_⟩;rw[Em]
  .simp_all
  .rintro⟨s,dP,aj,an,aM,bs⟩;have:=a4.inj s t dP bH an D aM ag bs;simp_all
 .obtain⟨_,cL,D,rfl⟩:=fR t B au;obtain⟨_,dP,F,rfl⟩:=fR a6 bH iL;rw[mi]at ag f7;exact a4.inj t a6 cL dP D F ag f7 e
 .obtain⟨_,bH,D,rfl⟩:=fR t B au;exact(a4.obj t bH D).iB (SI a4) (rk a4) rfl λ_=>rfl
def fz.fZ{X}(a4:b0 U Z A H):fz X U Z A H (h8 U Z A H aU) Z (gh (lZ (keeps A aU) aU) (kh A aU)) H:=by
 refine⟨λa B h _=>rk a4 a B h,fI _,λ_ _ _ _=>rfl,λa B aC=>?_,λt B au ag=>?_⟩
 .by_cases a1:xv Z A aU a
  .obtain⟨s,bH,D,F,aq,rfl⟩:=a1;grind
  simp_all[Em]
 .rw[nB,vw]at au;cases q:cn t aU with
  |true=>simp_all
  |false=>
   rw[q]at au;cases ar:look A t with
   |none=>simp_all
   |some bH=>rw[ar]at au;cases au;rw[mi]at ag;exact .inr ⟨t,bH,ar,ag,rfl,λh=>by rw[BP];exact h⟩
end
def xV(U:ek)(Z:Nat->Nat)(A:bf)(B:gW):fB->Prop
 |.box ak z aJ=>∃ax,B=.cells ax 1 z ak false false/\1<=ax.cap/\0<z/\nG U Z A z aJ (ax.row 0)|.bF ak z Q u=>∃ax,B=.cells ax Q.length z (FQ u ak) u false/\Q.length<=ax.cap/\0<z/\gY U z ax 0 Q
variable{ak s z:Nat}{Q:g4}{u:Bool}
theorem UV{U Z A H}:h8 U Z A H []=U:=by funext a;exact Em (by rintro⟨s,B,h,_⟩;cases h)
def PQ(n):∃ax,zJ n=some ax/\n<=ax.cap:=by
 have:∃ax,zJ n=some ax:=by unfold zJ;cases Nat.ble n 1<;>cases Nat.ble n 8<;>cases Nat.ble n 64<;>cases Nat.ble n 512<;>exact⟨_,rfl⟩
 have⟨ax,h⟩:=this;simp_all[Ou]
def WV{U}{z}{ax:Ev.Rows}{Q:g4}{l:p9}(aQ:Q.length<=ax.cap)(Y:l.length=Q.length)(h:∀(j:Nat)(aJ:di),Q[j]?=some aJ->aJ.length=z/\∃r,l[j]?=some r/\c5 U aJ r):gY U z (ax.jl l 0) 0 Q:=by refine gY.of λj aJ bl=>?_;have be:=(oo.1 bl).1;have⟨D,r,F,aq⟩:=h j aJ bl;refine⟨D,?_⟩;rw[pW,Rows.F9 _ _ _ _ I I,ev I];simp_all
def QX{α fH}{f:α->Option fH}:∀{l:List α}{m:List fH},g7 f l=some m->l.length=m.length/\∀(j:Nat)(b),m[j]?=some b->∃a,l[j]?=some a/\f a=some b
 |[],m,h=>by simp_all[g7]
 |a::l,m,h=>by
  simp[g7]at h;cases D:f a with
  |none=>simp_all
  |some b=>
   rw[D]at h;cases F:g7 f l with
   |none=>simp_all
   |some r=>
    rw[F]at h;cases h;have⟨aj,an⟩:=QX F;grind
section
variable{U:ek}{Z:Nat->Nat}{P:dK}{H:bg}{es:aO}{ah:dM}{S:c8}{L:cx}{T:ca}{bo:kH}
def acJ{aU}(a4:b0 U Z S.A H):∀{c7}{l}{i}{Q:g4},tX U Z S.A L T c7 l->c7.map Prod.fst=List.range' i c7.length->g7 (λp=>cD (oA (keeps S.A aU) p.2) λt=>cD (nS S.A (.J t) s) (g7 (h9 S.A 0))) c7=some Q->∃(r:ZJ)(q:p9),BF s i l=some r/\(∀k,r.f L T k=k q)/\q.length=Q.length/\∀(j:Nat)(aJ:di),Q[j]?=some aJ->aJ.length=s/\∃c,q[j]?=some c/\c5 (h8 U Z S.A H aU) aJ c
 |[],l,i,Q,bq,aN,h=>by subst bq;simp[g7]at h;subst h;exact⟨_,[],rfl,λk=>rfl,rfl,λj aJ bl=>by grind⟩
 |(j,e)::c7,l,i,Q,bq,aN,h=>by
  obtain⟨g,aK,rfl,bI,bq⟩:=bq;injection aN with bl aN
  subst bl;simp[g7]at h;cases D:cD (oA (keeps S.A aU) e) λt=>cD (nS S.A (.J t) s) (g7 (h9 S.A 0))with
  |none=>simp_all
  |some aJ=>
   rw[D]at h;cases F:g7 (λp=>cD (oA (keeps S.A aU) p.2) λt=>cD (nS S.A (.J t) s) (g7 (h9 S.A 0))) c7 with
   |none=>simp_all
   |some gw=>
    rw[F]at h;cases h;have⟨t,aq,aL⟩:=it D;have⟨c,bO,cr⟩:=it aL;have au:=KQ a4 aq bI;have⟨ou,en,gI,l3⟩:=IM (U:=h8 U Z S.A H aU) (Z:=Z) bO (co.J.2 au);have dv:∀(c:bK)(aJ:di)(ou:cx),g7 (h9 S.A 0) c=some aJ->gc (h8 U Z S.A H aU) Z S.A c ou->(∀x∈c,∃t,x=.J t)->c5 (h8 U Z S.A H aU) aJ ou:=by
     intro c;induction c with
     |nil=>intro aJ ou h aQ _;simp[g7]at h;subst h;subst aQ;exact .nil
     |cons x c bQ=>
      intro aJ ou h aQ M;obtain⟨t,rfl⟩:=M x (by simp);simp[g7]at h;cases F:g7 (h9 S.A 0) c with
      |none=>rw[F]at h;cases h
      |some r=>rw[F]at h;cases h;obtain⟨v,aK,rfl,aj,an⟩:=aQ;exact .cons aj (bQ _ _ F an λy aE=>M y (by grind))
    have om:∀x∈c,∃t,x=.J t:=by
     generalize M:a2.J t=nF at bO;unfold nS at bO;grind
    have jR:=dv c aJ ou cr gI om;have⟨r,q,bC,aX,b4,dc⟩:=acJ a4 bq aN F;have⟨g⟩:=g;have⟨r⟩:=r;simp at aX;refine⟨⟨λL T k=>kD (g L T) s λc=>r L T λq=>k (c::q)⟩,ou::q,?_,λk=>?_,by grind,λj gj bl=>?_⟩
    .simp_all[BF]
    .simp_all
    .cases j with
     |zero=>simp at bl;subst bl;exact⟨by rw[<-jR.length,l3],ou,rfl,jR⟩
     |succ j=>grind
def V3{d}{op}{r}(a4:b0 U Z S.A H)(cB:f9 U Z S.A S.L L)(bY:gR U Z S.A es.length S.E T)(h:A6 bo P es ah d op S=some r):∃B gX,(∀k,(Bd P es ah op).f L T k=k B gX)/\((∃ak z aJ,r=(.bN d 0,some (.box ak z aJ))/\gX=(λa=>.ptr a 0 0 z)/\xV U Z S.A B (.box ak z aJ))\/(∃ak z Q,r=(.bD d,some (.bF ak z Q false))/\gX=(λa=>.slice a 0 Q.length Q.length false z)/\xV U Z S.A B (.bF ak z Q false))\/(∃ak z Q,r=(.J (.aH (2*ak) Q),none)/\gX=(λa=>.slice a 0 Q.length Q.length false z)/\xV (h8 U Z S.A H (nx es ah op S)) Z S.A B (.bF ak z Q false))):=by
 unfold A6 at h;unfold Bd;split at h
 .rename_i ak;split at h
  .rename_i z n cA ap;obtain⟨q,rfl⟩:=hC h;have eP:=dA.1 q;simp only[cA,ap,q];refine⟨_,_,λk=>rfl,.inl ⟨ak,n+1,_,rfl,rfl,.fC z,rfl,fI _,I,by simp_all,Ny z⟩⟩
  grind
 .rename_i ak x;have M:=lf (ah:=ah) cB bY x;split at h
  .rename_i n ap;simp[ap];generalize eF es ah x=g at M ⊢;have⟨g⟩:=g;have jT:∀(aJ:uq)(c:cx),(∀k,kD (g L T) (n+1) k=k c)->nG U Z S.A (n+1) aJ c->r=(.bN d 0,some (.box ak (n+1) aJ))->
    ∃B gX,(∀k:gW->(Nat->bp)->Bool,(kD (g L T) (n+1) λc=>k (Ee ak (n+1) c) λa=>.ptr a 0 0 (n+1))=k B gX)/\
    ((∃ak z aJ,r=(.bN d 0,some (.box ak z aJ))/\gX=(λa=>.ptr a 0 0 z)/\xV U Z S.A B (.box ak z aJ))\/
     (∃ak z Q,r=(.bD d,some (.bF ak z Q false))/\gX=(λa=>.slice a 0 Q.length Q.length false z)/\xV U Z S.A B (.bF ak z Q false))\/
     (∃e8 z Q,r=(.J (.aH (2*e8) Q),none)/\gX=(λa=>.slice a 0 Q.length Q.length false z)/\xV (h8 U Z S.A H (nx es ah (.box ak x) S)) Z S.A B (.bF e8 z Q false))):=by
    intro aJ c aQ ag e
    exact⟨Ee ak (n+1) c,_,λk=>by rw[aQ],.inl ⟨ak,n+1,aJ,e,rfl,.fC c,rfl,fI _,I,ag⟩⟩
   split at h
   .rename_i a6 au;rw[au]at M;split at h
    .obtain⟨q,rfl⟩:=hC h;exact jT (.cb [a6]) [g L T] (λk=>by unfold kD;rw[GY q M];rfl) (show nG _ _ _ _ (.cb _) _ from⟨rfl,.cons M .nil⟩) rfl
    .obtain⟨q,rfl⟩:=hC h;have⟨aP,q⟩:=Ej q;rw[aP]at M;simp at M;have⟨aK,a3,cW⟩:=M;revert jT;generalize bo.own d=B;intro jT;cases B with
     |true=>exact jT (.bS ((pQ a6).map .J)) aK (λk=>by rw[a3,q];exact AN _ _ _) (show nG _ _ _ _ (.bS _) _ from⟨by grind,cW.qo⟩) rfl
     |false=>exact jT (.cb (pQ a6)) aK (λk=>by rw[a3,q];exact AN _ _ _) (show nG _ _ _ _ (.cb _) _ from⟨q,cW⟩) rfl
   .have⟨c,D,h⟩:=it h;cases h;have⟨l,en,gI,l3⟩:=IM D M;exact jT (.bS c) l en (show nG _ _ _ _ (.bS _) _ from⟨by rw[<-gI.length,l3],gI⟩) rfl
  grind
 .rename_i t n c7;split at h
  .rename_i e hu;simp only[hu];split at h
   .rename_i s ap;cases q:(Nat.beq c7.toList.length n&&((rg es ah S c7.toList).map Prod.fst==List.range n)&&Nat.blt 0 n&&Nat.ble (n*(s+1)) 100000&&(p6 P e).isSome)with
    |false=>grind
    |true=>
     rw[q]at h;simp only[ig]at q;obtain⟨⟨⟨⟨bC,aX⟩,b4⟩,dc⟩,eC⟩:=q;have aq5:=dA.1 bC;have⟨Q,D,h⟩:=it h;have ii:(rg es ah S c7.toList).length=c7.toList.length:=by
      have:∀l:List (Nat×Operand),(rg es ah S l).length=l.length:=by
       intro l;induction l with
       |nil=>rfl|cons a l bQ=>simp_all[rg]
      simp_all
     have Oq:(rg es ah S c7.toList).map Prod.fst=List.range' 0 (rg es ah S c7.toList).length:=by simp_all[List.range_eq_range']
     have⟨adU,oy,en,gI,l3,tz⟩:=acJ (aU:=nx es ah (.buildSlice t n c7) S) a4 (P4 cB bY _) Oq D;have⟨ax,aP,a3⟩:=PQ n;have⟨adU⟩:=adU;have nv:Q.length=n:=by rw[<-(QX D).1,ii,aq5]
     have cW:(Nat.beq c7.toList.length n&&Nat.ble (n*(s+1)) 100000&&(p6 P e).isSome)=true:=by simp_all
     simp only[ap,aP,cW,en];have sU:xV (h8 U Z S.A H (nx es ah (.buildSlice t n c7) S)) Z S.A (.cells (ax.jl oy 0) n (s+1) e false false) (.bF e (s+1) Q false):=
      ⟨_,by rw[nv];rfl,by simp_all[Rows.ur],I,WV I l3 tz⟩
     simp at gI;refine⟨.cells (ax.jl oy 0) n (s+1) e false false,λa=>.slice a 0 n n false (s+1),λk=>?_,?_⟩
     .simp_all[tG]
     .split at h
      .split at h
       .rename_i C9;cases h;refine .inr (.inl ⟨e,s+1,Q,rfl,by rw[nv],?_⟩);simp_all[UV]
       grind
      grind
   grind
  grind
 .rename_i t l c;split at h
  .rename_i e hu;simp[hu];split at h
   .rename_i s z ap cA;cases q:(Nat.beq z.length (s+1)&&Nat.ble ((vO P e).getD 1001) 1000)with
    |false=>simp_all
    |true=>
     rw[q]at h;have⟨n,m,D,F,h⟩:=qW h;cases aX:(Nat.beq n m&&Nat.blt n 513)with
     |false=>simp_all
     |true=>
      rw[aX]at h;have⟨aJ,aq,h⟩:=it h;cases h;simp only[ig]at q aX;have l5:=dA.1 aX.1;subst l5;have aD:=dg.1 aX.2;cases aB:vO P e with
      |none=>simp_all
      |some b=>
       rw[aB]at q;have cW:(Nat.beq z.length (s+1)&&Nat.ble b 1000)=true:=by simp_all
       have Y:=ye D (lf (ah:=ah) cB bY l);have aQ:=ye F (lf (ah:=ah) cB bY c);simp only[ap,cA];generalize eF es ah l=hQ at Y ⊢;have⟨hQ⟩:=hQ;simp only[cW]at Y aQ ⊢;have⟨ax,g5,mm⟩:=PQ n;have jR:c5 U aJ z:=by
        have dv:∀(z:cx)(aJ:di),g7 (λv=>h9 S.A 0 (pA v)) z=some aJ->c5 U aJ z:=by
         intro z;induction z with
         |nil=>intro aJ h;simp[g7]at h;subst h;exact .nil
         |cons v z bQ=>
          intro aJ h;simp[g7]at h;cases aj:h9 S.A 0 (pA v)with
          |none=>simp_all
          |some t=>
           rw[aj]at h;cases an:g7 (λv=>h9 S.A 0 (pA v)) z with
           |none=>simp_all
           |some r=>
            rw[an]at h;cases h;refine .cons ?_ (bQ _ an);have aI:=Qx (U:=U) (Z:=Z) (A:=S.A) v;unfold pA at aj aI;split at aj
            .simp only[h9,Option.some.injEq]at aj;subst aj;simp only[bR];simp_all
            .split at aj
             .simp_all[h9,aas]
             grind[h9,bR]
        simp_all
       have ajq:=dA.1 q.1;refine⟨.cells (ax.jl (List.replicate n z) 0) n (s+1) e false false,_,λk=>?_,.inr (.inl ⟨e,s+1,List.replicate n aJ,rfl,by rw[AW],_,by rw[AW];rfl,by simp_all[Rows.ur],I,WV (by simp_all) (by simp) λj gj bl=>?_⟩)⟩
       .rw[Y,SO I aD,aQ,SO I aD,zA (fI n)];unfold yr;rw[g5];simp;rw[tG]
       .have⟨apS,ae3⟩:=oo.1 bl;rw[List.getElem_replicate]at ae3;subst ae3;rw[AW]at apS;exact⟨by rw[<-jR.length,ajq],z,by simp_all,jR⟩
   grind
  grind
 grind
end
def aeO(ax)(n):∃o6,(∀k,grow ax n k=k o6)/\n<=o6.cap/\ax.cap<=o6.cap/\∀i,i<ax.cap->o6.row i=ax.row i:=by
 have dv:∃o6,∀k,grow ax n k=k o6:=by
  cases ax with
  |fC r=>
   cases D:Nat.ble n 1<;>cases F:Nat.ble n 8<;>cases aq:Nat.ble n 64<;>cases aL:Nat.ble n 512<;>
    exact⟨_,λk=>by
     show bd (Nat.ble n 1) _ (bd (Nat.ble n 8) _ (bd (Nat.ble n 64) _ (bd (Nat.ble n 512) _ _)))=_
     rw[D,F,aq,aL];rfl⟩
  |dC t=>
   cases F:Nat.ble n 8<;>cases aq:Nat.ble n 64<;>cases aL:Nat.ble n 512<;>
    exact⟨_,λk=>by
     show bd (Nat.ble n 8) _ (bd (Nat.ble n 64) _ (bd (Nat.ble n 512) _ _))=_
     rw[F,aq,aL];rfl⟩
  |b3 t=>
   cases aq:Nat.ble n 64<;>cases aL:Nat.ble n 512<;>
    exact⟨_,λk=>by
     show bd (Nat.ble n 64) _ (bd (Nat.ble n 512) _ _)=_
     rw[aq,aL];rfl⟩
  |iQ t=>
   cases aL:Nat.ble n 512<;>
    exact⟨_,λk=>by
     show bd (Nat.ble n 512) _ _=_
     rw[aL];rfl⟩
  |nM g c=>
   cases aL:Nat.ble n c<;>
    exact⟨_,λk=>by
     show bd (Nat.ble n c) _ _=_
     rw[aL];rfl⟩
 have⟨o6,D⟩:=dv
 refine⟨o6,D,?_⟩
 classical
 have⟨yY,aj,an,aM,bs⟩:=aa7 (ax:=ax) (n:=n) (k:=λr=>decide (r=o6)) (by simp_all)
 simp_all
def abO:∀(m)(ax)(i),i+m<=ax.cap->∃l,(∀k,y4 ax m i k=k l)/\l.length=m/\∀j,j<m->l[j]?=some (ax.row (i+j))
 |0,ax,i,_=>⟨[],λk=>rfl,rfl,λj h=>I⟩
 |m+1,ax,i,h=>by
  have⟨l,aj,an,aM⟩:=abO m ax (i+1) I;refine⟨ax.row i::l,λk=>?_,by grind,λj bl=>?_⟩
  .rw[ap4,G5 _ _ I];simp_all
  grind
def qt(U:ek)(z:Nat)(Q:g4)(l:p9):Prop:=l.length=Q.length/\∀(j:Nat)(aJ:di),Q[j]?=some aJ->aJ.length=z/\∃c,l[j]?=some c/\c5 U aJ c
section
variable{U:ek}{Z:Nat->Nat}{H:bg}{X:aO}{S:c8}{L:cx}{T:ca}
def ac5{A:bf}{z i n:Nat}{ax}{Q}(h:gY U z ax i Q)(aQ:i+Q.length<=ax.cap):∃l,(∀k,y4 ax Q.length i k=k l)/\qt U z Q l:=by have⟨l,aj,an,aM⟩:=abO Q.length ax i aQ;refine⟨l,aj,an,λj aJ bl=>?_⟩;have⟨D,F⟩:=h.get j bl;grind
def acp{z}{e}{Q:g4}{v}(a4:b0 U Z S.A H)(h:EB S.A z e=some Q)(aI:co U Z S.A e v):∃l,(∀k,ta z v H k=k Q.length l)/\qt U z Q l:=by
 have none:∀k,ta z (.nil .s) H k=k 0 []:=λk=>by simp_all[ta]
 have empty:∀a i c u cJ k,ta z (.slice a i 0 c u cJ) H k=k 0 []:=λa i c u cJ k=>by unfold ta;simp_all
 have afm:∀(a i c:Nat)(u:Bool)(ax:Ev.Rows)(n ak:Nat)(fY ee:Bool),H.get a=.cells ax n z ak fY ee->i+Q.length<=n->n<=ax.cap->Q≠[]->Q.length<=2147483647->gY U z ax i Q->
  ∃l,(∀k,ta z (.slice a i Q.length c u z) H k=k Q.length l)/\qt U z Q l:=by
  intro a i c u ax n ak fY ee bI D F aq aL bO
  have⟨l,aj,an⟩:=ac5 (A:=S.A) (n:=0) bO I
  refine⟨l,λk=>?_,an⟩
  have ed:Nat.beq Q.length 0=false:=u1 λe=>aq (HY.1 e)
  unfold ta
  rw[IC,ed,o9,kN rfl,iG,pC,bI]
  show bd (Nat.ble (i+Q.length) n) (bd (Nat.beq z z) (bd (Nat.ble Q.length 2147483647) (y4 ax Q.length i λr=>k Q.length r) false) false) false=_
  simp_all[zA]
 have Ef:∀U,qt U z [] []:=λU=>⟨rfl,λj aJ bl=>by grind⟩;unfold EB at h;split at h
 .cases h;subst aI;exact⟨[],none,Ef _⟩
 .rename_i a6;obtain⟨q,rfl⟩:=hC h;simp only[ig]at q;rw[Fu q.1.1]at aI;have hle:=dT.1 q.2;by_cases ag:jJ a6=[]
  .rw[ag]at aI ⊢;rcases aI with⟨_,aI|⟨_,a,i,c,u,cJ,aI⟩⟩|⟨a,i,c,u,cJ,ax,n,ak,fY,ee,aI,_⟩
   .subst aI;exact⟨[],none,Ef _⟩
   .subst aI;exact⟨[],empty _ _ _ _ _,Ef _⟩
   .subst aI;exact⟨[],empty _ _ _ _ _,Ef _⟩
  .rcases aI with⟨aI,_⟩|⟨a,i,c,u,cJ,ax,n,ak,fY,ee,aI,an,aM,bs,dj,cp,ip⟩
   .simp_all
   .subst aI;have Lq:0<(jJ a6).length:=List.length_pos_iff.2 ag;have br:=EX _ 0 Lq;have cA:=(cp.get 0 br).1;have BB:(fT (jJ a6) 0).length=z:=by have:=ub.1 q.1.2 _ (Kg br);exact Cw this
    rw[BB]at cA;subst cA;exact afm a i c u ax n (FQ fY ak) fY ee (a4.e6 _ _ an).1 aM bs ag hle cp
 .rename_i s;split at h
  .rename_i ak cJ gw u Y;obtain⟨q,rfl⟩:=hC h;simp only[ig]at q;have cA:=dA.1 q.1;subst cA;have hle:=dT.1 q.2;have aI:=aI _ _ _ _ Y;by_cases ag:gw=[]
   .subst ag;cases u with
    |true=>rw[show v=.nil .s from aI];exact⟨[],none,Ef _⟩|false=>rw[show v=.slice (Z s) 0 0 0 false z from aI];exact⟨[],empty _ _ _ _ _,Ef _⟩
   .have lP:(fB.bF ak z gw u).real=true:=by
     cases gw with
     |nil=>simp_all
     |cons=>cases u<;>rfl
    have⟨ax,aj,an,aM,bs⟩:=a4.obj s _ Y lP;rcases N1 aI with⟨D,_⟩|⟨c,F⟩
    .simp_all
    .rw[F];exact afm _ 0 c u ax _ (FQ u ak) u false aj I an ag hle bs
  grind
 grind
end
def ek.jz(X:aO)(U hY:ek):Prop:=∀a B,U a=some B->cn (mQ B) X=false->hY a=some B
def sX{a b}(h:(a||b)=false):a=false/\b=false:=by simp_all
mutual
def bR.jz{X:aO}{U hY:ek}(h:U.jz X hY):∀(t:b9)(v:bp),cf X t=false->bR U t v->bR hY t v
 |.undef,_,_,g|.bool _,_,_,g|.int _ _,_,_,g|.str _,_,_,g|.nil _,_,_,g|.op _ _,_,_,g=>by simp only[bR]at g ⊢;try exact g
 |.aH e [],_,_,g=>by
  simp only[bR]at g ⊢;grind
 |.aH e (r::Q),_,M,g=>by
  have⟨fc,gv⟩:=sX M;rcases g with⟨g,_⟩|⟨a,i,c,u,z,ax,n,ak,fY,ee,aj,an,aM,bs,dj,cp,ip,ms⟩
  .cases g
  .exact .inr ⟨a,i,c,u,z,ax,n,ak,fY,ee,aj,h _ _ an (by subst ip;exact fc),aM,bs,dj,gY.jz h z ax i (r::Q) gv cp,ip,ms⟩
 |.hy e aJ aR,_,M,g=>by have⟨fc,gv⟩:=sX M;have⟨a,r,z,ax,n,ak,u,ee,aj,an,aM,bs,cp,dj,ip,ms⟩:=g;exact⟨a,r,z,ax,n,ak,u,ee,aj,h _ _ an (by subst ip;exact fc),aM,bs,cp,c5.jz h aJ _ gv dj,ip,ms⟩
 |.fn _ b5 cV,_,M,g=>by have⟨fc,gv⟩:=sX M;have⟨dw,cQ,aj,an,aM⟩:=g;exact⟨dw,cQ,aj,c5.jz h b5 _ fc an,c5.jz h cV _ gv aM⟩
 |.agg l,_,M,g=>by have⟨aK,aj,an⟩:=g;exact⟨aK,aj,c5.jz h l _ M an⟩
 |.gy l,_,M,g=>by have⟨aK,aj,an⟩:=g;exact⟨aK,aj,c5.jz h l _ M an⟩
def c5.jz{X:aO}{U hY:ek}(h:U.jz X hY):∀(t:di)(v:cx),eD X t=false->c5 U t v->c5 hY t v
 |[],_,_,g=>by simpa only[c5]using g
 |t::bX,_,M,g=>by have⟨fc,gv⟩:=sX M;have⟨v,aK,aj,an,aM⟩:=g;exact⟨v,aK,aj,bR.jz h t v fc an,c5.jz h bX aK gv aM⟩
def gY.jz{X:aO}{U hY:ek}(h:U.jz X hY):∀(z:Nat)(ax:Ev.Rows)(i:Nat)(Q:g4),h7 X Q=false->gY U z ax i Q->gY hY z ax i Q
 |_,_,_,[],_,g=>by simp[gY]
 |z,ax,i,r::Q,M,g=>by have⟨fc,gv⟩:=sX M;exact⟨g.1,c5.jz h r _ fc g.2.1,gY.jz h z ax (i+1) Q gv g.2.2⟩
end
def bR.bJ{X}{U hY}(h:U.jz X hY){t}{v}(g:bR U t v):bR hY (jo X t) v:=by
 unfold jo;cases q:cf X t with
 |true=>simp[bR]|false=>exact bR.jz h t v q g
def c5.bJ{X}{U hY}(h:U.jz X hY):∀{t}{v},c5 U t v->c5 hY (t.map (jo X)) v
 |[],_,g=>by simp_all[c5]
 |t::bX,_,g=>by obtain⟨v,aK,rfl,aj,an⟩:=g.inv;exact .cons (aj.bJ h) (c5.bJ h an)
def gY.bJ{X}{U hY}(h:U.jz X hY){z}{ax}:∀{i}{Q},gY U z ax i Q->gY hY z ax i (Q.map λr=>r.map (jo X))
 |_,[],g=>by simp[gY]
 |i,r::Q,g=>by simp[gY]at g ⊢;exact⟨g.1,g.2.1.bJ h,gY.bJ h g.2.2⟩
def w7(X):∀(A)(s),look (qB X A) s=(look A s).map (p4 X)
 |[],s=>rfl
 |(t,B)::l,s=>by
  simp[qB,look];cases Nat.beq t s
  .exact w7 X l s
  .rfl
def vV(X)(B):(p4 X B).real=B.real:=by
 cases B with
 |box ak z aJ=>cases aJ<;>rfl
 |bF ak z Q u=>cases Q<;>cases u<;>rfl
section
variable{X:aO}{U hY:ek}{Z:Nat->Nat}{A:bf}{H az:bg}
def aip{aJ}(h:look (qB X A) s=some (.box ak z aJ)):∃mf,look A s=some (.box ak z mf)/\p4 X (.box ak z mf)=.box ak z aJ:=by
 rw[w7]at h;cases ar:look A s with
 |none=>simp_all
 |some B=>
  rw[ar]at h;cases B with
  |box e8 cJ gj=>cases gj<;>(cases h;exact⟨_,rfl,rfl⟩)
  |bF=>cases h
def Zl(h:look (qB X A) s=some (.bF ak z Q u)):∃fk,look A s=some (.bF ak z fk u)/\Q=fk.map λr=>r.map (jo X):=by
 rw[w7]at h;cases ar:look A s with
 |none=>simp_all
 |some B=>
  rw[ar]at h;cases B with
  |box e8 cJ gj=>cases gj<;>cases h
  |bF=>cases h;simp_all
def alf{a v f}(h:yH a z Q u v):yH a z (Q.map f) u v:=QS (by simp) h
def U8(h:U.jz X hY):jV (i5 X) U Z A hY Z (qB X A):=by
 intro e v g;cases e with
 |J t=>exact bR.bJ h g|i4=>exact g|bx=>exact g|bN s aR=>intro ak z aJ Y;have⟨mf,D,_⟩:=aip Y;exact g _ _ _ D
 |bD s=>intro ak z Q u Y;obtain⟨fk,D,rfl⟩:=Zl Y;exact alf (g _ _ _ _ D)
 |fU s r aR=>intro ak z Q u Y;obtain⟨fk,D,rfl⟩:=Zl Y;exact g _ _ _ _ D
 |agg l=>exact g|fn f x y=>exact g
def nX.bJ{B b2 bE dx}(h:nX U Z A H s B)(a1:jV (i5 X) U Z A hY b2 bE)(hle:U.jz X hY)(aN:b2 dx=Z s)(bI:B.real->az.get (Z s)=H.get (Z s)):nX hY b2 bE az dx (p4 X B):=by
 cases B with
 |box ak z aJ=>
  have⟨ax,aj,an,aM,bs⟩:=h;rw[<-bI rfl,<-aN]at aj;cases aJ with
  |cb l=>exact⟨ax,aj,an,aM,by rw[ex];exact bs.1,bs.2.bJ hle⟩
  |bS l=>exact⟨ax,aj,an,aM,by rw[ex];exact bs.1,a1.eU bs.2⟩
 |bF ak z Q u=>intro ag;have ag:(p4 X (.bF ak z Q u)).real=true:=ag;rw[vV]at ag;have⟨ax,aj,an,aM,bs⟩:=h ag;rw[<-bI ag,<-aN]at aj;exact⟨ax,by simp_all,by simp_all,aM,bs.bJ hle⟩
def b0.bJ(a4:b0 U Z A H)(hle:U.jz X hY)(an2:∀a B,hY a=some B->az.get a=xU B/\a<az.next)(aD:H.next<=az.next)(bq:∀s B,look A s=some B->B.real->az.get (Z s)=H.get (Z s)/\hY (Z s)=none):b0 hY Z (qB X A) az:=by
 have fR:∀t B,look (qB X A) t=some B->∃bH,look A t=some bH/\B=p4 X bH:=λt B au=>by
  rw[w7]at au;cases ar:look A t<;>simp_all
 refine⟨an2,λt B au ag=>?_,λt a6 B bH au iL ag f7 e=>?_,λt B au=>?_⟩
 .obtain⟨bH,D,rfl⟩:=fR t B au;rw[vV]at ag;exact⟨pD (a4.lt t bH D ag).1 aD,(bq t bH D ag).2⟩
 .obtain⟨cL,D,rfl⟩:=fR t B au;obtain⟨dP,F,rfl⟩:=fR a6 bH iL;rw[vV]at ag f7;exact a4.inj t a6 cL dP D F ag f7 e
 .obtain⟨bH,D,rfl⟩:=fR t B au;exact(a4.obj t bH D).bJ (U8 hle) hle rfl λag=>(bq t bH D ag).1
end
mutual
def W6:∀t:b9,cf [] t=false
 |.undef|.bool _|.int _ _|.str _|.nil _|.op _ _=>by simp only[cf]
 |.aH _ []=>by simp[cf]
 |.aH _ (r::Q)=>by simp[cf,cn,ac6 (r::Q)]
 |.hy _ aJ _=>by simp[cf,cn,C6 aJ]
 |.fn _ b5 cV=>by simp[cf,C6 b5,C6 cV]
 |.agg l=>by simp[cf,C6 l]
 |.gy l=>by simp[cf,C6 l]
def C6:∀t:di,eD [] t=false
 |[]=>by simp[eD]
 |t::l=>by simp[eD,W6 t,C6 l]
def ac6:∀t:g4,h7 [] t=false
 |[]=>by simp[h7]
 |t::l=>by simp[h7,C6 t,ac6 l]
end
theorem RE:jo []=id:=by funext t;simp_all[jo,W6]
theorem acS:i5 []=id:=by funext e;cases e<;>simp only[i5,RE,id]
def ZR(B):p4 [] B=B:=by
 cases B with
 |box ak z aJ=>cases aJ<;>simp[p4,RE,acS]
 |bF ak z Q u=>simp[p4,RE]
def Zo:∀A,qB [] A=A
 |[]=>rfl
 |(s,B)::l=>by simp[qB,ZR,Zo l]
def agU(S:c8)(X):S.bJ X=⟨S.L.map (dF (i5 X)),S.E.map (dF (i5 X)),qB X S.A⟩:=by
 cases X with
 |nil=>rw[acS,Zo,show(dF id)=id from tZ sT];simp[c8.bJ]|cons=>rfl
end Go.Tx
