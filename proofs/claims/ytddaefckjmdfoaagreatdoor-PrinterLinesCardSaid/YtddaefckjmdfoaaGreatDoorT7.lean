/- Part of the proof of PrinterLines. -/
import Derived.Test.YtddaefckjmdfoaaGreatDoorT6
set_option linter.all false
namespace Go.Tx
open Go Go.Ev
def UE:zx->Ev.X
 |.exit i=>.exit i
 |.ret=>.ret
section
variable{C:Nat->cG}{P:dy}{es:aO}{bf:Hint}{aP:Nat}{jI:Nat->Option qY}
def ada(C:Nat->cG)(er:aO)(es:aO)(f:Nat->cG->b4->bd->(b4->bd->Bool)->(Ev.X->b4->bd->Bool)->Bool)(E:bG)(A:be)(b0:bG->be->Prop)(bz:zx->bG->be->Prop):Prop:=
 ∀(U:dO)(Z:Nat->Nat)(H:bd)(T:b4),bL U Z A H->gp U Z A es.length E T->
  ∃d9 bw cO aq bh bV,bL bh bV bw aq/\eQ er U Z A H bh bV bw aq/\gp bh bV bw es.length d9 cO/\cO.ae=T.ae/\(∀s,1000<=s->bV s=Z s)/\
   ((b0 d9 bw/\∃cy,∀n m,cy<=n->cy<=m->∀b0 bz,f n (C m) T H b0 bz=b0 cO aq)\/
    ∃x,bz x d9 bw/\∃cy,∀n m,cy<=n->cy<=m->∀b0 bz,f n (C m) T H b0 bz=bz (UE x) cO aq)
def Tn(C:Nat->cG)(P:dy)(es:aO)(bf:Hint)(aP:Nat):Prop:=∀(an:gu)(bg:aO)(pl:Ew)(E:bG)(A:be)(k:bG->be->Prop),xV P bg an pl=true->Iy (dq C) bf P es aP an bg pl E A k->
 Jd C bf.du es (Kz P es aP an bg pl).f ⟨[],E,A⟩ λS=>k S.E S.A
def aer{f}{E:bG}{A}{b0:bG->be->Prop}{bz}(h:Jd C bf.du es f ⟨[],E,A⟩ λS=>b0 S.E S.A):ada C bf.du es (λ_ call T H b0 bz=>f call [] T H b0 λT v H=>bz (.panic v) T H) E A b0 bz:=by intro U Z H T aW bR;have⟨dM,cO,aq,bh,bV,g1,⟨cy,g2⟩,g3,g4,g5,g6,gA⟩:=h U Z H [] T aW rfl bR;exact⟨dM.E,dM.A,cO,aq,bh,bV,g3,g4,g5,g6,gA,.inl ⟨g1,cy,λn m _ hm b0 bz=>g2 m hm _ _⟩⟩
def anP{E A c b U Z T}(h:nd (dN es [] ⟨[],E,A⟩ c)=some b)(bR:gp U Z A es.length E T):(db es [] c).g [] T=.bool b:=by have:=kD (S:=⟨[],E,A⟩) (L:=[]) (ae:=[]) rfl bR c;rw[RS h] at this;simpa only[cd,cN,bp] using this
def W2{f:Nat->cG->b4->bd->(b4->bd->Bool)->(Ev.X->b4->bd->Bool)->Bool}{body:(bG->be->Prop)->bG->be->Prop}{bz:zx->bG->be->Prop}(av:∀(ba)(E)(A),body ba E A->∀(U)(Z)(H)(T),bL U Z A H->gp U Z A es.length E T->∃d9 bw cO aq bh bV,bL bh bV bw aq/\eQ bf.du U Z A H bh bV bw aq/\gp bh bV bw es.length d9 cO/\cO.ae=T.ae/\(∀s,1000<=s->bV s=Z s)/\((ba d9 bw/\∃cy,∀n m,cy<=n->cy<=m->∀b0 bz,f n (C m) T H b0 bz=b0 cO aq)\/∃x,bz x d9 bw/\∃cy,∀n m,cy<=n->cy<=m->∀b0 bz,f n (C m) T H b0 bz=bz (UE x) cO aq)):∀(M)(E)(A),lQ body M E A->∀(U)(Z)(H)(T),bL U Z A H->gp U Z A es.length E T->∃x d9 bw cO aq bh bV,bz x d9 bw/\bL bh bV bw aq/\eQ bf.du U Z A H bh bV bw aq/\gp bh bV bw es.length d9 cO/\cO.ae=T.ae/\(∀s,1000<=s->bV s=Z s)/\∃cy,∀n m i,cy<=n->cy<=m->cy<=i->∀bz,EP (λba T H=>f n (C m) T H ba bz) i T H=bz (UE x) cO aq
 |0,E,A,h=>h.elim
 |M+1,E,A,h=>by
  intro U Z H T aW bR;obtain⟨pS,oC,mj,ct,iv,jz,bN,a2,a3,a4,a5,⟨dR,cy,en⟩|⟨x,dR,cy,en⟩⟩:=av _ E A h U Z H T aW bR
  .have⟨x,mQ,nl,sU,hM,nO,mx,n5,cw,c7,fu,fh,hC,ln,j9⟩:=W2 av M pS oC dR iv jz ct mj bN a3;refine⟨x,mQ,nl,sU,hM,nO,mx,n5,cw,a2.trans c7,fu,fh.trans a4,λs q=>(hC s q).trans (a5 s q),cy+ln+1,λn m i aB hm aH bz=>?_⟩;obtain⟨i,rfl⟩:∃tR,i=tR+1:=⟨i - 1,Y⟩;rw[Qe,en n m Y Y];exact j9 n m i Y Y Y bz
  .refine⟨x,pS,oC,mj,ct,iv,jz,dR,bN,a2,a3,a4,a5,cy+1,λn m i aB hm aH bz=>?_⟩;obtain⟨i,rfl⟩:∃tR,i=tR+1:=⟨i - 1,Y⟩;rw[Qe,en n m Y Y]
def ae9(bi:Tn C P es bf aP):∀{c}{id}{E:bG}{A}{b0:bG->be->Prop}{bz:zx->bG->be->Prop},pf (dq C) bf jI P es aP c id E A b0 bz->ada C bf.du es (iW P es aP c).f E A b0 bz:=by
 intro c;induction c with
 |skip=>intro id E A b0 bz h U Z H T aW bR;exact⟨E,A,T,H,U,Z,aW,eQ.refl _ _ _ _,bR,rfl,λ_ _=>rfl,.inl ⟨h,0,λn m _ _ b0 bz=>rfl⟩⟩
 |region i an d=>
  intro id E A b0 bz h;cases d with
  |false=>have:=aer (bz:=bz) (YR (C:=C) (P:=P) (es:=es) (bf:=bf) (aP:=aP) (an:=an) (k:=λS=>b0 S.E S.A) h);unfold iW;generalize uv P es aP an [] an.toList=q at this;have⟨q⟩:=q;exact this
  |true=>
   unfold pf at h;split at h
   .rename_i hp;have:=aer (bz:=bz) (bi _ _ _ _ _ _ hp h);unfold iW Eu;generalize Kz P es aP an.toList (iK [] an.toList) (CF P (iK [] an.toList) an.toList)=q at this;have⟨q⟩:=q;exact this
   .exact h.elim
 |seq a b rg rJ=>
  intro id E A b0 bz h U Z H T aW bR;unfold pf at h;unfold iW;have rg:=λ{id E A b0 bz} h=>rg (id:=id) (E:=E) (A:=A) (b0:=b0) (bz:=bz) h;have rJ:=λ{id E A b0 bz} h=>rJ (id:=id) (E:=E) (A:=A) (b0:=b0) (bz:=bz) h;generalize iW P es aP a=qh at rg;generalize iW P es aP b=s4 at rJ;have⟨qh⟩:=qh;have⟨s4⟩:=s4;obtain⟨pS,oC,mj,ct,iv,jz,bN,a2,a3,a4,a5,⟨dR,cy,en⟩|⟨x,dR,cy,en⟩⟩:=rg h U Z H T aW bR
  .have⟨mQ,nl,sU,hM,nO,mx,cw,c7,fu,fh,hC,j9⟩:=rJ dR iv jz ct mj bN a3;refine⟨mQ,nl,sU,hM,nO,mx,cw,a2.trans c7,fu,fh.trans a4,λs q=>(hC s q).trans (a5 s q),?_⟩;rcases j9 with⟨j9,ln,nL⟩|⟨x,j9,ln,nL⟩
   .refine .inl ⟨j9,cy+ln,λn m aB hm b0 bz=>?_⟩;show qh n (C m) T H (λT H=>s4 n (C m) T H b0 bz) bz=_;rw[show qh n (C m) T H _ bz=_ from en n m (by omega) (by omega) _ _];exact nL n m (by omega) (by omega) _ _
   .refine .inr ⟨x,j9,cy+ln,λn m aB hm b0 bz=>?_⟩;show qh n (C m) T H (λT H=>s4 n (C m) T H b0 bz) bz=_;rw[show qh n (C m) T H _ bz=_ from en n m (by omega) (by omega) _ _];exact nL n m (by omega) (by omega) _ _
  .exact⟨pS,oC,mj,ct,iv,jz,bN,a2,a3,a4,a5,.inr ⟨x,dR,cy,λn m aB hm b0 bz=>en n m aB hm _ _⟩⟩
 |cond c a b rg rJ=>
  intro id E A b0 bz h U Z H T aW bR;unfold pf at h;unfold iW;have⟨v,B,F⟩:=kk h;have aw:=anP B bR;have rg:=λ{id E A b0 bz} h=>rg (id:=id) (E:=E) (A:=A) (b0:=b0) (bz:=bz) h;have rJ:=λ{id E A b0 bz} h=>rJ (id:=id) (E:=E) (A:=A) (b0:=b0) (bz:=bz) h;generalize db es [] c=g at aw;generalize iW P es aP a=qh at rg;generalize iW P es aP b=s4 at rJ;have⟨g⟩:=g;have⟨qh⟩:=qh;have⟨s4⟩:=s4;simp only at aw;have dC:∀(n:Nat)(call:cG)(b0:b4->bd->Bool)(bz:Ev.X->b4->bd->Bool),(mi (g [] T) λv=>a7 v (qh n call T H b0 bz) (s4 n call T H b0 bz))=if v then qh n call T H b0 bz else s4 n call T H b0 bz:=by intro n call b0 bz;rw[aw];cases v<;>rfl
  replace F:=Xt F;cases v with
  |true=>
   replace F:pf (dq C) bf jI P es aP a 0 E A b0 bz:=by rcases F with⟨_,F⟩|⟨h,_⟩;exact F;cases h
   have⟨mQ,nl,sU,hM,nO,mx,cw,c7,fu,fh,hC,j9⟩:=rg F U Z H T aW bR;refine⟨mQ,nl,sU,hM,nO,mx,cw,c7,fu,fh,hC,?_⟩;rcases j9 with⟨j9,ln,nL⟩|⟨x,j9,ln,nL⟩
   .exact .inl ⟨j9,ln,λn m aB hm b0 bz=>(dC n (C m) b0 bz).trans (nL n m aB hm _ _)⟩
   .exact .inr ⟨x,j9,ln,λn m aB hm b0 bz=>(dC n (C m) b0 bz).trans (nL n m aB hm _ _)⟩
  |false=>
   replace F:pf (dq C) bf jI P es aP b 0 E A b0 bz:=by rcases F with⟨h,_⟩|⟨_,F⟩;cases h;exact F
   have⟨mQ,nl,sU,hM,nO,mx,cw,c7,fu,fh,hC,j9⟩:=rJ F U Z H T aW bR;refine⟨mQ,nl,sU,hM,nO,mx,cw,c7,fu,fh,hC,?_⟩;rcases j9 with⟨j9,ln,nL⟩|⟨x,j9,ln,nL⟩
   .exact .inl ⟨j9,ln,λn m aB hm b0 bz=>(dC n (C m) b0 bz).trans (nL n m aB hm _ _)⟩
   .exact .inr ⟨x,j9,ln,λn m aB hm b0 bz=>(dC n (C m) b0 bz).trans (nL n m aB hm _ _)⟩
 |block i c bB=>
  intro id E A b0 bz h U Z H T aW bR;unfold pf at h;unfold iW;have bB:=λ{id E A b0 bz} h=>bB (id:=id) (E:=E) (A:=A) (b0:=b0) (bz:=bz) h;generalize iW P es aP c=f at bB;have⟨f⟩:=f;obtain⟨pS,oC,mj,ct,iv,jz,bN,a2,a3,a4,a5,⟨dR,cy,en⟩|⟨x,dR,cy,en⟩⟩:=bB h U Z H T aW bR
  .exact⟨pS,oC,mj,ct,iv,jz,bN,a2,a3,a4,a5,.inl ⟨dR,cy,λn m aB hm b0 bz=>en n m aB hm _ _⟩⟩
  .refine⟨pS,oC,mj,ct,iv,jz,bN,a2,a3,a4,a5,?_⟩;cases x with
   |ret=>refine .inr ⟨.ret,dR,cy,λn m aB hm b0 bz=>?_⟩;show f n (C m) T H b0 _=_;rw[show f n (C m) T H b0 _=_ from en n m aB hm _ _];rfl
   |exit M=>
    simp only at dR;cases q:Nat.beq M i with
    |true=>rw[q] at dR;refine .inl ⟨dR,cy,λn m aB hm b0 bz=>?_⟩;show f n (C m) T H b0 _=_;rw[show f n (C m) T H b0 _=_ from en n m aB hm _ _];show a7 (Nat.beq M i) _ _=_;rw[q];rfl
    |false=>rw[q] at dR;refine .inr ⟨.exit M,dR,cy,λn m aB hm b0 bz=>?_⟩;show f n (C m) T H b0 _=_;rw[show f n (C m) T H b0 _=_ from en n m aB hm _ _];show a7 (Nat.beq M i) _ _=_;rw[q];rfl
 |loop c bB=>intro id E A b0 bz h U Z H T aW bR;unfold pf at h;unfold iW;have bB:=λ{id E A b0 bz} h=>bB (id:=id) (E:=E) (A:=A) (b0:=b0) (bz:=bz) h;generalize iW P es aP c=f at bB;have⟨f⟩:=f;have⟨M,h⟩:=h;have⟨x,mQ,nl,sU,hM,nO,mx,n5,cw,c7,fu,fh,hC,cy,j9⟩:=W2 (C:=C) (es:=es) (bf:=bf) (f:=f) (bz:=bz) (λba E A av U Z H T aW bR=>by have⟨pS,oC,iv,jz,dz,gg,mg,vL,apJ⟩:=aif (X:=bf.du) av aW bR;have⟨mQ,nl,sU,hM,nO,mx,d1,d2,d3,d4,d5,d6⟩:=bB dz iv jz H T gg vL;exact⟨mQ,nl,sU,hM,nO,mx,d1,mg.trans d2,d3,d4,λs q=>(d5 s q).trans (apJ s q),d6⟩) M E A h U Z H T aW bR;exact⟨mQ,nl,sU,hM,nO,mx,cw,c7,fu,fh,hC,.inr ⟨x,n5,cy,λn m aB hm b0 bz=>j9 n m n aB hm aB bz⟩⟩
 |exit i=>intro id E A b0 bz h U Z H T aW bR;exact⟨E,A,T,H,U,Z,aW,eQ.refl _ _ _ _,bR,rfl,λ_ _=>rfl,.inr ⟨.exit i,h,0,λn m _ _ b0 bz=>rfl⟩⟩
 |ret=>intro id E A b0 bz h U Z H T aW bR;exact⟨E,A,T,H,U,Z,aW,eQ.refl _ _ _ _,bR,rfl,λ_ _=>rfl,.inr ⟨.ret,h,0,λn m _ _ b0 bz=>rfl⟩⟩
 |_=>intro id E A b0 bz h;exact h.elim
end
def ank:∀l,l.length<=16->∃T,∀k,xY l k=k T
 |[],_=>⟨_,λk=>rfl⟩
 |[_],_=>⟨_,λk=>rfl⟩
 |[_,_],_=>⟨_,λk=>rfl⟩
 |[_,_,_],_=>⟨_,λk=>rfl⟩
 |[_,_,_,_],_=>⟨_,λk=>rfl⟩
 |[_,_,_,_,_],_=>⟨_,λk=>rfl⟩
 |[_,_,_,_,_,_],_=>⟨_,λk=>rfl⟩
 |[_,_,_,_,_,_,_],_=>⟨_,λk=>rfl⟩
 |[_,_,_,_,_,_,_,_],_=>⟨_,λk=>rfl⟩
 |[_,_,_,_,_,_,_,_,_],_=>⟨_,λk=>rfl⟩
 |[_,_,_,_,_,_,_,_,_,_],_=>⟨_,λk=>rfl⟩
 |[_,_,_,_,_,_,_,_,_,_,_],_=>⟨_,λk=>rfl⟩
 |[_,_,_,_,_,_,_,_,_,_,_,_],_=>⟨_,λk=>rfl⟩
 |[_,_,_,_,_,_,_,_,_,_,_,_,_],_=>⟨_,λk=>rfl⟩
 |[_,_,_,_,_,_,_,_,_,_,_,_,_,_],_=>⟨_,λk=>rfl⟩
 |[_,_,_,_,_,_,_,_,_,_,_,_,_,_,_],_=>⟨_,λk=>rfl⟩
 |[_,_,_,_,_,_,_,_,_,_,_,_,_,_,_,_],_=>⟨_,λk=>rfl⟩
 |_::_::_::_::_::_::_::_::_::_::_::_::_::_::_::_::_::_,h=>by simp only[nD] at h;omega
variable{aY:mE}{H:bd}{S:c5}{d i:Nat}{ae:dv}{e:a1}{k:a1->mE->Prop}{op:Op}{A:be}{v:bl}{U:dO}{Z:Nat->Nat}
def amU{l}(h:l.length<=16):∃T,(∀k,xY l k=k T)/\T.ae=[]/\∀s,s<64->T.slot s=l.getD s .undef:=by
 have⟨T,gY⟩:=ank l h;refine⟨T,gY,?_⟩;have:xY l (λcO=>@decide (cO=T) (Classical.propDecidable _))=true:=by rw[gY];exact @iX _ (Classical.propDecidable _) rfl
 have⟨sU,B,F,ah⟩:=ML this;have e:sU=T:=@pC _ (Classical.propDecidable _) B;subst e;exact⟨F,ah⟩
section
variable{C:Nat->cG}{P:dy}{es:aO}
def Ru{E T}(aW:bL U Z A H)(bR:gp U Z A es.length E T):∀{am}{fb:bG},wX P es ⟨[],E,A⟩ am=some fb->∃l,(∀k,(qI P es am).f T H k=k l)/\eW U Z A fb l
 |[],fb,h=>by cases h;exact⟨[],λk=>rfl,rfl⟩
 |.tmp t::am,fb,h=>by unfold wX at h;have⟨r,B,F⟩:=i9 h;cases F;have⟨l,g1,g2⟩:=Ru aW bR B;have au:=kD (S:=⟨[],E,A⟩) (L:=[]) (ae:=[]) rfl bR (.tmp t);unfold qI;have aw:ki es [] t=db es [] (.tmp t):=rfl;rw[aw];generalize db es [] (.tmp t)=g at au;generalize qI P es am=gC at g1;have⟨g⟩:=g;have⟨gC⟩:=gC;exact⟨_,λk=>g1 _,⟨_,_,rfl,au,g2⟩⟩
 |.cell a t::am,fb,h=>by unfold wX at h;have⟨v,r,cb,B,F⟩:=rU h;cases F;have⟨l,g1,g2⟩:=Ru aW bR B;have au:=kD (S:=⟨[],E,A⟩) (L:=[]) (ae:=[]) rfl bR (.tmp a);have⟨w,g3,g4⟩:=RD aW cb au;unfold qI;have aw:ki es [] a=db es [] (.tmp a):=rfl;rw[aw];generalize db es [] (.tmp a)=g at g3;generalize il P t=q at g3;generalize qI P es am=gC at g1;have⟨g⟩:=g;have⟨q⟩:=q;have⟨gC⟩:=gC;exact⟨_,λk=>(g3 _).trans (g1 _),⟨_,_,rfl,g4,g2⟩⟩
def PV:∀{am}{fb:bG},wX P es S am=some fb->am.length=fb.length
 |[],fb,h=>by cases h;rfl
 |.tmp t::am,fb,h=>by unfold wX at h;have⟨r,ah,aE⟩:=i9 h;cases aE;simp [PV ah]
 |.cell a t::am,fb,h=>by unfold wX at h;have⟨v,r,_,ah,aE⟩:=rU h;cases aE;simp [PV ah]
def We{aX}(aW:bL U Z A H):∀{fb:bG}{bX:di}{l},gD (pR (keeps A aX)) fb=some bX->eW U Z A fb l->cJ (hQ U Z A H aX) bX l
 |[],bX,l,h,K=>by simp only[gD,Option.some.injEq] at h;subst h;simp only[eW] at K;subst K;exact .nil
 |e::fb,bX,l,h,K=>by
  simp only[gD] at h;obtain⟨v,aM,rfl,g1,g2⟩:=K;cases B:pR (keeps A aX) e with
  |none=>rw[B] at h;cases h
  |some t=>
   rw[B] at h;simp only at h;cases F:gD (pR (keeps A aX)) fb with
   |none=>rw[F] at h;cases h
   |some r=>rw[F] at h;cases h;exact .cons (MY aW B g1) (We aW F g2)
def Wb{X}{am}{gI}{E:bG}{A}{k}(h:finish (dq C) P es am gI E A k){U}{Z}{H}{T}(aW:bL U Z A H)(bR:gp U Z A es.length E T):∃r bw v bh,k r bw/\(∀mA,(ti P es am).f T H mA=mA v)/\bL bh Z bw H/\eQ X U Z A H bh Z bw H/\bp bh r v:=by
 unfold finish at h;have⟨fb,B,h⟩:=kk h;have⟨bX,F,h⟩:=kk h;have⟨bw,ah,h⟩:=kk h;have⟨l,g1,g2⟩:=Ru aW bR B;have g3:=We aW F g2;have aX:=fx.ft (X:=X) (d:=0) (S:=⟨[],[],A⟩) aW (Eb A);have⟨eY,ex⟩:=Vg (X:=X) (Og ah) aX.ok;have fy:=g2;have dC:∃v,(∀mA,(ti P es am).f T H mA=mA v)/\bp (hQ U Z A H (Eb A)) (PM bX) v:=by
  have K:am.length=fb.length:=PV B;have gS:fb.length=bX.length:=(T6 F).1;unfold ti;generalize qI P es am=q at g1;have⟨q⟩:=q;simp only at g1;cases bX with
  |nil=>have:am=[]:=xH.1 (by rw[K,gS];rfl);subst this;exact⟨.eJ l,λmA=>g1 _,⟨l,rfl,g3⟩⟩
  |cons t bX=>
   cases bX with
   |nil=>
    cases am with
    |nil=>rw[<-K] at gS;cases gS
    |cons r am=>
     cases am with
     |cons _ _=>rw[<-K] at gS;simp at gS
     |nil=>obtain⟨v,aM,rfl,bq,aS⟩:=g3.inv;exact⟨v,λmA=>g1 _,bq⟩
   |cons kH bX=>
    refine⟨.eJ l,λmA=>?_,⟨l,rfl,g3⟩⟩;cases am with
    |nil=>rw[<-K] at gS;cases gS
    |cons r am=>
     cases am with
     |nil=>rw[<-K] at gS;simp at gS
     |cons cl am=>exact g1 _
 have⟨v,dr,c3⟩:=dC;exact⟨_,bw,v,_,h,dr,eY,aX.hZ.trans ex,c3⟩
def VH:∀{args}{eE}{n i},eW U Z A args eE->cd U Z A (i5 (args++List.replicate n (.J .undef)) i) (eE.getD i .undef)
 |[],eE,n,i,h=>by
  have:i5 (List.replicate n (a1.J .undef)) i=.J .undef:=by
   induction n generalizing i with
   |zero=>rfl
   |succ n bB=>
    cases i with
    |zero=>rfl
    |succ i=>exact bB (i:=i)
  rw[kv,this];simp only[cd,cN,bp]
 |e::args,eE,n,0,h=>by obtain⟨v,aM,rfl,g1,g2⟩:=h;exact g1
 |e::args,eE,n,i+1,h=>by obtain⟨v,aM,rfl,g1,g2⟩:=h;exact VH (i:=i) g2
def eW.len:∀{es}{l},eW U Z A es l->l.length=es.length
 |[],_,h=>by simp only[eW] at h;simp [h]
 |_::_,_,h=>by simp only[eW] at h;obtain⟨v,aM,rfl,_,h⟩:=h;simp [h.len]
def aba{α}:∀{l:List α}{n}{k},l.length=n->KC l n k=k
 |[],0,_,_=>rfl
 |[],n+1,_,h=>by cases h
 |_::_,0,_,h=>by cases h
 |_::l,n+1,k,h=>aba (l:=l) (n:=n) (k:=k) (by simpa using h)
def aov{ak:Nat->Hint}{jI}{iZ}{ext}{f}{args:bG}{A}{bZ}(sG:∀m args H k,C (m+1) f args H k=(xR P iZ ext f).f m (C m) args H k)(I:ext f=none)(bi:∀fn,P.fn f=some fn->Tn C P (iZ f) (ak f) fn.ntmps)(h:IH (dq C) ak jI P iZ f args A bZ):bj C (ak f).du f args A bZ:=by
 intro U Z H eE aW q2;unfold IH at h;cases aI:P.fn f with
 |none=>rw[aI] at h;exact h.elim
 |some fn=>
  rw[aI] at h;simp only at h;cases av:fn.body with
  |none=>rw[av] at h;exact h.elim
  |some c=>
   rw[av] at h;simp only at h;split at h
   .rename_i q;simp only[c6,AP] at q;obtain⟨⟨⟨⟨⟨⟨⟨bq,aS⟩,bU⟩,cU⟩,eI⟩,my⟩,xo⟩,Ga⟩:=q;have bq:args.length=fn.params.size+fn.nfree:=cF.1 bq;have aS:=dn.1 aS;have bU:=dn.1 bU;have cU:=dn.1 cU;have N1:=q2.len;have⟨T,t1,kH,rW⟩:=amU (l:=eE) Y;have bR:gp U Z A (iZ f).length (args++List.replicate ((iZ f).length - (fn.params.size+fn.nfree)) (.J .undef)) T:=
     ⟨cU,by simp only[gP,vW];omega,λi aH=>by rw[rW i Y];exact VH q2⟩
    have abC:=ae9 (bi fn aI) h U Z H T aW bR;have f5:∀m k,C (m+1) f eE H k=(iW P (iZ f) fn.ntmps c).f m (C m) T H (λT H=>s5 T ((ti P (iZ f) fn.results.toList).f T H λv=>k (.val v) H)) (λx T H=>A4 x (λ_=>false) (s5 T ((ti P (iZ f) fn.results.toList).f T H λv=>k (.val v) H)) λv=>s5 T (k (.nv v) H)):=by intro m k;rw[sG];unfold xR;rw[I];simp only[aI,av,xo,eI,my,sr];generalize iW P (iZ f) fn.ntmps c=hY;generalize ti P (iZ f) fn.results.toList=dx;have⟨hY⟩:=hY;have⟨dx⟩:=dx;show KC eE (fn.params.size+fn.nfree) (xY eE _)=_;rw[aba Y,t1]
    have aH:∀s D,look A s=some D->1000<=s:=by
     intro s D K;clear h abC bR aW q2;induction A with
     |nil=>cases K
     |cons N l bB=>
      have⟨a,bs⟩:=N;simp only[An,c6] at Ga;rw[hO] at K;by_cases e:s=a
      .rw[e];exact dn.1 Ga.1
      .rw[bA e] at K;exact bB Ga.2 K
    obtain⟨pS,oC,mj,ct,iv,jz,bN,a2,a3,a4,a5,⟨dR,cy,en⟩|⟨x,dR,cy,en⟩⟩:=abC
    .have⟨r,bw,v,bh,cw,c7,fu,fh,hC⟩:=Wb (X:=(ak f).du) dR bN a3;refine⟨r,bw,v,ct,bh,jz,cw,⟨cy+1,λm hm k=>?_⟩,fu,a2.trans fh,hC,λs D K=>a5 s (aH s D K)⟩;obtain⟨m,rfl⟩:∃iL,m=iL+1:=⟨m - 1,Y⟩;rw[f5,en m m Y Y,adn (by rw[a4,kH]),c7]
    .cases x with
     |exit i=>exact dR.elim
     |ret=>have⟨r,bw,v,bh,cw,c7,fu,fh,hC⟩:=Wb (X:=(ak f).du) dR bN a3;refine⟨r,bw,v,ct,bh,jz,cw,⟨cy+1,λm hm k=>?_⟩,fu,a2.trans fh,hC,λs D K=>a5 s (aH s D K)⟩;obtain⟨m,rfl⟩:∃iL,m=iL+1:=⟨m - 1,Y⟩;rw[f5,en m m Y Y];show s5 mj _=_;rw[adn (by rw[a4,kH]),c7]
   .exact h.elim
end
section
variable{U:dO}{Z:Nat->Nat}{A:be}{H aq:bd}{P:dy}
def ox.congr{s D}(h:ox U Z A H s D)(br:aq.get (Z s)=H.get (Z s)):ox U Z A aq s D:=by
 cases D with
 |box el z aF=>have⟨am,g1,g2⟩:=h;exact⟨am,by rw[br];exact g1,g2⟩
 |arr el z ab u=>exact λad=>by have⟨am,g1,g2⟩:=h ad;exact⟨am,by rw[br];exact g1,g2⟩
def bL.congr(h : bL U Z A H)(br : ∀ a, aq.get a = H.get a)(aB : aq.next = H.next) : bL U Z A aq :=
  ⟨λa D ay => by rw [br, aB]; exact h.gf a D ay, λs D K ad => by rw [aB]; exact h.lt s D K ad, h.inj, λs D K => (h.obj s D K).congr (br _)⟩
def eQ.congr{X}{bh}{bV}{bw}{hM Tz:bd}(h:eQ X U Z A H bh bV bw aq)(br:∀a,hM.get a=H.get a)(aB:hM.next=H.next)(CJ:∀a,Tz.get a=aq.get a)(Af:Tz.next=aq.next):eQ X U Z A hM bh bV bw Tz:=
 ⟨h.le,by rw[aB,Af];exact h.next,λa aD ak I=>by rw[br,CJ];exact h.same a Y ak I,λa D ay=>by rw[aB];exact h.new a D ay,λs D K ad=>by rw[aB];exact h.eO s D K ad⟩
def alL{a r aT z}{t}(au:v=.ptr a r aT z)(br:aq.get a=H.get a)(k):(il P t).f v aq k=(il P t).f v H k:=by
 have dC:∀k,rowOf v aq k=rowOf v H k:=λk=>by unfold rowOf;rw[au,Ar,Ar,pN,pN,br]
 unfold il;split
 .exact dC _
 .exact dC _
 .rfl
def ao5{N w}{t}(h:wP P t A N=some w)(hp:cd U Z A N v):∃a r aT z,v=.ptr a r aT z/\((∃s D,s∈rc N/\look A s=some D/\D.real/\Z s=a/\rc N=[s])\/∃a6 D,N=.J a6/\U a=some D/\l1 D=nJ a6 / 4):=by
 have aeL:∀a6,N=.J a6->se a6=true->∃a r aT z,v=.ptr a r aT z/\((∃s D,s∈rc N/\look A s=some D/\D.real=true/\Z s=a/\rc N=[s])\/∃a6 D,N=.J a6/\U a=some D/\l1 D=nJ a6 / 4):=by intro a6 e q;subst e;have aZ:=Kr q;rw[cd.J,aZ] at hp;simp only[bp] at hp;have⟨a,r,z,am,n,el,u,dK,au,br,ad,aw,bO,hq,JR⟩:=hp;exact⟨a,r,_,z,au,.inr ⟨a6,_,rfl,br,JR.1⟩⟩
 have box:∀s aT el z aF,N=.bH s aT->look A s=some (.box el z aF)->∃a r aT z,v=.ptr a r aT z/\((∃s D,s∈rc N/\look A s=some D/\D.real=true/\Z s=a/\rc N=[s])\/∃a6 D,N=.J a6/\U a=some D/\l1 D=nJ a6 / 4):=by intro s aT el z aF e K;subst e;exact⟨_,_,_,_,hp _ _ _ K,.inl ⟨s,_,by simp [rc],K,rfl,rfl,rfl⟩⟩
 have arr:∀s r aT el z ab u aF,N=.fF s r aT->look A s=some (.arr el z ab u)->ab[r]?=some aF->∃a r aT z,v=.ptr a r aT z/\((∃s D,s∈rc N/\look A s=some D/\D.real=true/\Z s=a/\rc N=[s])\/∃a6 D,N=.J a6/\U a=some D/\l1 D=nJ a6 / 4):=by
  intro s r aT el z ab u aF e K ad;subst e;have aV:=(jb.1 ad).1;have nT:(eS.arr el z ab u).real=true:=by cases ab<;>first|(simp at aV;done)|(cases u<;>rfl)
  exact⟨_,_,_,_,hp _ _ _ _ K,.inl ⟨s,_,by simp [rc],K,nT,rfl,rfl⟩⟩
 unfold wP at h;split at h
 .split at h
  .split at h
   .rename_i K;exact box _ _ _ _ _ rfl K
   .rename_i K;exact box _ _ _ _ _ rfl K
   .cases h
  .rename_i a6;cases q:se a6 with
   |false=>rw[q] at h;cases h
   |true=>exact aeL _ rfl q
  .split at h
   .rename_i K;split at h
    .rename_i ad;exact arr _ _ _ _ _ _ _ _ rfl K ad
    .cases h
   .cases h
  .cases h
 .split at h
  .split at h
   .rename_i K;exact box _ _ _ _ _ rfl K
   .rename_i K;exact box _ _ _ _ _ rfl K
   .cases h
  .rename_i a6;have⟨q,_⟩:=gJ h;simp only[c6] at q;exact aeL _ rfl q.1
  .split at h
   .rename_i K;split at h
    .rename_i ad;exact arr _ _ _ _ _ _ _ _ rfl K ad
    .cases h
   .cases h
  .cases h
 .cases h
def Jh(a r s z):oH (.ptr a r s z) (.ptr a r s z):=by simp [oH]
def N3(a i l c z)(u):oH (.slice a i l c u z) (.slice a i l c u z):=by simp [oH]
def uc{t}(h:DK t)(au:bp U t v):oH v v/\qW v v:=by
 have dC:oH v v=true/\(∀n l,v≠.agg n l):=by
  cases t<;>simp only[DK] at h<;>try(cases h;done)
  .simp only[bp] at au;subst au;exact⟨by simp [oH],nofun⟩
  .simp only[bp] at au;subst au;exact⟨by simp [oH],nofun⟩
  .simp only[bp] at au;obtain⟨n,rfl,_⟩:=au;exact⟨by simp [oH],nofun⟩
  .simp only[bp] at au;obtain⟨rfl,_⟩:=au;exact⟨by simp [oH],nofun⟩
  .simp only[bp] at au;rcases au with⟨_,rfl|⟨_,a,i,c,u,z,rfl⟩⟩|⟨a,i,c,u,z,am,n,el,fa,dK,rfl,_⟩
   .exact⟨by simp [oH],nofun⟩
   .exact⟨N3 ..,nofun⟩
   .exact⟨N3 ..,nofun⟩
  .simp only[bp] at au;obtain⟨a,r,z,am,n,el,u,dK,rfl,_⟩:=au;exact⟨Jh ..,nofun⟩
 refine⟨dC.1,?_⟩;cases v<;>first|exact absurd rfl (dC.2 _ _)|exact dC.1
def aeh:∀{l}{aM},l.all DK->cJ U l aM->Av aM aM
 |[],_,_,h=>by simp only[cJ] at h;subst h;rfl
 |t::l,_,h,au=>by simp only[An,c6] at h;obtain⟨v,aM,rfl,g1,g2⟩:=au.inv;simp only[Av,(uc h.1 g1).1,aeh h.2 g2]
def I9(h:Hp A e)(au:cN U Z A e v):oH v v/\qW v v:=by
 cases e<;>simp only[Hp] at h<;>try(cases h;done)
 .exact uc h au
 .have au:v=.nil .s:=au;subst au;exact⟨by simp [oH],by simp [qW,oH]⟩
 .have⟨el,z,aF,e⟩:=DT h;rw[au _ _ _ e];exact⟨Jh ..,by simp only[qW];exact Jh ..⟩
 .have⟨el,z,ab,u,e⟩:=B6 h;rcases NR (au _ _ _ _ e) with⟨_,F⟩|⟨c,F⟩
  .subst F;exact⟨by simp [oH],by simp [qW,oH]⟩
  .rw[F];exact⟨N3 ..,by simp only[qW];exact N3 ..⟩
 .have⟨el,z,ab,u,e⟩:=B6 h;rw[au _ _ _ _ e];exact⟨Jh ..,by simp only[qW];exact Jh ..⟩
def ac2:∀{l}{aM},l.all (Hp A)->fl U Z A l aM->Av aM aM
 |[],_,_,h=>by simp only[fl] at h;subst h;rfl
 |t::l,_,h,au=>by simp only[An,c6] at h;obtain⟨v,aM,rfl,g1,g2⟩:=au;simp only[Av,(I9 h.1 g1).1,ac2 h.2 g2]
def apm(h:GF A e)(au:cd U Z A e v):qW v v:=by
 cases e with
 |J t=>
  cases t with
  |agg l=>have au:bp U (.agg l) v:=au;simp only[bp] at au;obtain⟨aM,rfl,g⟩:=au;simp only[qW,fY rfl,qX];exact aeh h g
  |undef=>exact(uc (U:=U) (t:=.undef) h au).2
  |bool b=>exact(uc (U:=U) (t:=.bool b) h au).2
  |int c n=>exact(uc (U:=U) (t:=.int c n) h au).2
  |str x=>exact(uc (U:=U) (t:=.str x) h au).2
  |nil c=>exact(uc (U:=U) (t:=.nil c) h au).2
  |aQ g r=>exact(uc (U:=U) (t:=.aQ g r) h au).2
  |gc g r D=>exact(uc (U:=U) (t:=.gc g r D) h au).2
  |fn f x y=>exact(uc (U:=U) (t:=.fn f x y) h au).2
  |eJ l=>exact(uc (U:=U) (t:=.eJ l) h au).2
  |op g W=>exact(uc (U:=U) (t:=.op g W) h au).2
 |agg l=>obtain⟨aM,rfl,g⟩:=au;simp only[qW,fY rfl,qX];exact ac2 h g
 |fn f x y=>cases h
 |iy=>cases h
 |bT=>exact(I9 (U:=U) (Z:=Z) (A:=A) (e:=.bT) h au).2
 |bH s D=>exact(I9 (U:=U) (Z:=Z) (A:=A) (e:=.bH s D) h au).2
 |bQ s=>exact(I9 (U:=U) (Z:=Z) (A:=A) (e:=.bQ s) h au).2
 |fF s r D=>exact(I9 (U:=U) (Z:=Z) (A:=A) (e:=.fF s r D) h au).2
end
def qS{l}(hid:∀q∈l,∀eh∈l,q.id=eh.id->q=eh)(x):(∀q∈l,q.id=x->(g9 l H).get x=q.obj)/\((∀q∈l,q.id≠x)->(g9 l H).get x=H.get x):=
 OA eN l H (λ_ _=>eN) hid
section
variable{C:Nat->cG}{P:dy}{es:aO}{bf:Hint}{aP:Nat}
def agU(X:aO)(U:dO)(Z:Nat->Nat)(aY:mE)(H:bd)(bm:List jy)(r:jk):Prop:=
 ∃a,a<H.next/\(∀q∈bm,q.id≠a)/\(∀hM:bd,hM.get a=H.get a->∀k,r.tp.f r.N hM k=k r.v)/\qW r.v r.v=true/\
  ((∃D,U a=some D/\cr (l1 D) X=false)\/∃s D,(r.i,s)∈aY.iM/\look aY.S.A s=some D/\D.real=true/\Z s=a)
structure v4(X:aO)(es:aO)(U:dO)(Z:Nat->Nat)(aY:mE)(L:cv)(T:b4)(H:bd)(b6:List jk)(bm:List jy):Prop where
 ok:bL U Z aY.S.A (g9 bm H)
 sy:eW U Z aY.S.A aY.S.L L
 rq:gp U Z aY.S.A es.length aY.S.E T
 lV:∀q∈bm,q.id<H.next/\((∃d D,(q.i,d)∈aY.iV/\Z d=q.id/\look aY.S.A d=some D/\D.real=true)\/(q.i∈aY.dk/\∃D,U q.id=some D))
 tb:∀q∈bm,∀eh∈bm,q.id=eh.id->q=eh
 rd:∀r∈b6,agU X U Z aY H bm r
def Am(C:Nat->cG)(X:aO)(es:aO)(f:cG->cv->b4->bd->List jk->List jy->o6->(bl->bd->Bool)->Bool)(aY:mE)(k:a1->mE->Prop):Prop:=
 ∀(U:dO)(Z:Nat->Nat)(L:cv)(T:b4)(H:bd)(b6:List jk)(bm:List jy),v4 X es U Z aY L T H b6 bm->
  ∃e nA v bh bV aq gm fE,k e nA/\(∃cy,∀m,cy<=m->∀k aU,f (C m) L T H b6 bm k aU=k (v::L) aq gm fE)/\v4 X es bh bV nA L T aq gm fE/\cd bh bV nA.S.A e v/\
   eQ X U Z aY.S.A (g9 bm H) bh bV nA.S.A (g9 fE aq)/\∀s,1000<=s->bV s=Z s
def ahT{X}{U}{Z}{aY}{L}{T}{H}{b6}{bm}(h:v4 X es U Z aY L T H b6 bm){s a}{D}(ak:s∉sites aY.iV)(K:look aY.S.A s=some D)(ad:D.real)(aD:Z s=a):∀q∈bm,q.id≠a:=by
 intro q ax e;obtain⟨B,⟨d,bs,F,ah,aE,bt⟩|⟨F,bs,ah⟩⟩:=h.lV q ax
 .have:=h.ok.inj d s bs D aE K bt ad (ah.trans (e.trans aD.symm));subst this;exact ak (re.2 ⟨_,F,rfl⟩)
 .rw[e,<-aD,(h.ok.lt s D K ad).2] at ah;cases ah
def akJ{v x}{t}(h:uT (dq C) bf P es ae i v d (.load t x) aY k):Am C bf.du es (ph P es ae i v (.load t x)).f aY k:=by
 intro U Z L T H b6 bm bi;unfold uT at h;simp only at h;split at h
 .rename_i q;simp only[c6,qC,AP] at q;have⟨bq,aS⟩:=q;have bq:=Cr bq;have⟨w,B,F⟩:=kk h;have hp:=kD (ae:=ae) bi.sy bi.rq x;have⟨Nr,g1,g2⟩:=RD (P:=P) bi.ok B hp;have⟨a,r,aT,z,au,QR⟩:=ao5 B hp;have VO:∀q∈bm,q.id≠a:=by
   rcases QR with⟨s,D,aZ,aN,c9,hB,_⟩|⟨a6,D,aZ,aN,c9⟩
   .exact ahT bi (bq s aZ) aN c9 hB
   .intro q ax e;obtain⟨dl,⟨jx,bs,cB,dV,gO,l3⟩|⟨cB,_⟩⟩:=bi.lV q ax
    .rw[<-e,<-dV,(bi.ok.lt jx bs gO l3).2] at aN;cases aN
    .rcases aS with aS|aS
     .rw[aZ] at aS;cases aS
     .rw[xH.1 (zy aS)] at cB;cases cB
  have mc:H.get a=(g9 bm H).get a:=((qS bi.tb a).2 VO).symm;have aV:a<H.next:=by
   have:a<(g9 bm H).next:=by
    rcases QR with⟨s,D,aZ,aN,c9,hB,_⟩|⟨a6,D,aZ,aN,c9⟩
    .rw[<-hB];exact(bi.ok.lt s D aN c9).1
    .exact(bi.ok.gf a D aN).2
   rwa [oh] at this
  have qi:∀hM:bd,hM.get a=H.get a->∀k,(il P t).f ((db es ae x).g L T) hM k=k Nr:=λhM e k=>by rw[alL au (e.trans mc)];exact g1 k
  cases v with
  |false=>refine⟨w,aY,Nr,U,Z,H,b6,bm,F,⟨0,λm _ k aU=>?_⟩,bi,g2,eQ.refl _ _ _ _,λ_ _=>rfl⟩;unfold ph;simp only;generalize db es ae x=g at qi;generalize il P t=f at qi;have⟨g⟩:=g;have⟨f⟩:=f;exact qi H rfl _
  |true=>
   simp only at F;cases bU:(J7 bf.du (dN es ae aY.S x)&&GF aY.S.A w) with
   |false=>rw[bU] at F;exact F.elim
   |true=>
    rw[bU] at F;simp only[c6] at bU;have aw:=apm bU.2 g2;have mC:∃tp:Oq,tp=il P t:=⟨_,rfl⟩;refine⟨w,_,Nr,U,Z,H,⟨i,(db es ae x).g L T,il P t,Nr⟩::b6,bm,F,⟨0,λm _ k aU=>?_⟩,⟨bi.ok,bi.sy,bi.rq,bi.lV,bi.tb,λr ad=>?_⟩,g2,eQ.refl _ _ _ _,λ_ _=>rfl⟩
    .unfold ph;simp only;generalize db es ae x=g at qi;generalize il P t=f at qi;have⟨g⟩:=g;have⟨f⟩:=f;exact qi H rfl _
    .rcases fS.1 ad with rfl|ad
     .refine⟨a,aV,VO,qi,aw,?_⟩;rcases QR with⟨s,D,aZ,aN,c9,hB,_⟩|⟨a6,D,aZ,aN,c9⟩
      .exact .inr ⟨s,D,EB _ (re.2 ⟨s,aZ,rfl⟩),aN,c9,hB⟩
      .refine .inl ⟨D,aN,?_⟩;rw[aZ] at bU;rw[c9];simpa [J7] using bU.1
     .have⟨bF,dl,cB,dV,gO,l3⟩:=bi.rd r ad;refine⟨bF,dl,cB,dV,gO,?_⟩;rcases l3 with l3|⟨s,D,me,agJ⟩
      .exact .inl l3
      .exact .inr ⟨s,D,FU _ me,agJ⟩
 .exact h.elim
def afc{v}(aw:lN P op=.pure)(dT:∀t x,op≠.load t x)(h:uT (dq C) bf P es ae i v d op aY k):Am C bf.du es (ph P es ae i v op).f aY k:=by
 intro U Z L T H b6 bm bi;have h:hs (dq C) (u5 P es ae aY.S op) λw=>k w aY:=by
  unfold uT at h;split at h
  .exact absurd rfl (dT _ _)
  .rw[aw] at h;exact h
 have⟨e,B,F⟩:=kk h;have⟨w,g1,g2⟩:=VG bi.sy bi.rq B;refine⟨e,aY,w,U,Z,H,b6,bm,F,⟨0,λm _ k aU=>?_⟩,bi,g2,eQ.refl _ _ _ _,λ_ _=>rfl⟩;unfold ph;split
 .exact absurd rfl (dT _ _)
 .rw[aw];simp only;generalize sY P es ae op=c at g1;have⟨c⟩:=c;exact g1 _
def ahL{v}(aw:lN P op=.sf)(dT:∀t x,op≠.load t x)(h:uT (dq C) bf P es ae i v d op aY k):Am C bf.du es (ph P es ae i v op).f aY k:=by
 intro U Z L T H b6 bm bi;have h:(match Nat.blt d 1000&&jQ [d] (sites aY.iV++sites aY.iM)&&jQ (nF es ae op aY.S) (sites aY.iM) with
  |true=>match aY.S.ft (nF es ae op aY.S) with
   |S=>hs (dq C) (Ag ⟨bf.sF,bf.flat,λ_=>true,bf.mt,bf.du,bf.own,bf.i4⟩ P es ae d op S) λr=>match r.2 with
    |some D=>k r.1 ⟨S.put d (gx (et d) D),aY.iM,(i,d)::aY.iV.filter (λN=> !cr N.2 (nF es ae op aY.S)),(aY.iV.filter (λN=>cr N.2 (nF es ae op aY.S))).map Prod.fst++aY.dk⟩
    |none=>(dq C).fail
  |false=>(dq C).fail):=by
  unfold uT at h
  split at h
  .exact absurd rfl (dT _ _)
  .rw[aw] at h;exact h
 generalize v8:nF es ae op aY.S=aX at h;split at h
 .rename_i q;simp only[c6] at q;have⟨⟨bq,aS⟩,bU⟩:=q;have bq:=cZ.1 bq;have aS:=Cr aS d (by simp);have bU:=Cr bU;simp only[jD,not_or] at aS;have Ka:=fx.ft (X:=bf.du) (d:=d) (S:=aY.S) bi.ok aX;have zX:=Ka.sy _ bi.sy;have q5:=Ka.rq _ _ bi.rq;have w9:∀s D,cr s aX=false->look aY.S.A s=some D->∃bs,look (aY.S.ft aX).A s=some bs/\bs.real=D.real:=by
   intro s D ak K;cases aX with
   |nil=>exact⟨D,K,rfl⟩
   |cons a aX=>refine⟨gx (lk (keeps aY.S.A (a::aX)) (a::aX)) D,?_,lJ _ _⟩;show look (fL _ (jS aY.S.A (a::aX))) s=_;rw[nQ,uN,ak,K];rfl
  have⟨r,B,F⟩:=kk h;have⟨iq,gb,g1,g2⟩:=RN Ka.ok zX q5 B;have pV:(g9 bm H).next=H.next:=oh _ _
  let ct:bd:=⟨Nat.succ H.next,H.t⟩
  have aqg:∀a,ct.get a=H.get a:=λa=>rfl;have Mx:∀q∈(⟨i,H.next,iq⟩::bm:List jy),∀eh∈(⟨i,H.next,iq⟩::bm:List jy),q.id=eh.id->q=eh:=by
   intro q ax eh js e;rcases fS.1 ax with rfl|ax<;>rcases fS.1 js with rfl|js
   .rfl
   .have:=(bi.lV eh js).1;simp only at e;omega
   .have:=(bi.lV q ax).1;simp only at e;omega
   .exact bi.tb q ax eh js e
  have cM:=zW (g9 bm H) iq;have uy:∀a,(g9 (⟨i,H.next,iq⟩::bm) ct).get a=((g9 bm H).add iq).get a:=by
   intro a;by_cases aZ:a=H.next
   .subst aZ;rw[(qS Mx _).1 ⟨i,H.next,iq⟩ (by simp) rfl];have:=cM.2.1;rw[pV] at this;exact this.symm
   .rw[bd.Ul eN eN,bA (by rw[pV];exact aZ)];by_cases jA:∃q∈bm,q.id=a
    .have⟨q,dl,cB⟩:=jA;rw[(qS Mx _).1 q (by simp [dl]) cB,(qS bi.tb _).1 q dl cB]
    .have dB:∀q∈bm,q.id≠a:=λq dl cB=>jA ⟨q,dl,cB⟩;have zD:∀q∈(⟨i,H.next,iq⟩::bm:List jy),q.id≠a:=by
      intro q ax e;rcases fS.1 ax with rfl|ax
      .exact aZ e.symm
      .exact dB q ax e
     rw[(qS bi.tb _).2 dB,(qS Mx _).2 zD];exact aqg a
  have Yf:(g9 (⟨i,H.next,iq⟩::bm) ct).next=((g9 bm H).add iq).next:=by rw[oh,cM.2.2,pV]
  have step:∀(D:eS)(e:a1),r=(e,some D)->D.real=true->xK (hQ U Z aY.S.A (g9 bm H) aX) Z (aY.S.ft aX).A iq D->
   cd (hQ U Z aY.S.A (g9 bm H) aX) (lI Z d H.next) ((aY.S.ft aX).put d (gx (et d) D)).A e (gb H.next)->
   ∃e nA km bh bV aq gm fE,k e nA/\(∃cy,∀m,cy<=m->∀k aU,(ph P es ae i v op).f (C m) L T H b6 bm k aU=k (km::L) aq gm fE)/\v4 bf.du es bh bV nA L T aq gm fE/\cd bh bV nA.S.A e km/\
    eQ bf.du U Z aY.S.A (g9 bm H) bh bV nA.S.A (g9 fE aq)/\∀s,1000<=s->bV s=Z s:=by
   intro D e ad ay aB ar
   subst ad
   have bc:=QO (X:=bf.du) (d:=d) Ka.ok ay aB
   rw[pV] at bc
   have Yv:∀s bs,s≠d->look (aY.S.ft aX).A s=some bs->look ((aY.S.ft aX).put d (gx (et d) D)).A s=some (gx (et d) bs):=by intro s bs ak K;show look ((d,gx (et d) D)::fL (et d) (rem (aY.S.ft aX).A d)) s=_;rw[hO,bA ak,nQ,rQ,bA ak,K];rfl
   refine⟨e,_,gb H.next,_,_,ct,b6,⟨i,H.next,iq⟩::bm,F,⟨0,λm _ k aU=>?_⟩,⟨bc.ok.congr uy Yf,bc.sy _ zX,bc.rq _ _ q5,λq ax=>?_,Mx,λr ad=>?_⟩,ar,?_,λs q=>jH Y⟩
   .unfold ph;split
    .exact absurd rfl (dT _ _)
    .rw[aw];simp only;generalize xz P es ae op=c at g1;have⟨c⟩:=c;simp only at g1 ⊢;rw[g1];rfl
   .rcases fS.1 ax with rfl|ax
    .refine⟨Nat.lt_succ_self _,.inl ⟨d,gx (et d) D,by simp,nk _ _ _,?_,by rw[lJ];exact ay⟩⟩;show look ((d,gx (et d) D)::fL (et d) (rem (aY.S.ft aX).A d)) d=_;rw[hO,b3 rfl]
    .have⟨dl,cB⟩:=bi.lV q ax;refine⟨Nat.lt_succ_of_lt dl,?_⟩;rcases cB with⟨jx,bs,m1,m2,m3,m4⟩|⟨m1,bs,m2⟩
     .have dB:jx≠d:=λe=>aS.1 (by rw[<-e];exact re.2 ⟨_,m1,rfl⟩);cases hm:cr jx aX with
      |true=>refine .inr ⟨EB _ (re.2 ⟨(q.i,jx),kf.2 ⟨m1,hm⟩,rfl⟩),?_⟩;exact⟨_,by rw[<-m2];exact xy hm m3 m4⟩
      |false=>have⟨eL,eY,ex⟩:=w9 jx bs hm m3;exact .inl ⟨jx,_,tX _ (kf.2 ⟨m1,by simp only[hm,Aq]⟩),by rw[jH dB];exact m2,Yv jx eL dB eY,by rw[lJ,ex];exact m4⟩
     .exact .inr ⟨FU _ m1,bs,rr bi.ok _ _ m2⟩
   .have⟨a,dl,cB,dV,gO,l3⟩:=bi.rd r ad;refine⟨a,Nat.lt_succ_of_lt dl,λq ax=>?_,dV,gO,?_⟩
    .rcases fS.1 ax with rfl|ax
     .exact λe=>by simp only at e;omega
     .exact cB q ax
    .rcases l3 with⟨bs,m1,m2⟩|⟨s,bs,m1,m2,m3,m4⟩
     .exact .inl ⟨bs,rr bi.ok _ _ m1,m2⟩
     .have EV:s∈sites aY.iM:=re.2 ⟨_,m1,rfl⟩;have dB:s≠d:=λe=>aS.2 (by rw[<-e];exact EV);have hm:cr s aX=false:=by
       cases hm:cr s aX with
       |false=>rfl
       |true=>exact absurd EV (bU s (EW.1 hm))
      have⟨eL,eY,ex⟩:=w9 s bs hm m2;exact .inr ⟨s,_,m1,Yv s eL dB eY,by rw[lJ,ex];exact m3,by rw[jH dB];exact m4⟩
   .exact(Ka.trans bc).hZ.congr (λ_=>rfl) rfl uy Yf
  rcases g2 with⟨el,z,aF,rfl,rfl,g3⟩|⟨el,z,ab,rfl,rfl,g3⟩|⟨el,z,ab,rfl,rfl,g3⟩
  .refine step (.box el z aF) _ rfl rfl g3 λeC cI fB K=>?_;have K:look ((d,gx (et d) (.box el z aF))::fL (et d) (rem (aY.S.ft aX).A d)) d=some (.box eC cI fB):=K;rw[hO,b3 rfl] at K;rw[nk];cases aF<;>cases K<;>rfl
  .refine step (.arr el z ab false) _ rfl (by cases ab<;>rfl) g3 λeC cI f7 u K=>?_;have K:look ((d,gx (et d) (.arr el z ab false))::fL (et d) (rem (aY.S.ft aX).A d)) d=some (.arr eC cI f7 u):=K;rw[hO,b3 rfl] at K;rw[nk];cases K;rfl
  .exact F.elim
 .exact h.elim
def ape{v}(h:uT (dq C) bf P es ae i v d op aY k):Am C bf.du es (ph P es ae i v op).f aY k:=by
 by_cases K:∃t x,op=.load t x
 .obtain⟨t,x,rfl⟩:=K;exact akJ h
 .have dT:∀t x,op≠.load t x:=λt x e=>K ⟨t,x,e⟩;cases aw:lN P op with
  |pure=>exact afc aw dT h
  |sf=>exact ahL aw dT h
  |wr=>
   exfalso;unfold uT at h;split at h
   .exact absurd rfl (dT _ _)
   .rw[aw] at h;exact h
end
section
variable{P:dy}{es:aO}{ae:dv}{L bg:cv}{T:b4}
def UD:∀{ae}{t i},jp t ae=some i->i<ae.length
 |[],_,_,h=>by cases h
 |some a::l,t,i,h=>by
  simp only[jp] at h;cases q:Nat.beq a t with
  |true=>rw[q] at h;cases h;simp
  |false=>
   rw[q] at h;cases B:jp t l with
   |none=>rw[B] at h;cases h
   |some M=>rw[B] at h;cases h;have:=UD B;simp only[nD];omega
 |none::l,t,i,h=>by
  simp only[jp] at h;cases B:jp t l with
  |none=>rw[B] at h;cases h
  |some M=>rw[B] at h;cases h;have:=UD B;simp only[nD];omega
def Xr(K:ae.length<=L.length)(x):(db es ae x).g (L++bg) T=(db es ae x).g L T:=by
 unfold db;cases x with
 |tmp t=>
  simp only;unfold ki;cases B:jp t ae with
  |some i=>simp only;rw[CN,CN,oE,oE,uX (by have:=UD B;omega)]
  |none=>
   simp only;cases F:i2 t es with
   |some s=>
    simp only;cases Nat.blt s 64
    .rfl
    .simp only;rw[Km,Km]
   |none=>rfl
 |const v=>simp only;cases mr v<;>rfl
 |func f=>rfl
 |global g=>rfl
def Wh(K:ae.length<=L.length):∀l,(ol es ae l).g (L++bg) T=(ol es ae l).g L T
 |[]=>rfl
 |x::l=>by have B:=Xr (es:=es) (bg:=bg) (T:=T) K x;have F:=Wh K l;unfold ol;generalize db es ae x=g at B;generalize ol es ae l=hH at F;have⟨g⟩:=g;have⟨hH⟩:=hH;simp only at B F ⊢;rw[B,F]
def ag3{x y}{t a6}(I:x.g (L++bg) T=x.g L T)(ap:y.g (L++bg) T=y.g L T)(call)(H)(k aU):(xk P t a6 x y).f call (L++bg) T H k aU=(xk P t a6 x y).f call L T H k aU:=by
 have⟨x⟩:=x;have⟨y⟩:=y;simp only at I ap;unfold xk;simp only;split
 .split
  .split
   .split
    .simp only[I,ap]
    .rfl
   .split
    .simp only[I,ap]
    .rfl
   .rfl
  .rfl
 .rfl
def akW{C bf k}(K:ae.length<=L.length)(h:q4 (dq C) bf P es ae d op S k)(call)(H)(mA aU):(hN P es ae op).f call (L++bg) T H mA aU=(hN P es ae op).f call L T H mA aU:=by
 have Cy:=λx=>Xr (es:=es) (ae:=ae) (bg:=bg) (T:=T) K x;have aln:=λl=>Wh (es:=es) (ae:=ae) (bg:=bg) (T:=T) K l;cases op with
 |load t x=>have B:=Cy x;unfold hN;simp only;generalize db es ae x=g at B;generalize il P t=f;have⟨g⟩:=g;have⟨f⟩:=f;simp only at B ⊢;rw[B]
 |store t x y=>have B:=Cy x;have F:=Cy y;unfold hN;simp only;generalize db es ae x=g at B;generalize db es ae y=g2 at F;generalize oy P t=f;have⟨g⟩:=g;have⟨g2⟩:=g2;have⟨f⟩:=f;simp only at B F ⊢;rw[B,F]
 |convert s t x=>
  have B:=Cy x;unfold hN;simp only;unfold GQ;generalize db es ae x=g at B;have⟨g⟩:=g;simp only at B ⊢;split
  .split
   .simp only[B]
   .rfl
  .split
   .simp only[B]
   .rfl
  .rfl
 |call c=>
  have val:∀f,c.callee=.value f->(hN P es ae (.call c)).f call (L++bg) T H mA aU=(hN P es ae (.call c)).f call L T H mA aU:=by
   intro f kU;have B:=Cy f;have F:=aln c.args.toList;have:(hN P es ae (.call c))=q3 es ae f c.args.toList:=by simp only[hN,kU]
   rw[this];unfold q3;generalize ol es ae c.args.toList=hH at F;generalize db es ae f=g at B;have⟨g⟩:=g;have⟨hH⟩:=hH;simp only at B F;cases f<;>simp only[B,F]
  unfold q4 at h;simp only at h;cases ay:bf.own d with
  |true=>
   rw[ay] at h;simp only at h;split at h
   .rename_i f kU;exact val f kU
   .exact h.elim
  |false=>
  rw[ay] at h;simp only at h;split at h
  .rename_i f kU;exact val f kU
  .rename_i kU;split at h
   .rename_i t a6 x y al I;have:(hN P es ae (.call c))=xk P t a6 (db es ae x) (db es ae y):=by simp only[hN,kU,al,I]
    rw[this];exact ag3 (Cy x) (Cy y) call H mA aU
   .exact h.elim
  .exact h.elim
 |_=>exact h.elim
end
def RK(A):∀(l)(s),look (ka A l) s=if s∈l then look A s else none
 |[],s=>by simp [ka,look]
 |a::l,s=>by
  simp only[ka];cases h:look A a with
  |none=>
   simp only;rw[RK A l s];by_cases e:s=a
   .subst e;simp only[h];split<;>(split<;>rfl)
   .have:(s∈a::l)↔s∈l:=by simp [e]
    simp only[this]
  |some D=>
   simp only;rw[hO,RK A l s];by_cases e:s=a
   .subst e;rw[b3 rfl,b3 (qg ..),h]
   .have:(s∈a::l)↔s∈l:=by simp [e]
    rw[bA e];simp only[this]
def nU(f:a1->a1)(X:aO):eS->eS
 |.box el z (.bE l)=>.box el z (.bE (l.map f))
 |D=>rX X D
def xC(X)(D):rX X D=ob X D:=by
 cases X with
 |nil=>exact(Vx D).symm
 |cons=>rfl
def Lu(f)(X):∀ak,xi X ak ((pt ak).map (dJ f))=ak.map λN=>(N.1,nU f X N.2)
 |[]=>rfl
 |(s,.box el z (.bE l))::r=>by simp only[pt,fA,dJ,xi,Lu f X r];rfl
 |(s,.box el z (.cc l))::r=>by simp only[pt,fA];unfold xi;rw[Lu f X r];rfl
 |(s,.arr el z ab u)::r=>by simp only[pt,fA];unfold xi;rw[Lu f X r];rfl
def aaO(g):∀(A)(s),look (A.map λN=>(N.1,g N.2)) s=(look A s).map g
 |[],s=>rfl
 |(a,D)::l,s=>by
  simp only[fA,look];cases Nat.beq a s
  .exact aaO g l s
  .rfl
def XR:∀(a b:be)(s:Nat),look (a++b) s=match look a s with|some D=>some D|none=>look b s
 |[],b,s=>rfl
 |(x,D)::l,b,s=>by
  simp only[jF,look];cases Nat.beq x s
  .exact XR l b s
  .rfl
def BV(f)(X)(D):(nU f X D).real=D.real:=by
 cases D with
 |box el z aF=>cases aF<;>first|rfl|(show(rX X _).real=_;rw[xC,uZ])
 |arr el z ab u=>show(rX X _).real=_;rw[xC,uZ]
def agd{f}{X er}{s}{D}:f6 er s (nU f X D)=f6 er s D:=by
 cases D with
 |box el z aF=>cases aF<;>first|rfl|(show f6 er s (rX X _)=_;rw[xC,NV])
 |arr el z ab u=>show f6 er s (rX X _)=_;rw[xC,NV]
def afx{f}{X}{D}{el z}{aF}(h:nU f X D=.box el z aF):∃i6,D=.box el z i6:=by
 cases D with
 |box eC cI fB=>
  cases fB with
  |cc l=>have h:rX X (.box eC cI (.cc l))=_:=h;rw[xC] at h;cases h;exact⟨_,rfl⟩
  |bE l=>cases h;exact⟨_,rfl⟩
 |arr eC cI ab u=>have h:rX X (.arr eC cI ab u)=_:=h;rw[xC] at h;cases h
def af6{f}{X}{D}{el z}{ab:gF}{u}(h:nU f X D=.arr el z ab u):∃ey,D=.arr el z ey u/\ey.length=ab.length:=by
 cases D with
 |box eC cI fB=>
  cases fB with
  |cc l=>have h:rX X (.box eC cI (.cc l))=_:=h;rw[xC] at h;cases h
  |bE l=>cases h
 |arr eC cI f7 fa=>have h:rX X (.arr eC cI f7 fa)=_:=h;rw[xC] at h;cases h;exact⟨_,rfl,by simp⟩
section
variable{U:dO}{Z:Nat->Nat}{A:be}{H aq:bd}
def bL.local(h:bL U Z A H)(aI:∀a D,U a=some D->aq.get a=H.get a)(hp:∀s D,look A s=some D->D.real->aq.get (Z s)=H.get (Z s))(aB:aq.next=H.next):bL U Z A aq:=by
 refine⟨λa D ay=>by rw[aI a D ay,aB];exact h.gf a D ay,λs D K ad=>by rw[aB];exact h.lt s D K ad,h.inj,λs D K=>?_⟩;have ay:=h.obj s D K;cases D with
 |box el z aF=>exact ay.congr (hp s _ K rfl)
 |arr el z ab u=>exact λad=>(ay.congr (hp s _ K ad)) ad
def aeb{bw}(aW:bL U Z A H)(nh:∀s D,look bw s=some D->look A s=some D):∀{l},∃bg,eW U Z bw (pt (ka A l)) bg
 |[]=>⟨[],rfl⟩
 |a::l=>by
  have⟨bg,gn⟩:=aeb aW nh (l:=l);simp only[ka];cases h:look A a with
  |none=>exact⟨bg,gn⟩
  |some D=>
   cases D with
   |arr el z ab u=>exact⟨bg,gn⟩
   |box el z aF=>
    cases aF with
    |cc r=>exact⟨bg,gn⟩
    |bE r=>have⟨am,g1,g2,g3,g4,g5⟩:=aW.obj a _ h;refine⟨.agg (am.row 0).length (am.row 0)::bg,_,_,rfl,⟨am.row 0,by rw[g5.length],?_⟩,gn⟩;have:=(GY (U:=U) (Z:=Z) nh).d8 g5;rwa [List.map_id] at this
end
end Go.Tx
