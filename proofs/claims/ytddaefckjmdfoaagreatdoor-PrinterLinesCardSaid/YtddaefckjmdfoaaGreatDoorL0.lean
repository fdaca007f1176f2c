/- Part of the proof of PrinterLines. -/
import Derived.Test.YtddaefckjmdfoaaGreatDoorP1
import Derived.Test.YtddaefckjmdfoaaGreatDoorH2
set_option linter.all false
namespace Go.Tx
open Go Go.Ev
def JD:List bM->bM
 |[]=>[32]
 |w::l=>32::(w++JD l)
def adc{s:bM}:∀{w t:bM},32∉w->(32::s)<:+:w++t->(32::s)<:+:t
 |[],t,_,h=>h
 |a::w,t,bx,h=>by
  rw[fS,not_or] at bx;rcases List.infix_cons_iff.1 h with h|h
  .exact absurd (Kl.1 h).1 bx.1
  .exact adc bx.2 h
variable{n:Nat}{s:bM}{x:cV}
def ahE(ak:32∉s):∀{w t:bM},32∉w->s++[32]<+:w++(32::t)->s=w:=by
 induction s with
 |nil=>
  intro w t bx h;cases w with
  |nil=>rfl
  |cons a w=>exact absurd (Kl.1 h).1 λe=>bx (e▸qg)
 |cons b s bB=>
  rw[fS,not_or] at ak;intro w t bx h;cases w with
  |nil=>exact absurd (Kl.1 h).1 λe=>ak.1 e.symm
  |cons a w=>rw[fS,not_or] at bx;have b5:=Kl.1 h;rw[bB ak.2 bx.2 b5.2,b5.1]
def alg:∀l,∃t,JD l=32::t
 |[]=>⟨_,rfl⟩
 |_::_=>⟨_,rfl⟩
def ady{s:bM}(cb:s≠[])(ak:32∉s):∀{l},(∀w∈l,32∉w)->(32::(s++[32]))<:+:JD l->s∈l
 |[],_,h=>by have:=h.length_le;simp [JD] at this
 |w::l,K,h=>by
  obtain⟨t,al⟩:=alg l;rcases List.infix_cons_iff.1 h with h|h
  .have:=(Kl.1 h).2;rw[al] at this;exact(ahE ak (K w qg) this)▸qg
  .exact tX _ (ady cb ak (λw bx=>K w (tX _ bx)) (adc (K w qg) h))
def anp:QN=JD z3:=by decide+kernel
def afK:∀w∈z3,(32:UInt8)∉w:=by decide+kernel
def ao1(h:s∉z3):Dj s=false:=by
 refine qO λ⟨cb,B,F⟩=>h ?_;refine ady cb (λhm=>B ?_) afK ?_
 .obtain⟨a,b,rfl⟩:=List.append_of_mem hm;exact⟨a,b,by simp⟩
 .rw[<-anp];simpa using F
def n3(h:gR s):j2 s:=by obtain⟨B,F,ah,aE,bt⟩:=pC h;refine iX ⟨B,F,ah,f0.2 λb av=>?_,ao1 aE⟩;unfold xL;rw[qC];exact bt b av
def BN(h:qu s):qV s:=by
 unfold qu at h;unfold qV;split at h
 .rename_i hm;rw[b3 hm];rw[c6] at h ⊢;exact⟨n3 h.1,n3 h.2⟩
 .rename_i hm;rw[bA hm];exact n3 h
def ai.VL:∀l,ai.E2 l=l.all ai.lx
 |[]=>rfl
 |a::l=>by rw[ai.E2,ai.VL l];rfl
def Al:∀t:ai,t.mw->t.lx:=ai.ind λt bB h=>by
 cases t with
 |mk aR g l=>rw[ai.mw,c6,qC,ai.Q0,f0] at h;rw[ai.lx,c6,qC,ai.VL,f0];exact⟨h.1.imp_right BN,λx I=>bB x I (h.2 x I)⟩
def MA{α:Type}{N q}(h:∀x,N x->q x){l:List α}(K:l.all N):l.all q:=
 f0.2 λx I=>h x (f0.1 K x I)
def ahu{l}(h:QE l):xA l:=by
 refine f0.2 λi aH=>?_;cases q:l[i]? with
 |none=>rfl
 |some a=>
  have:=h i a q;show sW l.length i a=true;unfold sW;split
  .rename_i ar;exact iX (this.1 ar)
  .rename_i ar;have:=this.2 (by simpa using ar);rw[c6];exact⟨n3 this.1,MA (λ_=>n3) this.2⟩
def ajJ{k}{N}(h:ut k=some N):k=1\/k=2\/k=3\/k=4\/k=5\/k=6\/k=7\/k=8\/k=9\/k=10\/k=11\/k=12\/k=13\/k=14\/k=15\/k=16\/k=17\/k=18\/k=19\/k=20\/k=23\/k=24:=by
 unfold ut at h;by_cases aqQ:k<=24
 .rcases l7 k 1 with B|B
  .have:k=0:=Y;subst this;simp at h
  .by_cases aff:k=21\/k=22
   .rcases aff with rfl|rfl<;>simp at h
   .omega
 .repeat rw[bA Y] at h
  cases h
def ab4(h:gR s):s≠[]:=(pC h).1
def ajf{e }(h : Mt e) : pp e = true := by
  obtain ⟨N, hp, B, F, ah, aE, bt, b1, ep, fm, hI, oc, pG, vV, zN, ad8, ZS, CQ, PW, Uo⟩ := h
  have hm := MA (λ_ => n3) oc
  have al := MA Al ah
  have az := ajJ hp
  unfold pp
  rcases az with az | az | az | az | az | az | az | az | az | az | az | az | az | az | az | az | az | az | az | az | az | az <;>
    (rw [az] at hp pG vV zN ad8 ZS CQ PW Uo
     have hp : _ = some N := hp
     simp [ut, lO] at hp
     subst hp
     simp at B F aE bt b1 ep fm hI pG vV zN ad8 ZS CQ PW Uo
     simp [az, wL, Fq, hm, al, *])
  all_goals first
    | exact n3 (by assumption)
    | exact BN (by assumption)
    | exact ⟨⟨BN (by assumption), ab4 (by assumption)⟩, n3 (by assumption)⟩
    | exact ⟨ab4 (by assumption), n3 (by assumption)⟩
    | exact n3 Uo.1
    | exact .inr (by omega)
    | exact ⟨.inr (by omega), ahu PW.2⟩
def abl{P:ai->Prop}{x}:(∀t∈sB x,P t)↔(∀s∈x.ea,∀f∈s.fields,P f.bK)/\(∀s∈x.dW,∀c∈s.cases,∀t∈c.f8,P t)/\(∀s∈x.e7,∀m∈s.fT,(∀t∈m.args,P t)/\P m.fk)/\(∀c∈x.ed,P c.bK)/\∀f∈x.funcs,(∀a∈f.args,P a.bK)/\P f.fk:=by simp only[sB,pI,oA,oR,sw,pQ,pB,List.forall_mem_append,List.forall_mem_flatMap,List.forall_mem_map,List.forall_mem_singleton,and_assoc]
def Q7{P:aj->Prop}{x}:(∀t∈sC x,P t)↔∀f∈x.funcs,(∀a∈f.args,a.gM.zero=false->P a.gM)/\(f.has->P f.body):=by
 have B:∀a:cD,(∀t∈n2 a,P t)↔(a.gM.zero=false->P a.gM):=λa=>by unfold n2;cases a.gM.zero<;>simp
 have F:∀f:dI,(∀t∈(if f.has then [f.body] else []),P t)↔(f.has=true->P f.body):=λf=>by cases f.has<;>simp
 simp only[sC,mf,List.forall_mem_append,List.forall_mem_flatMap,B,F]
def ag7:∀e:aj,e.sc->e.mB pp:=aj.ind λe bB h=>by
 rw[aj.Cz,c6,f0];cases e with
 |mk bN a2 a3 a4 a5 dR en nX a9 qf o4 l uF yA=>rw[aj.sc,aj.PN] at h;exact⟨ajf h.1,λx I=>bB x I (h.2 x I)⟩
def ae1:∀e:aj,e.tz=false->(e.mB λx=>x.types.all us):=aj.ind λe bB h=>by
 rw[aj.Cz,c6];cases e with
 |mk bN a2 a3 a4 a5 dR en nX a9 qf o4 l uF yA=>rw[aj.tz,aj.QV,Cd] at h;refine⟨?_,f0.2 λx I=>bB x I (by simpa using List.any_eq_false.1 h.2 x I)⟩;have:=h.1;simp [tj] at this;simp [aj.types,us];exact this
def ag5:∀e:aj,e.ir->e.mB Ad:=aj.ind λe bB h=>by
 rw[aj.Cz,c6,f0];cases e with
 |mk bN a2 a3 a4 a5 dR en nX a9 qf o4 l uF yA=>rw[aj.ir,aj.F8,c6,f0] at h;refine⟨?_,λx I=>bB x I (h.2 x I)⟩;have:=h.1;simp only[aj.NM,c6] at this;simp only[Ad,c6];obtain⟨⟨⟨⟨⟨B,F⟩,ah⟩,aE⟩,bt⟩,b1⟩:=this;exact⟨⟨⟨⟨⟨bt,b1⟩,aE⟩,ah⟩,B⟩,F⟩
def WA{l}(h:tj l=false):∀t∈l,us t:=λt al=>by simp [tj] at h;exact iX (h t al)
def ad2{l}(h:UZ l):l.all As:=f0.2 λg br=>by unfold As;rw[c6];exact⟨n3 (h g br).1,MA (λ_=>BN) (h g br).2⟩
def Lc(B:n<=1000)(F:gR s):tM n s:=by unfold tM;rw[c6];exact⟨iX B,n3 F⟩
def ahN(h:Dy x):FV x:=by
 obtain⟨B,F,ah,aE,-,-,bt,b1,ep,fm,hI,oc⟩:=h;simp only[FV,c6,f0];refine⟨⟨⟨iX B,n3 F⟩,iX ⟨ah,aE⟩⟩,λy ap=>?_,λy ap=>?_,λy ap=>?_,λy ap=>?_,λy ap=>?_,λy ap=>?_⟩
 .have:=bt y ap;simp only[Ni,c6];exact⟨n3 this.1,iX this.2⟩
 .obtain⟨a,b,c,d⟩:=b1 y ap;simp only[HR,c6,f0];exact⟨⟨Lc a b,λs ak=>n3 (f0.1 c s ak)⟩,λf aI=>n3 (d f aI).1⟩
 .obtain⟨a,b,c,d⟩:=ep y ap;simp only[Hg,c6,f0];exact⟨⟨Lc a b,λs ak=>n3 (f0.1 c s ak)⟩,λf aI=>n3 (d f aI).1⟩
 .obtain⟨a,b,c⟩:=fm y ap;simp only[JU,c6,f0];refine⟨Lc a b,λm hm=>?_⟩;obtain⟨m1,m2,m3,m4⟩:=c m hm;simp only[JX,c6,qC];exact⟨n3 m1,m4.imp (λh=>iX h) BN⟩
 .obtain⟨a,b,c,d⟩:=hI y ap;simp only[G6,c6];refine⟨⟨BN a,ad2 b⟩,f0.2 λz bO=>?_⟩;simp only[HV,c6];exact⟨n3 (d z bO).1,BN (d z bO).2⟩
 .obtain⟨a,b,c,d,e,f,g⟩:=oc y ap;simp only[Fe,c6,qC];refine⟨⟨⟨Lc a b,ad2 c⟩,f0.2 λz bO=>?_⟩,?_⟩
  .obtain⟨g1,g2,g3⟩:=g z bO;simp only[Gw,c6,qC];exact⟨n3 g1,g3.elim .inr λh=>.inl h.1⟩
  .cases q:y.has with
   |true=>exact .inl rfl
   |false=>exact .inr (f q)
def alp(h:Dy x):HM x:=by
 obtain⟨-,-,-,-,-,⟨⟨df,cH,dh,fj,fP,ty⟩,eK,s2,mR,oO,tA⟩,-⟩:=h;simp only[HM,c6,f0];refine⟨iX ⟨df,cH,dh,fj,fP,ty⟩,λy ap=>?_,λy ap=>?_,λy ap=>?_,λy ap=>?_,λy ap=>?_⟩
 .simp only[LR,c6];exact⟨iX (eK y ap).1,iX (eK y ap).2.1⟩
 .simp only[Na,c6,f0];exact⟨⟨iX (s2 y ap).1,iX (s2 y ap).2.1⟩,λc aw=>iX ((s2 y ap).2.2 c aw).1⟩
 .simp only[O3,c6,f0];exact⟨iX (mR y ap).1,λc aw=>iX ((mR y ap).2 c aw).1⟩
 .simp only[MS,c6];exact⟨(oO y ap).1,iX (oO y ap).2.2⟩
 .simp only[KP,c6];exact⟨(tA y ap).1,iX (tA y ap).2.1⟩
def anA(h:Dy x):∀t∈sB x,(t.lx/\us t)/\t.ir:=by
 obtain⟨-,-,-,-,⟨d1,d2,d3,d4,d5⟩,⟨-,eK,s2,mR,oO,tA⟩,-,v1,v2,tJ,Bd,Vp⟩:=h;refine abl.2 ⟨λy ap f aI=>⟨⟨Al _ ((v1 y ap).2.2.2 f aI).2,iX (d1 y ap f aI)⟩,(eK y ap).2.2 f aI⟩,λy ap c aw t al=>⟨⟨Al _ (f0.1 ((v2 y ap).2.2.2 c aw).2 t al),WA (d2 y ap c aw) t al⟩,f0.1 ((s2 y ap).2.2 c aw).2 t al⟩,λy ap m hm=>?_,λy ap=>?_,λy ap=>?_⟩
 .obtain⟨a,b,c,d⟩:=(tJ y ap).2.2 m hm;obtain⟨e,f⟩:=d3 y ap m hm;obtain⟨g,i,M⟩:=(mR y ap).2 m hm;exact⟨λt al=>⟨⟨Al _ (f0.1 b t al),WA e t al⟩,f0.1 i t al⟩,⟨Al _ c,iX f⟩,M⟩
 .exact⟨⟨Al _ (Bd y ap).2.2.1,iX (d4 y ap)⟩,(oO y ap).2.1⟩
 .obtain⟨-,-,-,a,-,-,b⟩:=Vp y ap;obtain⟨c,-,d⟩:=d5 y ap;obtain⟨-,-,e,-,f⟩:=tA y ap;exact⟨λz bO=>⟨⟨Al _ (b z bO).2.1,iX (d z bO).1⟩,(f z bO).1⟩,⟨Al _ a,iX c⟩,e⟩
def adT{e}(B:e.sc)(F:L5 e=false)(ah:HL e):(e.mB pp/\vG e)/\vq e:=by
 simp only[L5,Cd,decide_eq_false_iff_not] at F;refine⟨⟨ag7 e B,?_⟩,?_⟩
 .simp only[vG,c6];exact⟨iX Y,ae1 e F.2⟩
 .simp only[vq,c6];exact⟨iX ah.1,ag5 e ah.2⟩
def alQ(h:Dy x):∀t∈sC x,(t.mB pp/\vG t)/\vq t:=by
 obtain⟨-,-,-,-,⟨-,-,-,-,d5⟩,⟨-,-,-,-,-,tA⟩,-,-,-,-,-,Vp⟩:=h;refine Q7.2 λy ap=>?_;obtain⟨-,-,-,-,a,-,b⟩:=Vp y ap;obtain⟨-,c,d⟩:=d5 y ap;obtain⟨-,-,-,e,f⟩:=tA y ap;refine⟨λz bO ax=>?_,λbf=>adT (a bf) c e⟩;rcases(b z bO).2.2 with g|g
 .rw[ax] at g;cases g
 .exact adT g.2 (d z bO).2 (f z bO).2
def amE(h:Dy x):zI x:=by have gY:=anA h;have im:=alQ h;simp only[zI,c6];refine⟨ahN h,alp h,f0.2 λt al=>(gY t al).1.1,f0.2 λt al=>(im t al).1.1,iX ?_⟩;unfold Kf;rw[f0.2 λt al=>(gY t al).1.2,f0.2 λt al=>(gY t al).2,f0.2 λt al=>(im t al).1.2,f0.2 λt al=>(im t al).2];rfl
def GT.DS:∀{k}{t},GT k t->t.wt<=37*t.gi
 |k+1,t,h=>by
  rw[ai.z2,ai.o1];have B:=h.2.1;have F:=h.2.2.2.2
  match q:t.l with
  |[]=>simp [cR,ai.e6]
  |[a]=>have:=(F a (by rw[q];exact qg)).DS;simp [cR,ai.e6];omega
  |a::b::l=>rw[q] at B;simp at B
def wz{α}{w}{m n}{l:List α}(h:∀x∈l,w x+2<=m)(aB:l.length<=n):cR w l<=m*n:=
 mq (Qb h) (Pc _ aB)
theorem y8{α}{w}{m n}:∀{l:List α},(∀x∈l,w x<=m)->l.length<=n->dX w l<=m*n:=by
 have:∀l:List α,(∀x∈l,w x<=m)->dX w l<=m*l.length:=by
  intro l;induction l with
  |nil=>intro _;simp [dX]
  |cons a l bB=>intro h;have B:=h a List.mem_cons_self;have F:=bB λx I=>h x (List.mem_cons_of_mem _ I);simp only[dX,List.length_cons,Nat.mul_succ];omega
 intro l h aB;exact Nat.le_trans (this _ h) (Nat.mul_le_mul_left _ aB)
def GE.DS:∀{k}{e},GE k e->e.mB Ad->(e.mB λx=>x.types.all us)->e.wt+10<=5100*e.size
 |k+1,e,h,ak,aJ=>by
  rw[aj.Cz,c6,f0] at ak;rw[aj.Cz,c6] at aJ;obtain⟨eK,s2⟩:=ak;obtain⟨d1,d2⟩:=aJ;simp only[Ad,c6,oI] at eK;obtain⟨⟨⟨⟨⟨-,-⟩,a3⟩,a4⟩,a5⟩,-⟩:=eK;have az:∀l:List aj,(∀x∈l,x.wt+10<=5100*x.size)->cR aj.i4 l<=5100*aj.e1 l:=by
   intro l;induction l with
   |nil=>intro _;simp [cR]
   |cons a l bB=>intro h;have B:=h a qg;have F:=bB λx I=>h x (tX _ I);simp only[cR,aj.e1,aj.i4,Ia];omega
  have dg:=az e.kids λx I=>(h.2 x I).DS (s2 x I) (f0.1 d2 x I);have ej:cR ai.wt e.types<=298*4:=wz (λt al=>by have:=(h.1.bK t al).DS;have fm:t.gi<=8:=pC (f0.1 d1 t al);omega) a5;have gv:cR (λa:fC=>50+20*a.names.length) e.fV<=252*13:=wz (λa aD=>by have:=(h.1.lb a aD).len;show 50+20*a.names.length+2<=252;omega) a3;rw[aj.z2,aj.size_eq,Ia];omega
def aaT{e:aj}(h:e.zero):e.wt=200:=by have h:=pC h;rw[aj.z2,h.2.2.2.2.1,h.2.2.2.2.2.1,h.2.2.2.2.2.2.1,h.2.2.2.2.2.2.2];rfl
def Oy(h:tM n s):iH 16 s:=by unfold tM at h;rw[c6] at h;exact pb h.2
def abA{l:List cX}(h:l.all As)(br:∀g∈l,mY g):∀g∈l,HX g:=λg hm=>by have:=f0.1 h g hm;simp only[As,c6,f0] at this;exact⟨pb this.1,λs ak=>Ei (this.2 s ak),by have:=(br g hm).len;omega⟩
def aiU{x}(h:zI x)(g:iC x):Qf x:=by
 simp only[zI,c6,oI] at h;obtain⟨aJ,-,al,av,bx⟩:=h;have bx:((sB x).all us=true/\(sC x).all vG=true)/\(sC x).all vq=true:=by
  unfold Kf at bx;split at bx
  .rename_i B;split at bx
   .rename_i F;rw[c6] at B F;exact⟨B,F.2⟩
   .cases bx
  .cases bx
 obtain⟨⟨sZ,kN⟩,aa9⟩:=bx;rw[f0] at al av sZ kN aa9;obtain⟨t1,kH,rW,xE,Dq⟩:=abl.1 al;have av:=Q7.1 av;have F7:=(Q7 (P:=λe=>vG e=true/\vq e=true)).1 λe ar=>⟨kN e ar,aa9 e ar⟩;simp only[FV,c6,f0] at aJ;obtain⟨⟨⟨-,pD⟩,-⟩,-,cB,dV,gO,l3,me⟩:=aJ;have YP:∀{e:aj},GE 10 e->vG e=true/\vq e=true->e.wt<=10200000:=λ{e} ar aI=>by obtain⟨B,F⟩:=aI;simp only[vG,vq,c6,oI] at B F;have:=ar.DS F.2 B.2;have ah:=F.1;omega
 have B0:∀{t:ai},GT 5 t->t.wt<=185:=λ{t} h=>by have:=h.DS;have:=h.gi;omega
 have anq:∀f∈x.funcs,∀a∈f.args,a.gM.wt<=10200000:=λf aI a aD=>by
  cases q:a.gM.zero with
  |true=>rw[aaT q];decide
  |false=>exact YP ((g.f9 f aI).lb a aD).vg ((F7 f aI).1 a aD q)
 have agb:∀f∈x.funcs,f.body.wt<=10200000:=λf aI=>by
  cases q:f.has with
  |true=>exact YP (g.f9 f aI).t0 ((F7 f aI).2 q)
  |false=>have:=me f aI;simp only[Fe,c6,q,Gc] at this;rw[aaT this.2];decide
 have abg:∀{l:List cX},(∀y∈l,mY y)->l.length<=1->cR cX.wt l<=400*1:=λh B=>wz (λy ap=>by have:=(h y ap).len;show 20+36*y.dZ.length+2<=400;omega) B;refine⟨pb pD,by rw[g.qp];decide,λi aH=>by(rw[g.qp] at aH;exact absurd aH AC),by have:=g.df;omega,λs ak=>?_,by have:=g.cH;omega,λs ak=>?_,by have:=g.dh;omega,λs ak=>?_,by have:=g.fj;omega,λs ak=>?_,by have:=g.fP;omega,λs ak=>?_,?_,g.cm ag⟩
 .have:=cB s ak;simp only[HR,c6,f0] at this;have k:=g.dr s ak;exact⟨Oy this.1.1,by have:=k.pl;omega,λN hp=>pb (this.1.2 N hp),by have:=k.f6;omega,λf aI=>⟨pb (this.2 f aI),(k.kq f aI).bK.bL ag,t1 s ak f aI⟩⟩
 .have:=dV s ak;simp only[Hg,c6,f0] at this;have k:=g.c3 s ak;exact⟨Oy this.1.1,by have:=k.pl;omega,λN hp=>pb (this.1.2 N hp),by have:=k.lp;omega,λf aI=>⟨pb (this.2 f aI),by have:=(k.ub f aI).pl;omega,λt z6=>⟨((k.ub f aI).n7 t z6).bL ag,kH s ak f aI t z6⟩⟩⟩
 .have:=gO s ak;simp only[JU,c6,f0] at this;have k:=g.dY s ak;refine⟨Oy this.1,by have:=k.zw;omega,λm hm=>?_⟩;have c3:=k.ua m hm;have n:=this.2 m hm;simp only[JX,c6,qC,oI] at n;exact⟨pb n.1,by have:=c3.iE;omega,λt z6=>⟨(c3.lb t z6).bL ag,(rW s ak m hm).1 t z6⟩,⟨c3.fk.bL ag,(rW s ak m hm).2⟩,n.2.elim (λe=>by rw[e];exact Nk) Ei⟩
 .have:=l3 s ak;simp only[G6,c6] at this;have k:=g.e9 s ak;exact⟨Ei this.1.1,by have:=k.gl;omega,abA this.1.2 k.ge,⟨k.bK.bL ag,xE s ak⟩,by have:=k.eT;omega,λb aoC=>by have:=f0.1 this.2 b aoC;simp only[HV,c6] at this;exact⟨pb this.1,Ei this.2⟩⟩
 .have:=me s ak;simp only[Fe,c6] at this;have k:=g.f9 s ak;refine⟨Oy this.1.1.1,by have:=k.gl;omega,abA this.1.1.2 k.ge,by have:=k.iE;omega,λa aD=>?_,⟨k.fk.bL ag,(Dq s ak).2⟩,λbf=>⟨k.t0.bL ag,(av s ak).2 bf⟩⟩;have n:=f0.1 this.1.2 a aD;simp only[Gw,c6] at n;exact⟨pb n.1,⟨(k.lb a aD).bK.bL ag,(Dq s ak).1 a aD⟩,λcb=>⟨(k.lb a aD).vg.bL ag,(av s ak).1 a aD (by
   cases q:a.gM.zero with
   |false=>rfl
   |true=>exact absurd (pC q).1 cb)⟩⟩
 .have dg:dX Hv x.ea<=2000*10:=y8 (λs ak=>by have k:=g.dr s ak;have:=k.pl;have:cR eF.wt s.fields<=287*6:=wz (λf aI=>by have:=B0 (k.kq f aI).bK;show 100+f.bK.wt+2<=287;omega) k.f6;show cR eF.wt s.fields+(200+20*s.params.length)<=2000;omega) g.df;have ej:dX Hq x.dW<=8000*10:=y8 (λs ak=>by have k:=g.c3 s ak;have:=k.pl;have:cR eP.wt s.cases<=1244*6:=wz (λf aI=>by have:cR ai.wt f.f8<=187*6:=wz (λt al=>by have:=B0 ((k.ub f aI).n7 t al);omega) (k.ub f aI).pl;show 120+cR ai.wt f.f8+2<=1244;omega) k.lp;show cR eP.wt s.cases+(200+20*s.params.length)<=8000;omega) g.cH;have gv:dX IS x.e7<=10000*3:=y8 (λs ak=>by have k:=g.dY s ak;have:cR fW.wt s.fT<=1300*5:=wz (λf aI=>by have c3:=k.ua f aI;have:=B0 c3.fk;have:cR ai.wt f.args<=187*5:=wz (λt al=>by have:=B0 (c3.lb t al);omega) c3.iE;show 150+cR ai.wt f.args+f.fk.wt+2<=1300;omega) k.zw;show cR fW.wt s.fT+200<=10000;omega) g.dh;have kQ:dX Hx x.ed<=2000*30:=y8 (λs ak=>by have k:=g.e9 s ak;have:=abg k.ge k.gl;have:=B0 k.bK;have:cR i3.wt s.binds<=72*5:=wz (λf aI=>ez 72) k.eT;show cR i3.wt s.binds+(200+cR cX.wt s.fg+s.bK.wt)<=2000;omega) g.fj;have n4:dX Ip x.funcs<=62000000*30:=y8 (λs ak=>by have k:=g.f9 s ak;have:=abg k.ge k.gl;have:=B0 k.fk;have:=agb s ak;have:cR cD.wt s.args<=10200300*5:=wz (λa aD=>by have:=B0 (k.lb a aD).bK;have:=anq s ak a aD;show 60+a.bK.wt+a.gM.wt+2<=10200300;omega) k.iE;show 300+cR cX.wt s.fg+cR cD.wt s.args+s.fk.wt+s.body.wt<=62000000;omega) g.fP;omega
def mY.ok{x}(h:mY x):x.ok:=⟨by have:=h.aR;omega,by have:=h.len;omega,λs ak=>by have:=h.dZ s ak;omega⟩
def iC.ok(h:iC x):x.ok:=by
 have b:(1000:Nat)<9223372036854775808:=ag;have n7:∀{l:List bM},(∀s∈l,s.length<=100/\(46:UInt8)∉s/\s≠[65,114,114,97,121])->∀s∈l,s.length<1000:=λh s ak=>by have:=(h s ak).1;omega
 refine⟨by have:=h.kind;omega,by have:=h.rel;omega,by have:=h.aR;omega,by rw[h.qp];decide,λy ap=>by(rw[h.qp] at ap;exact absurd ap AC),by have:=h.df;omega,λy ap=>?_,by have:=h.cH;omega,λy ap=>?_,by have:=h.dh;omega,λy ap=>?_,by have:=h.fj;omega,λy ap=>?_,by have:=h.fP;omega,λy ap=>?_⟩
 .have k:=h.dr y ap;exact⟨by have:=k.since;omega,by have:=k.aR;omega,by have:=k.pl;omega,n7 k.n7,by have:=k.f6;omega,λf aI=>⟨by have:=(k.kq f aI).aR;omega,(k.kq f aI).bK.bL ag⟩⟩
 .have k:=h.c3 y ap;exact⟨by have:=k.since;omega,by have:=k.aR;omega,by have:=k.pl;omega,n7 k.n7,by have:=k.lp;omega,λf aI=>⟨by have:=(k.ub f aI).aR;omega,by have:=(k.ub f aI).pl;omega,λt al=>((k.ub f aI).n7 t al).bL ag⟩⟩
 .have k:=h.dY y ap;exact⟨by have:=k.since;omega,by have:=k.aR;omega,by have:=k.zw;omega,λm hm=>⟨by have:=(k.ua m hm).aR;omega,by have:=(k.ua m hm).iE;omega,λt al=>((k.ua m hm).lb t al).bL ag,(k.ua m hm).fk.bL ag,by have:=(k.ua m hm).vg;omega⟩⟩
 .have k:=h.e9 y ap;exact⟨by have:=k.dZ;omega,by have:=k.gl;omega,λg br=>(k.ge g br).ok,k.bK.bL ag,by have:=k.eT;omega,λb av=>⟨by have:=(k.eD b av).1;omega,by have:=(k.eD b av).2;omega⟩⟩
 .have k:=h.f9 y ap;exact⟨by have:=k.since;omega,by have:=k.aR;omega,by have:=k.gl;omega,λg br=>(k.ge g br).ok,by have:=k.iE;omega,λa aD=>⟨by have:=(k.lb a aD).aR;omega,(k.lb a aD).bK.bL ag,(k.lb a aD).vg.bL ag⟩,k.fk.bL ag,k.t0.bL ag⟩
theorem Ii{α}(w)(c):∀l:List α,dX (λx=>c+w x) l=c*l.length+dX w l
 |[]=>by simp [dX]
 |a::l=>by simp only[dX,Ii w c l,List.length_cons,Nat.mul_succ];omega
def I5{α}(w):∀(l:List α)(x),dX w (l++[x])=dX w l+w x
 |[],x=>by simp [dX]
 |a::l,x=>by simp only[jF,dX,I5 w l x];omega
theorem W7{α}:∀l:List α,dX (λ_=>1) l=l.length
 |[]=>rfl
 |a::l=>by simp only[dX,W7 l,List.length_cons];omega
set_option maxRecDepth 100000
set_option maxHeartbeats 8000000
attribute [local irreducible] jJ mb bj lQ kS nj ie fe
section
variable{C:Nat->cG}{ext:Nat->Option e0}{ab:fD}(Q:Env C ext ab)
include Q
variable{g:Nat}
attribute [local irreducible] cA dw hy
omit Q in
def zZ.imp{f bX bZ oS}(h:zZ C f bX bZ)(ax:∀el z aF,bZ el z aF->oS el z aF):zZ C f bX oS:=λU Z H eE B F=>by obtain⟨el,z,aF,a,am,aq,bh,ah,aE⟩:=h U Z H eE B F;exact⟨el,z,aF,a,am,aq,bh,ax _ _ _ ah,aE⟩
def ae8(br:g / 2=3)(bi:l6 ab):zZ C 6 [.op g ab.W] λel z aF=>el=66/\z=aF.length/\aF=[.op g ab.W,.int 3 0]:=by
 have B:cA [66] (.op g ab.W)=false:=bi.cm br rfl;have F:∀t:b2,cA [66] t=false->dw [66] [.op g ab.W,t]=false:=λt al=>by rw[dw,dw,dw,B,al];rfl
 refine bj.afl (P:=λaF=>aF=[.op g ab.W,.int 3 0]) ?_ (by rw[dw,dw,B];rfl);refine Q.z 6 cY rfl rfl ?_
 (conv=>whnf)
 repeat(refine bn ?_;conv=>whnf)
 exact⟨_,rfl,F _ (by simp only[cA]),rfl⟩
def mg(br:g / 2=3):bj C [44,47,50,57,102,106,109] 3 [.J (.op g ab.W)] [] λv A=>v=.bool true:=by
 refine Q.z 3 (tQ [(0,⟨[2,7,18],[],[],[4]⟩),(2,⟨[8,22],[],[],[4]⟩),(4,⟨[9,26],[],[],[4]⟩),(6,⟨[10,30],[],[],[4]⟩),(8,⟨[31,32],[],[],[4]⟩)]) rfl rfl ?_
 (conv=>whnf)
 repeat(refine bn ?_;conv=>whnf)
 refine aK (Q.LW g) ?_;rintro v A ⟨rfl,rfl⟩
 (conv=>whnf)
 repeat(refine b9 ?_;conv=>whnf)
 refine f4 (iN (λep=>?_) (λep=>?_));rotate_left
 ·(conv=>whnf)
  repeat(refine b9 ?_;conv=>whnf)
  refine aK Q.GM ?_;rintro v A ⟨rfl,rfl⟩
  (conv=>whnf)
  repeat(refine b9 ?_;conv=>whnf)
 .have bi:l6 ab:=⟨Y⟩;have arD:cA [44,47,50,57,102,106,109] (.op g ab.W)=false:=bi.cm br rfl
  (conv=>whnf)
  repeat(refine b9 ?_;conv=>whnf)
  refine⟨zZ.imp (ae8 Q br bi) ?_⟩;rintro el z aF ⟨rfl,rfl,rfl⟩
  (conv=>whnf)
  repeat(refine b9 ?_;conv=>whnf)
  refine aK (bj.bE (l:=[.op g ab.W,.int 3 0]) (fR Q bi 0 2 (mz _) ag ag)) ?_;rintro v A ⟨⟨dc,rfl,w5⟩,bN,gk,rfl⟩
  (conv=>whnf)
  repeat(refine b9 ?_;conv=>whnf)
  refine aK (fR Q bi bN 4 gk ag ag) ?_;rintro v A ⟨⟨cl,rfl,eM⟩,a2,fU,rfl⟩
  (conv=>whnf)
  repeat(refine b9 ?_;conv=>whnf)
  refine aK (ahV Q bi br a2 fU (1+dc) (1+cl) [103,101,111] Y Y Y ag) ?_;rintro v A ⟨x,a3,rfl,I,rfl,eA⟩;show jt [44,47,50,57,102,106,109] _ _ _ _;refine mP trivial ?_;simp(disch:=first|assumption|with_unfolding_all rfl) only[fA,je,dJ,lA,mh,li,k7,mu,lg,la,lR,nC,lD,oZ,iD,mX]
  (conv=>whnf)
  repeat(refine b9 ?_;conv=>whnf)
  refine aK (akq Q x I.ok λau=>aiU au I) ?_;rintro v A ⟨rfl,aI⟩;rcases aI with⟨au,rfl⟩|rfl|⟨s,rfl,rb,z5,apM⟩
  ·(conv=>whnf)
   repeat(refine b9 ?_;conv=>whnf)
   refine aK (agz Q x I.ok) ?_;rintro v A ⟨rfl,b,rfl,av⟩;cases b with
   |true=>rw[amE (av rfl)] at au;cases au
   |false=>
    (conv=>whnf)
    repeat(refine b9 ?_;conv=>whnf)
    refine aK Q.GM ?_;rintro v A ⟨rfl,rfl⟩
    (conv=>whnf)
    repeat(refine b9 ?_;conv=>whnf)
  ·(conv=>whnf)
   repeat(refine b9 ?_;conv=>whnf)
   refine aK Q.GM ?_;rintro v A ⟨rfl,rfl⟩
   (conv=>whnf)
   repeat(refine b9 ?_;conv=>whnf)
  .have m0:(x.lf.map kx.row).length=x.lf.length:=bW;have m1:(x.ea.map ec.row).length=x.ea.length:=bW;have m2:(x.dW.map eg.row).length=x.dW.length:=bW;have m3:(x.e7.map eX.row).length=x.e7.length:=bW;have m4:(x.ed.map fc.row).length=x.ed.length:=bW;have m5:(x.funcs.map dI.row).length=x.funcs.length:=bW;have pD:x.lf.length=0:=by rw[I.qp];rfl
   have dl:=I.df;have cB:=I.cH;have dV:=I.dh;have gO:=I.fj;have l3:=I.fP;have cw:dX (λs:ec=>s.fields.length) x.ea<=6*10:=y8 (λs ak=>(I.dr s ak).f6) dl;have c7:dX (λs:eg=>s.cases.length) x.dW<=6*10:=y8 (λs ak=>(I.c3 s ak).lp) cB;have fu:dX (λs:eX=>s.fT.length) x.e7<=5*3:=y8 (λs ak=>(I.dY s ak).zw) dV;have fh:dX (λs:fc=>s.binds.length) x.ed<=5*30:=y8 (λs ak=>(I.e9 s ak).eT) gO
   (conv=>whnf)
   repeat(refine b9 ?_;conv=>whnf)
   generalize lo:1+(x.lf.map kx.row).length+(x.funcs.map dI.row).length+2*((x.ea.map ec.row).length+(x.dW.map eg.row).length+(x.e7.map eX.row).length+(x.ed.map fc.row).length)=W;refine gG ec.row x.ea 17 (λd (_:Unit)=>[(6,.J (.int 3 (W+dX (λs:ec=>s.fields.length) d)))]) (λ_ _=>[(4,.box 34 9 (.cc x.cells))]) (λ_ _=>True) ⟨(),trivial,by kernel_rfl⟩ (λd _ y r ba ar aV ad _ bC=>?_) (λ_ ba _=>?_)
   .have ta:dX (λs:ec=>s.fields.length) d+y.fields.length<=60:=by rw[ar,AR] at cw;simp only[dX] at cw;omega
    have Cw:(y.fields.map eF.row).length=y.fields.length:=bW;unfold ec.row at ad
    (conv=>whnf)
    repeat((first|refine .yes (cZ.2 aV) ?_|refine⟨aV,⟨_,ad,?_⟩⟩|refine b9 ?_);(conv=>whnf))
    have e:W+dX (λs:ec=>s.fields.length) (d++[y])=W+dX (λs:ec=>s.fields.length) d+(y.fields.map eF.row).length:=by rw[I5,Cw];omega
    exact bC () _ _ trivial (by rw[e];kernel_rfl)
   (conv=>whnf)
   repeat((first|refine .no (lZ _) ?_|refine bn ?_);(conv=>whnf))
   refine gG eg.row x.dW 21 (λd (_:Unit)=>[(6,.J (.int 3 (W+dX (λs:ec=>s.fields.length) x.ea+dX (λs:eg=>s.cases.length) d)))]) (λ_ _=>[(4,.box 34 9 (.cc x.cells))]) (λ_ _=>True) ⟨(),trivial,by kernel_rfl⟩ (λd _ y r ba ar aV ad _ bC=>?_) (λ_ ba _=>?_)
   .have ta:dX (λs:eg=>s.cases.length) d+y.cases.length<=60:=by rw[ar,AR] at c7;simp only[dX] at c7;omega
    have Cw:(y.cases.map eP.row).length=y.cases.length:=bW;unfold eg.row at ad
    (conv=>whnf)
    repeat((first|refine .yes (cZ.2 aV) ?_|refine⟨aV,⟨_,ad,?_⟩⟩|refine b9 ?_);(conv=>whnf))
    have e:W+dX (λs:ec=>s.fields.length) x.ea+dX (λs:eg=>s.cases.length) (d++[y])=W+dX (λs:ec=>s.fields.length) x.ea+dX (λs:eg=>s.cases.length) d+(y.cases.map eP.row).length:=by rw[I5,Cw];omega
    exact bC () _ _ trivial (by rw[e];kernel_rfl)
   (conv=>whnf)
   repeat((first|refine .no (lZ _) ?_|refine bn ?_);(conv=>whnf))
   refine gG eX.row x.e7 25 (λd (_:Unit)=>[(6,.J (.int 3 (W+dX (λs:ec=>s.fields.length) x.ea+dX (λs:eg=>s.cases.length) x.dW+dX (λs:eX=>s.fT.length) d)))]) (λ_ _=>[(4,.box 34 9 (.cc x.cells))]) (λ_ _=>True) ⟨(),trivial,by kernel_rfl⟩ (λd _ y r ba ar aV ad _ bC=>?_) (λ_ ba _=>?_)
   .have ta:dX (λs:eX=>s.fT.length) d+y.fT.length<=15:=by rw[ar,AR] at fu;simp only[dX] at fu;omega
    have Cw:(y.fT.map fW.row).length=y.fT.length:=bW;unfold eX.row at ad
    (conv=>whnf)
    repeat((first|refine .yes (cZ.2 aV) ?_|refine⟨aV,⟨_,ad,?_⟩⟩|refine b9 ?_);(conv=>whnf))
    have e:W+dX (λs:ec=>s.fields.length) x.ea+dX (λs:eg=>s.cases.length) x.dW+dX (λs:eX=>s.fT.length) (d++[y])=W+dX (λs:ec=>s.fields.length) x.ea+dX (λs:eg=>s.cases.length) x.dW+dX (λs:eX=>s.fT.length) d+(y.fT.map fW.row).length:=by rw[I5,Cw];omega
    exact bC () _ _ trivial (by rw[e];kernel_rfl)
   (conv=>whnf)
   repeat((first|refine .no (lZ _) ?_|refine bn ?_);(conv=>whnf))
   refine gG fc.row x.ed 29 (λd (_:Unit)=>[(6,.J (.int 3 (W+dX (λs:ec=>s.fields.length) x.ea+dX (λs:eg=>s.cases.length) x.dW+dX (λs:eX=>s.fT.length) x.e7+dX (λs:fc=>s.binds.length) d)))]) (λ_ _=>[(4,.box 34 9 (.cc x.cells))]) (λ_ _=>True) ⟨(),trivial,by kernel_rfl⟩ (λd _ y r ba ar aV ad _ bC=>?_) (λ_ ba _=>?_)
   .have ta:dX (λs:fc=>s.binds.length) d+y.binds.length<=150:=by rw[ar,AR] at fh;simp only[dX] at fh;omega
    have Cw:(y.binds.map i3.row).length=y.binds.length:=bW;unfold fc.row at ad
    (conv=>whnf)
    repeat((first|refine .yes (cZ.2 aV) ?_|refine⟨aV,⟨_,ad,?_⟩⟩|refine b9 ?_);(conv=>whnf))
    have e:W+dX (λs:ec=>s.fields.length) x.ea+dX (λs:eg=>s.cases.length) x.dW+dX (λs:eX=>s.fT.length) x.e7+dX (λs:fc=>s.binds.length) (d++[y])=W+dX (λs:ec=>s.fields.length) x.ea+dX (λs:eg=>s.cases.length) x.dW+dX (λs:eX=>s.fT.length) x.e7+dX (λs:fc=>s.binds.length) d+(y.binds.map i3.row).length:=by rw[I5,Cw];omega
    exact bC () _ _ trivial (by rw[e];kernel_rfl)
   (conv=>whnf)
   repeat((first|refine .no (lZ _) ?_|refine bn ?_);(conv=>whnf))
   refine ahl s.length 12 (λi (_:Unit)=>[(11,.J (.int 3 (fe (s.take i))))]) (λ_ _=>[(4,.box 34 9 (.cc x.cells))]) (λ_ _=>True) ⟨(),trivial,by kernel_rfl⟩ (λi _ ba aH _ bC=>?_) (λ_ ba _=>?_)
   .have aV:=aH;have b0:fe (s.take i)<=i:=by
     have B:fe (s.take i)<=(s.take i).length:=by unfold fe;exact List.count_le_length
     rw[jC] at B;omega
    have es:s.take (i+1)=s.take i++[s[i]]:=S4 aH
    (conv=>whnf)
    repeat((first|refine⟨aH,⟨_,na aH,?_⟩⟩|refine .yes (cZ.2 aV) ?_|refine⟨aV,⟨_,ad,?_⟩⟩|refine b9 ?_);(conv=>whnf))
    refine fK (λh=>?_) (λh=>?_)
    .have e:fe (s.take (i+1))=fe (s.take i)+1:=by rw[es,f1,show s[i]=10 from HN.1 h];unfold fe;rfl
     (conv=>whnf)
     repeat(refine b9 ?_;conv=>whnf)
     exact bC () _ _ trivial (by rw[e];kernel_rfl)
    .have e:fe (s.take (i+1))=fe (s.take i):=by rw[es,f1,fq _ (λq=>h (by rw[q];rfl)),e2];rfl
     (conv=>whnf)
     repeat(refine b9 ?_;conv=>whnf)
     exact bC () _ _ trivial (by rw[e];kernel_rfl)
   .have e:fe (s.take s.length)=W+dX (λs:ec=>s.fields.length) x.ea+dX (λs:eg=>s.cases.length) x.dW+dX (λs:eX=>s.fT.length) x.e7+dX (λs:fc=>s.binds.length) x.ed:=by rw[H5,z5,<-lo,m0,m1,m2,m3,m4,m5];unfold Lr;rw[Ii (λs:ec=>s.fields.length),Ii (λs:eg=>s.cases.length),Ii (λs:eX=>s.fT.length),Ii (λs:fc=>s.binds.length),W7];omega
    obtain⟨cP,oq⟩:=apM;have aN:s.length=cP.length+1:=by rw[oq,gP];rfl
    (conv=>whnf)
    repeat((first|refine .no (lZ _) ?_|refine bn ?_);(conv=>whnf))
    refine fK (λ_=>?_) (λh=>absurd e h);have c9:s[s.length - 1]?=some 10:=by rw[oq];simp
    (conv=>whnf)
    repeat((first|refine gz.mk Y ?_|refine .no (lZ _) ?_|refine bn ?_);(conv=>whnf))
    refine adO.mk 10 c9 ?_
    (conv=>whnf)
    repeat((first|refine .no (lZ _) ?_|refine bn ?_);(conv=>whnf))
    refine aK Q.GM ?_;rintro v A ⟨rfl,rfl⟩
    (conv=>whnf)
    repeat(refine b9 ?_;conv=>whnf)
end
end Go.Tx
