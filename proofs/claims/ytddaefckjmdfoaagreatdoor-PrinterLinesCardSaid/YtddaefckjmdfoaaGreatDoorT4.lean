/- Part of the proof of PrinterLines. -/
import Derived.Test.YtddaefckjmdfoaaGreatDoorT3
set_option linter.all false
namespace Go.Tx
open Go Go.Ev
section
variable{U:dO}{Z:Nat->Nat}{A:be}{H:bd}{X:aO}
variable{l:ql}{ab:gF}{z:Nat}
def bL.drop{a}(h:bL U Z A H)(iq)(B:U a=none)(F:∀t D,look A t=some D->D.real->Z t≠a):bL U Z A (H.put a iq):=by
 refine⟨λb D av=>?_,h.lt,h.inj,λt D al=>?_⟩
 .have⟨g1,g2⟩:=h.gf b D av;refine⟨?_,g2⟩;rw[bd.si eN eN,g1];intro e;rw[e,B] at av;cases av
 .have:=h.obj t D al;cases D with
  |box el z aF=>have⟨am,g1,g2⟩:=this;exact⟨am,by rw[bd.si eN eN (F t _ al rfl)];exact g1,g2⟩
  |arr el z ab u=>intro ad;have⟨am,g1,g2⟩:=this ad;exact⟨am,by rw[bd.si eN eN (F t _ al ad)];exact g1,g2⟩
def zW(H:bd)(D):(∀a,a<H.next->(H.add D).get a=H.get a)/\(H.add D).get H.next=D/\(H.add D).next=H.next+1:=
 ⟨λa aD=>bd.aef eN aD,bd.ah6 eN,rfl⟩
def aaC{el u}(h:ab≠[]):(eS.arr el z ab u).real:=by
 cases ab with
 |nil=>exact absurd rfl h
 |cons=>cases u<;>rfl
def Ot{s d e z:Nat}{ab:gF}{ct}(aW:bL U Z A ct)(au:ab≠[]){am}(aw:ab.length<=am.cap)(bO:0<z)(al:fI U z am 0 ab):bL U (lI Z d ct.next) ((d,.arr e z ab true)::fL (et d) (rem A d)) (ct.add (.cells am ab.length z e true false))/\cd U (lI Z d ct.next) ((d,.arr e z ab true)::fL (et d) (rem A d)) (.bQ d) (.slice ct.next 0 ab.length 0 true z):=by
 have⟨bN,a2,a3⟩:=zW ct (.cells am ab.length z e true false);refine⟨aW.put (by rw[a3];omega) bN (λ_=>⟨by rw[a3];omega,λ_=>⟨am,by rw[nk];exact a2,aw,bO,al⟩⟩) (λad=>by rw[aaC au] at ad;cases ad),?_⟩;intro eC cI f7 fa K;rw[hO,b3 rfl] at K;cases K;rw[nk];cases ab with
 |nil=>exact absurd rfl au
 |cons=>rfl
def ZX{n e}(aB:l.length=n):∃am,n<=am.cap/\(∀M,M<n->am.row M=l.getD M [])/\∀k,Au e z n l H k=k (.slice H.next 0 n 0 true z) (H.add (.cells am n z e true false)):=by
 have⟨am,B,F⟩:=Uw n;refine⟨am.iJ l 0,by rw[Rows.tH];exact F,λM bb=>?_,λk=>?_⟩
 .rw[Rows.Gk _ _ _ _ Y Y,b3 Y];rfl
 .unfold Au yv;rw[B];simp only;rw[sR,OQ eN]
def pW.D8{z}{am:Ev.Rows}{ab}{l}(h:pW U z ab l)(ad:∀M,M<ab.length->am.row M=l.getD M []):fI U z am 0 ab:=by refine fI.of λM aF bb=>?_;have aV:=(jb.1 bb).1;have⟨B,c,F,ah⟩:=h.2 M aF bb;refine⟨B,?_⟩;rw[jq,ad M aV,oE,F];exact ah
def pW.append{f7 aM}(h:pW U z ab l)(b5:pW U z f7 aM):pW U z (ab++f7) (l++aM):=by
 refine⟨by simp [h.1,b5.1],λM aF bb=>?_⟩;rcases l7 M ab.length with aV|jd
 .rw[uX aV] at bb;rw[uX (by rw[h.1];exact aV)];exact h.2 M aF bb
 .rw[wb jd] at bb;rw[wb (by rw[h.1];exact jd),h.1];exact b5.2 _ aF bb
def Um{d e z b}{ab}{l}(aW:bL U Z A H)(K:pW U z ab l)(bO:0<z)(av:ab.length*b<=2147483647):∃v aq bV,(∀k,sz e z b (.nil .s) ab.length l H k=k v aq)/\bL U bV ((d,.arr e z ab true)::fL (et d) (rem A d)) aq/\eQ X U Z A H U bV ((d,.arr e z ab true)::fL (et d) (rem A d)) aq/\ji (et d) U Z A U bV ((d,.arr e z ab true)::fL (et d) (rem A d))/\cd U bV ((d,.arr e z ab true)::fL (et d) (rem A d)) (.bQ d) v/\(∀s,s≠d->bV s=Z s):=by
 by_cases ad:ab=[]
 .subst ad;refine⟨.nil .s,H,lI Z d H.next,λk=>?_,?_,?_,yG _ _,λel cI f7 u hJ=>?_,λs q=>jH q⟩
  .unfold sz;rw[Ef];rfl
  .exact aW.put (ez _) (λ_ _=>rfl) (λh=>by cases h) (λ_ H=>λh=>by cases h)
  .exact eQ.put aW (ez _) λ_ _=>rfl
  .rw[hO,b3 rfl] at hJ;cases hJ;rfl
 .have dB:Nat.beq ab.length 0=false:=tO λh=>ad (xH.1 h);have⟨am,dl,cB,dV⟩:=ZX (e:=e) (z:=z) (H:=H) K.1;have⟨g1,g2⟩:=Ot (s:=0) (d:=d) (e:=e) aW ad dl bO (K.D8 cB);refine⟨_,_,_,λk=>?_,g1,eQ.put aW (by simp) (zW _ _).1,yG _ _,g2,λs q=>jH q⟩;unfold sz;rw[Ef,dB,mF,show Nat.ble (Nat.mul ab.length b) 2147483647=true from wO av,fz,dV]
end
section
variable{U:dO}{Z:Nat->Nat}{H:bd}{X:aO}{S:c5}{L:cv}{T:b4}
variable{aq:bd}{dM:c5}{d s t:Nat}{f g:a1->a1}{A bw:be}{bh LD:dO}{bV KL:Nat->Nat}
def ji.comp{H7}(h:ji f U Z A bh bV bw)(b5:ji g bh bV bw LD KL H7):ji (λe=>g (f e)) U Z A LD KL H7:=λe v x=>b5 _ _ (h e v x)
def agp(f g:a1->a1)(aI:∀e,(match e with|.agg _=>False|.fn _ _ _=>False|_=>True)->(match f e with|.agg _=>False|.fn _ _ _=>False|_=>True))(e:a1):dJ g (dJ f e)=dJ (λe=>g (f e)) e:=by
 cases e with
 |agg l=>simp [dJ,NU]
 |fn h x y=>simp [dJ,NU]
 |J t=>have:=aI (.J t) trivial;simp only[dJ];revert this;cases f (.J t)<;>intro this<;>first|rfl|exact this.elim
 |iy=>have:=aI .iy trivial;simp only[dJ];revert this;cases f .iy<;>intro this<;>first|rfl|exact this.elim
 |bT=>have:=aI .bT trivial;simp only[dJ];revert this;cases f .bT<;>intro this<;>first|rfl|exact this.elim
 |bH s D=>have:=aI (.bH s D) trivial;simp only[dJ];revert this;cases f (.bH s D)<;>intro this<;>first|rfl|exact this.elim
 |bQ s=>have:=aI (.bQ s) trivial;simp only[dJ];revert this;cases f (.bQ s)<;>intro this<;>first|rfl|exact this.elim
 |fF s r D=>have:=aI (.fF s r D) trivial;simp only[dJ];revert this;cases f (.fF s r D)<;>intro this<;>first|rfl|exact this.elim
def po(f:a1->a1):Prop:=∀e,f e=e\/∃t,f e=.J t
def Gt(f:a1->a1)(s:Nat):Prop:=∀D r,f (.bH s D)=.bH s D/\f (.bQ s)=.bQ s/\f (.fF s r D)=.fF s r D
structure fx(X:aO)(d:Nat)(U:dO)(Z:Nat->Nat)(H:bd)(S:c5)(bh:dO)(bV:Nat->Nat)(aq:bd)(dM:c5):Prop where
 ok:bL bh bV dM.A aq
 hZ:eQ X U Z S.A H bh bV dM.A aq
 aH:∀s,s≠d->bV s=Z s
 fresh:∀s,s≠d->look S.A s=none->look dM.A s=none
 mp:∃f:a1->a1,po f/\(∀s,s≠d->look S.A s=none->Gt f s)/\dM.L=S.L.map (dJ f)/\dM.E=S.E.map (dJ f)/\ji f U Z S.A bh bV dM.A
def fx.sy(h:fx X d U Z H S bh bV aq dM):∀l,eW U Z S.A S.L l->eW bh bV dM.A dM.L l:=λl g=>by have⟨f,_,_,B,_,F⟩:=h.mp;rw[B];exact F.o8 g
def fx.rq(h:fx X d U Z H S bh bV aq dM):∀n T,gp U Z S.A n S.E T->gp bh bV dM.A n dM.E T:=λn T g=>by have⟨f,_,_,_,B,F⟩:=h.mp;rw[B];exact F.wh g
def po.id:po id:=λe=>.inl rfl
def po.comp(aI:po f)(br:po g):po λe=>g (f e):=λe=>by
 rcases aI e with h|⟨t,h⟩
 .show g (f e)=e\/∃t,g (f e)=.J t;rw[h];exact br e
 .show g (f e)=e\/∃t,g (f e)=.J t;rw[h];rcases br (.J t) with F|F
  .exact .inr ⟨t,F⟩
  .exact .inr F
def po.atom{f:a1->a1}(aI:po f)(e:a1)(h:match e with|.agg _=>False|.fn _ _ _=>False|_=>True):match f e with|.agg _=>False|.fn _ _ _=>False|_=>True:=by
 rcases aI e with B|⟨t,B⟩
 .rw[B];exact h
 .rw[B];trivial
theorem Wx(aI:po f)(l:bG):(l.map (dJ f)).map (dJ g)=l.map (dJ λe=>g (f e)):=by rw[List.map_map];congr 1;funext e;exact agp f g (λe h=>aI.atom e h) e
def fx.refl(aW:bL U Z S.A H):fx X d U Z H S U Z H S:=
 ⟨aW,eQ.refl _ _ _ _,λ_ _=>rfl,λ_ _ h=>h,id,po.id,λ_ _ _ _ _=>⟨rfl,rfl,rfl⟩,by rw[show(dJ id)=id from uj td];simp,by rw[show(dJ id)=id from uj td];simp,λ_ _ h=>h⟩
def fx.trans{ab1 YW}(h:fx X d U Z H S bh bV aq dM)(b5:fx X d bh bV aq dM LD KL ab1 YW):fx X d U Z H S LD KL ab1 YW:=by
 have⟨f,gN,gj,hU,iw,jm⟩:=h.mp;have⟨g,g1,g2,g3,g4,g5⟩:=b5.mp;refine⟨b5.ok,h.hZ.trans b5.hZ,λs q=>(b5.aH s q).trans (h.aH s q),λs q e=>b5.fresh s q (h.fresh s q e),λe=>g (f e),gN.comp g1,λs q e D r=>?_,?_,?_,jm.comp g5⟩
 .have⟨bN,a2,a3⟩:=gj s q e D r;have⟨cw,c7,fu⟩:=g2 s q (h.fresh s q e) D r;exact⟨by show g (f _)=_;rw[bN,cw],by show g (f _)=_;rw[a2,c7],by show g (f _)=_;rw[a3,fu]⟩
 .rw[g3,hU,Wx gN]
 .rw[g4,iw,Wx gN]
def fx.of_map(hm:ji f U Z S.A bh bV bw)(ok:bL bh bV bw aq)(hZ:eQ X U Z S.A H bh bV bw aq)(aH:∀s,s≠d->bV s=Z s)(fresh:∀s,s≠d->look S.A s=none->look bw s=none)(aR:po f)(oT:∀s,s≠d->look S.A s=none->Gt f s):fx X d U Z H S bh bV aq ⟨S.L.map (dJ f),S.E.map (dJ f),bw⟩:=⟨ok,hZ,aH,fresh,f,aR,oT,rfl,rfl,hm⟩
def yx(s):po (et s):=λe=>by
 cases e with
 |bH t D=>simp only[et];cases Nat.beq t s<;>first|exact .inl rfl|exact .inr ⟨_,rfl⟩
 |bQ t=>simp only[et];cases Nat.beq t s<;>first|exact .inl rfl|exact .inr ⟨_,rfl⟩
 |fF t r D=>simp only[et];cases Nat.beq t s<;>first|exact .inl rfl|exact .inr ⟨_,rfl⟩
 |_=>exact .inl rfl
def yV(h:t≠s):Gt (et s) t:=λD r=>by simp only[et,tO h];exact⟨trivial,trivial,trivial⟩
def Pp(X):po (ip X):=λe=>by
 cases e with
 |J t=>exact .inr ⟨_,rfl⟩
 |_=>exact .inl rfl
def UU(X)(t):Gt (ip X) t:=λD r=>⟨rfl,rfl,rfl⟩
def Sn(D):∃t,EN D=.J t:=by cases D<;>exact⟨_,rfl⟩
def anc(A)(aX):po (lk A aX):=λe=>by
 cases e with
 |bH t D=>
  simp only[lk];cases look A t
  .exact .inl rfl
  .exact .inr (Sn _)
 |bQ t=>
  simp only[lk];cases look A t
  .exact .inl rfl
  .exact .inr (Sn _)
 |fF t r D=>
  simp only[lk];cases look A t
  .exact .inl rfl
  .exact .inr (Sn _)
 |_=>exact .inl rfl
def apg{aX}(h:look A t=none):Gt (lk A aX) t:=λD r=>by simp only[lk,h];exact⟨trivial,trivial,trivial⟩
def Zp(h:look A t=none):look (fL (et s) (rem A s)) t=none:=by
 rw[nQ,rQ];by_cases e:t=s
 .rw[b3 e];rfl
 .rw[bA e,h];rfl
def zh{D}(dB:t≠s)(h:look A t=none):look ((s,D)::fL (et s) (rem A s)) t=none:=by rw[hO,bA dB];exact Zp h
def fx.kill(aW:bL U Z S.A H)(s)(ak:s=d\/look S.A s≠none):fx X d U Z H S U Z H (S.kill s):=
 fx.of_map UM (aW.kill s) ⟨λ_ _ h _=>h,ez _,λ_ _ _ _=>rfl,λ_ _ h=>.inl h,λt D al ad=>by
  rw[nQ,rQ] at al;by_cases e:t=s
  .rw[b3 e] at al;cases al
  .rw[bA e] at al;cases az:look S.A t with
   |none=>rw[az] at al;cases al
   |some cQ=>rw[az] at al;cases al;rw[lJ] at ad;exact .inr ⟨t,cQ,az,ad,rfl,λh=>by rw[Bl];exact h⟩⟩ (λ_ _=>rfl) (λt _ h=>Zp h) (yx s)
  λt al h=>yV λe=>by rcases ak with rfl|ak<;>first|exact al e|exact ak (by rw[<-e];exact h)
def fx.ft(aW:bL U Z S.A H)(aX):fx X d U Z H S (hQ U Z S.A H aX) Z H (S.ft aX):=by
 cases aX with
 |nil=>rw[TV];exact fx.refl aW
 |cons a aX=>exact fx.of_map (RA aW) aW.ft (eQ.ft aW) (λ_ _=>rfl) (λs _ h=>by rw[nQ,uN,h];cases cr s (a::aX)<;>rfl) (anc _ _) λs _ h=>apg (by rw[Ha,h];cases cr s (a::aX)<;>rfl)
def wJ:∀{l}{t},cr t l=true↔t∈l
 |[],t=>by simp [cr]
 |a::l,t=>by
  simp only[cr];cases q:Nat.beq a t with
  |true=>have:=cF.1 q;subst this;simp
  |false=>
   simp only[wJ,fS];have:=tC q;constructor
   .exact .inr
   .rintro(h|h)
    .exact absurd h.symm this
    .exact h
def anL{l:di}{n}(h:fQ l n):l.length=n:=cF.1 h
def am9{d e z b:Nat}{a6:b2}{sv:bl}{ab:gF}{l:ql}{r:a1×c5}(aW:bL U Z S.A H)(h:(match rv a6&&Nat.beq (wn a6) (2*e+1)&&fQ (ib (jl a6) 0) z&&cr e (ev X)&&Nat.ble (((jl a6).length+ab.length)*b) sn with
 |true=>some (a1.bQ d,(S.bz [e]).put d (.arr e z ((jl a6++ab).map λr=>r.map (i7 [e])) true))
 |false=>match rv a6&&Nat.beq (wn a6 % 2) 1&&Nat.beq (jl a6).length 0&&Nat.ble (ab.length*b) sn with
  |true=>some (.bQ d,S.put d (.arr e z ab true))
  |false=>none)=some r)(I:cd U Z S.A (.J a6) sv)(K:pW U z ab l)(bO:0<z):
 ∃v aq bh bV,(∀k,sz e z b sv ab.length l H k=k v aq)/\fx X d U Z H S bh bV aq r.2/\cd bh bV r.2.A r.1 v:=by
 cases q:(rv a6&&Nat.beq (wn a6) (2*e+1)&&fQ (ib (jl a6) 0) z&&cr e (ev X)&&Nat.ble (((jl a6).length+ab.length)*b) sn) with
 |false=>
  rw[q] at h;simp only at h;obtain⟨q,rfl⟩:=gJ h;simp only[c6] at q;obtain⟨⟨⟨bq,aS⟩,bU⟩,cU⟩:=q;have aS:=cF.1 aS;have bU:jl a6=[]:=xH.1 (cF.1 bU);rw[cd.J,Ek bq,bU] at I;simp only[bp] at I;have au:sv=.nil .s:=by
   rcases I with⟨_,I|⟨I,_⟩⟩|⟨a,i,c,u,z,am,n,el,fa,dK,g1,g2,g3,g4,g6,g5,gA,j4⟩
   .exact I
   .omega
   .exact absurd rfl (j4 aS).1
  subst au;obtain⟨v,aq,bV,g1,g2,g3,g4,g5,g6⟩:=Um (d:=d) (e:=e) aW K bO (dn.1 cU);exact⟨v,aq,U,bV,g1,fx.of_map g4 g2 g3 g6 (λs q e=>zh q e) (yx d) λs q _=>yV q,g5⟩
 |true=>
  rw[q] at h;cases h;simp only[c6] at q;obtain⟨⟨⟨⟨bq,aS⟩,bU⟩,cU⟩,eI⟩:=q;have aS:=cF.1 aS;have bU:=anL bU;have av:((jl a6).length+ab.length)*b<=2147483647:=dn.1 eI;rw[cd.J,Ek bq,aS] at I;generalize jl a6=ey at I bU av ⊢;have ad:ey≠[]:=by intro aZ;rw[aZ] at bU;have:(0:Nat)=z:=bU;omega
  simp only[bp] at I;rcases I with⟨I,_⟩|⟨a,i,c,u,cI,am,n,el,fa,dK,au,aI,g3,eL,g6,nR,gA,j4⟩
  .exact absurd I ad
  obtain⟨-,rfl,rfl,rfl,rfl,rfl,rfl,KF⟩:=j4 Y;have JR:el=e:=Y;subst JR;have Sf:cI=z:=by
   cases ey with
   |nil=>exact absurd rfl ad
   |cons fG ey=>simp only[fI] at nR;have:fG.length=z:=bU;omega
  subst Sf;obtain⟨cQ,jU⟩:=aW.gf _ _ aI;obtain⟨p9,dz,gg,mg,vL⟩:=X5 am (ey.length+ab.length);have fy:=K.1;let iv:dO:=λb=>match U b with
   |some D=>if l1 D=el then none else some D
   |none=>none
  have nh:∀b D,iv b=some D->U b=some D/\l1 D≠el:=by
   intro b D av;have av:(match U b with|some D=>if l1 D=el then none else some D|none=>none)=some D:=av;cases B:U b with
   |none=>rw[B] at av;cases av
   |some cQ=>
    rw[B] at av;simp only at av;by_cases F:l1 cQ=el
    .rw[b3 F] at av;cases av
    .rw[bA F] at av;cases av;exact⟨rfl,F⟩
  have hle:U.iz [el] iv:=by intro b D av I;show(match U b with|some D=>if l1 D=el then none else some D|none=>none)=some D;rw[av];simp only;rw[bA];intro F;rw[F] at I;simp only[cr,fY rfl] at I;cases I
  have dB:∀b D,iv b=some D->b≠a:=by intro b D av aZ;obtain⟨B,F⟩:=nh b D av;rw[aZ,aI] at B;cases B;exact F rfl
  have AN:∀s D,look S.A s=some D->D.real=true->Z s≠a:=by intro s D B F aZ;have:=(aW.lt s D B F).2;rw[aZ,aI] at this;cases this
  have nM:bL iv Z (nm [el] S.A) (H.put a .dead):=by
   refine aW.bz hle (λb D av=>?_) (ez _) λs D B F=>⟨bd.si eN eN (AN s D B F),?_⟩
   .have B:=aW.gf b D (nh b D av).1;exact⟨by rw[bd.si eN eN (dB b D av)];exact B.1,B.2⟩
   .cases ah:iv (Z s) with
    |none=>rfl
    |some bs=>have:=(nh _ _ ah).1;rw[(aW.lt s D B F).2] at this;cases this
  have yP:fx X d U Z H S iv Z (H.put a .dead) (S.bz [el]):=by
   refine fx.of_map (Rc hle) nM ⟨λb D av I=>hle b D av ?_,ez _,λb zq nr y3=>bd.si eN eN ?_,λb D av=>.inl (nh b D av).1,λs D B F=>.inr ?_⟩ (λ_ _=>rfl) (λs _ h=>by rw[w4,h];rfl) (Pp _) λs _ _=>UU _ s
   .cases aE:cr (l1 D) [el] with
    |false=>rfl
    |true=>have:=wJ.1 aE;simp only[iF] at this;rw[this,cU] at I;cases I
   .intro aZ;have:=y3 _ (by rw[aZ];exact aI);rw[show l1 (gB.cells am ey.length cI el true false)=el from rfl,cU] at this;cases this
   .rw[w4] at B;cases az:look S.A s with
    |none=>rw[az] at B;cases B
    |some cQ=>rw[az] at B;cases B;rw[uZ] at F;exact⟨s,cQ,az,F,rfl,λh=>by rw[NV];exact h⟩
  have amx:=nR.bz hle;have hJ:pW iv cI (ab.map λr=>r.map (i7 [el])) l:=by
   refine⟨by rw[dt];exact K.1,λM aF bb=>?_⟩;rw[t7] at bb;cases B:ab[M]? with
   |none=>rw[B] at bb;cases bb
   |some fG=>rw[B] at bb;cases bb;obtain⟨eY,c,ex,kd⟩:=K.2 M fG B;exact⟨by rw[dt];exact eY,c,ex,kd.bz hle⟩
  have D8:fI iv cI (p9.iJ l ey.length) 0 ((ey++ab).map λr=>r.map (i7 [el])):=by
   rw[qn];refine fI.of λM aF bb=>?_;have MP:=(jb.1 bb).1;rw[gP,dt,dt] at MP;rw[jq,Rows.Gk _ _ _ _ Y Y];rcases l7 M ey.length with TB|jd
   .rw[uX (by rw[dt];exact TB)] at bb;rw[bA Y,vL M Y];have:=amx.get M bb;rwa [jq] at this
   .rw[wb (by rw[dt];exact jd),dt] at bb;rw[b3 Y];obtain⟨eY,c,ex,kd⟩:=hJ.2 _ aF bb;rw[oE,ex];exact⟨eY,kd⟩
  have wC:((ey++ab).map λr=>r.map (i7 [el])).length=ey.length+ab.length:=by simp
  obtain⟨g1,g2⟩:=Ot (s:=0) (d:=d) (e:=el) (ab:=(ey++ab).map λr=>r.map (i7 [el])) nM (by simp [ad]) (am:=p9.iJ l ey.length) (by rw[Rows.tH,wC];omega) bO D8;have aU:eQ X iv Z (S.bz [el]).A (H.put a .dead) iv (lI Z d (H.put a .dead).next) _ _:=eQ.put (s:=d) (D:=.arr el cI ((ey++ab).map λr=>r.map (i7 [el])) true) nM (by simp) (zW (H.put a .dead) (.cells (p9.iJ l ey.length) ((ey++ab).map λr=>r.map (i7 [el])).length cI el true false)).1;refine⟨_,_,iv,_,λk=>?_,yP.trans (fx.of_map (yG _ _) g1 aU (λs q=>jH q) (λs q e=>zh q e) (yx d) λs q _=>yV q),g2⟩;subst au;unfold sz;rw[yF,pN,cQ];show a7 false false (a7 (Nat.beq el el) (a7 (Nat.beq cI cI) (a7 (Nat.beq cI cI) (e5 (Nat.add ey.length ab.length) λbT=>a7 (Nat.ble (Nat.mul bT b) 2147483647)
   (a7 true (a7 true (a7 (Nat.beq 0 0) (a7 (Nat.beq 0 0) (a7 (Nat.beq ey.length ey.length) (grow am bT λam=>uB l am ey.length λam=>qq H a .dead λH=>sJ H (.cells am bT cI el true false) λa H=>k (.slice a 0 bT 0 true cI) H) false) false) false) false) _) false) false) false) false)=_
  rw[mF,fY rfl,fY rfl,fz,fz,fz,gT,show Nat.ble (Nat.mul (Nat.add ey.length ab.length) b) 2147483647=true from wO av,fz,fz,fz,fY rfl,fY rfl,fz,fz,fz];show grow am (ey.length+ab.length) _=_;rw[dz,sR,tf,OQ eN,wC];rfl
def amy{d e z b}{x}{sv}{ab:gF}{l}{r}(aW:bL U Z S.A H)(h:yX X S d e z b x ab=some r)(I:cd U Z S.A x sv)(K:pW U z ab l)(bO:0<z):∃v aq bh bV,(∀k,sz e z b sv ab.length l H k=k v aq)/\fx X d U Z H S bh bV aq r.2/\cd bh bV r.2.A r.1 v:=by
 unfold yX at h;split at h
 .exact am9 aW h I K bO
 .obtain⟨q,rfl⟩:=gJ h;simp only[cd,cN] at I;subst I;obtain⟨v,aq,bV,g1,g2,g3,g4,g5,g6⟩:=Um (d:=d) (e:=e) aW K bO (dn.1 q);exact⟨v,aq,U,bV,g1,fx.of_map g4 g2 g3 g6 (λs q e=>zh q e) (yx d) λs q _=>yV q,g5⟩
 .rename_i s;split at h
  .rename_i ci cI ey qe;obtain⟨q,rfl⟩:=gJ h;simp only[c6] at q;have ar:=cF.1 q.1.1;have JB:=cF.1 q.1.2;subst ar JB;have av:(ey.length+ab.length)*b<=2147483647:=dn.1 q.2;have au:=I _ _ _ _ qe;have yP:=fx.kill (X:=X) (d:=d) (S:=S) aW s (.inr (by rw[qe];exact nofun));by_cases ad:ey=[]
   .subst ad;have au:sv=.nil .s:=au;subst au;obtain⟨v,aq,bV,g1,g2,g3,g4,g5,g6⟩:=Um (d:=d) (e:=e) yP.ok K bO (by simpa using av);exact⟨v,aq,U,bV,g1,yP.trans (fx.of_map g4 g2 g3 g6 (λs q e=>zh q e) (yx d) λs q _=>yV q),g5⟩
   .have nT:=aaC (el:=e) (z:=z) (u:=true) ad;obtain⟨am,cQ,eL,jU,nR⟩:=aW.obj s _ qe nT;have aV:=aW.lt s _ qe nT;have au:sv=.slice (Z s) 0 ey.length 0 true z:=by
     cases ey with
     |nil=>exact absurd rfl ad
     |cons=>exact au
    obtain⟨p9,dz,gg,mg,vL⟩:=X5 am (ey.length+ab.length);have fy:=K.1;have nM:bL U Z (S.kill s).A (H.put (Z s) .dead):=by
     refine yP.ok.drop .dead aV.2 λt D al Xq aZ=>?_;have al:look (fL (et s) (rem S.A s)) t=some D:=al;rw[nQ,rQ] at al;by_cases aN:t=s
     .rw[b3 aN] at al;cases al
     .rw[bA aN] at al;cases az:look S.A t with
      |none=>rw[az] at al;cases al
      |some eL=>rw[az] at al;cases al;rw[lJ] at Xq;exact aN (aW.inj t s eL _ az qe Xq nT aZ)
    have D8:fI U z (p9.iJ l ey.length) 0 (ey++ab):=by
     refine fI.of λM aF bb=>?_;have MP:=(jb.1 bb).1;rw[gP] at MP;rw[jq,Rows.Gk _ _ _ _ Y Y];rcases l7 M ey.length with TB|jd
     .rw[uX TB] at bb;rw[bA Y,vL M Y];have:=nR.get M bb;rwa [jq] at this
     .rw[wb jd] at bb;rw[b3 Y];obtain⟨eY,c,ex,kd⟩:=K.2 _ aF bb;rw[oE,ex];exact⟨eY,kd⟩
    obtain⟨g1,g2⟩:=Ot (s:=s) (d:=d) (e:=e) (ab:=ey++ab) nM (by simp [ad]) (am:=p9.iJ l ey.length) (by rw[Rows.tH,gP];omega) bO D8;have aU:eQ X U Z (S.kill s).A (H.put (Z s) .dead) U (lI Z d (H.put (Z s) .dead).next) _ _:=eQ.put (s:=d) (D:=.arr e z (ey++ab) true) nM (by simp) (zW (H.put (Z s) .dead) (.cells (p9.iJ l ey.length) (ey++ab).length z e true false)).1;have cj:eQ X U Z S.A H U Z (S.kill s).A (H.put (Z s) .dead):=by refine⟨λ_ _ h _=>h,ez _,λa aD ak _=>bd.si eN eN λe=>ak s _ qe nT rfl e.symm,λ_ _ h=>.inl h,yP.hZ.eO⟩
    have akv:fx X d U Z H S U Z (H.put (Z s) .dead) (S.kill s):=⟨nM,cj,yP.aH,yP.fresh,yP.mp⟩;refine⟨_,_,U,_,λk=>?_,akv.trans (fx.of_map (yG _ _) g1 aU (λs q=>jH q) (λs q e=>zh q e) (yx d) λs q _=>yV q),g2⟩;subst au;unfold sz;rw[yF,pN,cQ];show a7 false false (a7 (Nat.beq e e) (a7 (Nat.beq z z) (a7 (Nat.beq z z) (e5 (Nat.add ey.length ab.length) λbT=>a7 (Nat.ble (Nat.mul bT b) 2147483647)
     (a7 true (a7 true (a7 (Nat.beq 0 0) (a7 (Nat.beq 0 0) (a7 (Nat.beq ey.length ey.length) (grow am bT λam=>uB l am ey.length λam=>qq H (Z s) .dead λH=>sJ H (.cells am bT z e true false) λa H=>k (.slice a 0 bT 0 true z) H) false) false) false) false) _) false) false) false) false)=_
    rw[mF,fY rfl,fY rfl,fz,fz,fz,gT,show Nat.ble (Nat.mul (Nat.add ey.length ab.length) b) 2147483647=true from wO av,fz,fz,fz,fY rfl,fY rfl,fz,fz,fz];show grow am (ey.length+ab.length) _=_;rw[dz,sR,tf,OQ eN,gP];rfl
  .rename_i ci cI ey qe;obtain⟨q,rfl⟩:=gJ h;simp only[c6,AP] at q;have ar:=cF.1 q.1.1.1.1;have JB:=cF.1 q.1.1.1.2;subst ar JB;have av:(ey.length+ab.length)*b<=2147483647:=dn.1 q.1.1.2;have Gd:=cZ.1 q.1.2;have au:=I _ _ _ _ qe;have nT:(eS.arr e z ey false).real=true:=by cases ey<;>rfl
   obtain⟨am,cQ,eL,jU,nR⟩:=aW.obj s _ qe nT;have au:sv=.slice (Z s) 0 ey.length ey.length false z:=by cases ey<;>exact au
   obtain⟨kK,dc,cl⟩:=abE (A:=S.A) (n:=0) nR Y;have m9:=cl.append K;obtain⟨lm,dl,cB,dV⟩:=ZX (e:=e) (z:=z) (n:=ey.length+ab.length) (H:=H) (l:=kK++l) (by rw[m9.1,gP]);have dB:ey++ab≠[]:=by intro h;rw[List.append_eq_nil_iff] at h;rw[h.2] at Gd;simp at Gd
   obtain⟨g1,g2⟩:=Ot (s:=s) (d:=d) (e:=e) aW dB (am:=lm) (by rw[gP];exact dl) bO (m9.D8 λM bb=>cB M (by rw[gP] at bb;exact bb));refine⟨_,_,U,_,λk=>?_,fx.of_map (yG _ _) g1 (eQ.put aW (by simp) (zW _ _).1) (λs q=>jH q) (λs q e=>zh q e) (yx d) λs q _=>yV q,g2⟩;subst au;unfold sz;rw[yF,pN,cQ];show a7 false false (a7 (Nat.beq e e) (a7 (Nat.beq z z) (a7 (Nat.beq z z) (e5 (Nat.add ey.length ab.length) λbT=>a7 (Nat.ble (Nat.mul bT b) 2147483647)
    (a7 false _ (a7 false false (a7 (Nat.ble bT ey.length) _ (a7 (Nat.ble (0+ey.length) ey.length) (ya am ey.length 0 λkK=>nx kK l λl=>Au e z bT l H k) false)))) false) false) false) false)=_
   rw[mF,fY rfl,fY rfl,fz,fz,fz,gT,show Nat.ble (Nat.mul (Nat.add ey.length ab.length) b) 2147483647=true from wO av,fz,mF,mF,
    show Nat.ble (Nat.add ey.length ab.length) ey.length=false from aor (Y:ey.length<ey.length+ab.length),mF,wO (Y:0+ey.length<=ey.length),fz,dc,qM]
   show Au e z (ey.length+ab.length) (kK++l) H k=_;rw[dV,gP]
  .cases h
 .cases h
end
def bj(C:Nat->cG)(X:aO)(f:Nat)(args:bG)(A:be)(bZ:b2->be->Prop):Prop:=
 ∀(U:dO)(Z:Nat->Nat)(H:bd)(eE:cv),bL U Z A H->eW U Z A args eE->
  ∃r bw v aq bh bV,bZ r bw/\(∃cy,∀m,cy<=m->∀k,C m f eE H k=k (.val v) aq)/\bL bh bV bw aq/\eQ X U Z A H bh bV bw aq/\bp bh r v/\∀s D,look A s=some D->bV s=Z s
def F2(P:dy)(t:TypeId)(N v:b2)(bX:di)(dP:be)(bZ:di->be->Prop):Prop:=
 ∀(U:dO)(Z:Nat->Nat)(H:bd)(k8 nY:bl)(xD:cv),bL U Z dP H->bp U N k8->bp U v nY->cJ U bX xD->
  ∃mI jX aq bh bV,bZ mI jX/\(∀k,(oy P t).f k8 nY H k=k aq)/\bL bh bV jX aq/\eQ [nJ N / 4] U Z dP H bh bV jX aq/\(∀s D,look dP s=some D->bV s=Z s)/\cJ bh mI xD
variable{A:be}
def F2.imp{P N v bX dP bZ oS}{t}(h:F2 P t N v bX dP bZ)(ax:∀bX dP,bZ bX dP->oS bX dP):F2 P t N v bX dP oS:=λU Z H k8 nY xD B F ah aE=>by have⟨mI,jX,aq,bh,bV,Bf,g⟩:=h U Z H k8 nY xD B F ah aE;exact⟨mI,jX,aq,bh,bV,ax _ _ Bf,g⟩
def zZ(C:Nat->cG)(f:Nat)(bX:di)(bZ:Nat->Nat->di->Prop):Prop:=
 ∀(U:dO)(Z:Nat->Nat)(H:bd)(eE:cv),bL U Z [] H->cJ U bX eE->
  ∃el z aF a am aq bh,bZ el z aF/\(∃cy,∀m,cy<=m->∀k,C m f eE H k=k (.val (.ptr a 0 0 z)) aq)/\U.le bh/\H.next<=aq.next/\(∀b,b<H.next->aq.get b=H.get b)/\(∀b D,bh b=some D->aq.get b=D/\b<aq.next)/\
   (∀b D,bh b=some D->U b=some D\/H.next<=b)/\H.next<=a/\a<aq.next/\bh a=none/\aq.get a=.cells am 1 z el false false/\1<=am.cap/\0<z/\aF.length=z/\cJ bh aF (am.row 0)
def lQ(body:(bG->be->Prop)->bG->be->Prop):Nat->bG->be->Prop
 |0=>λ_ _=>False
 |n+1=>body (lQ body n)
def dq(C:Nat->cG):AZ Prop where
 fail:=False
 test:=lH
 call X g da A k:=∃f bY bJ,g=.fn f bY bJ/\bj C X f (bY.map .J++(da++bJ.map .J)) A k
 loop body E A:=∃n,lQ body n E A
 ii P t N v bX dP k:=F2 P t N v bX dP k
 acS g bX k:=∃f bY bJ,g=.fn f bY bJ/\zZ C f (bY++(bX++bJ)) k
def Xt{C b}{x y}(h:(dq C).test b x y):(b/\x)\/(b=false/\y):=by
 rcases h with⟨h,I⟩|⟨h,ap⟩
 .exact .inl ⟨h,I⟩
 .exact .inr ⟨h,ap⟩
def kk{C}{α}{D:Option α}{k}(h:hs (dq C) D k):∃x,D=some x/\k x:=by
 cases D with
 |none=>exact h.elim
 |some x=>exact⟨x,rfl,h⟩
section
variable{C:Nat->cG}{U:dO}{Z:Nat->Nat}{H:bd}{S:c5}{L:cv}{T:b4}
def eW.append:∀{a b}{l m},eW U Z A a l->eW U Z A b m->eW U Z A (a++b) (l++m)
 |[],_,_,_,h,b5=>by simp only[eW] at h;subst h;exact b5
 |e::a,_,_,_,h,b5=>by obtain⟨v,aM,rfl,g,h⟩:=h;exact⟨v,_,rfl,g,eW.append h b5⟩
def cJ.o8{l aM}(h:cJ U l aM):eW U Z A (l.map .J) aM:=cd.d8 h.qG
def Y3{r aX}(aW:bL U Z S.A H)(ad:∀i,r i=false):∀{args:bG}{i:Nat}{da:bG}{eE:cv},kG r [] (keeps S.A aX) i args=some da->eW U Z S.A args eE->∃bX,da=bX.map .J/\cJ (hQ U Z S.A H aX) bX eE
 |[],i,da,eE,h,au=>by simp only[kG,Option.some.injEq] at h;subst h;simp only[eW] at au;subst au;exact⟨[],rfl,.nil⟩
 |e::args,i,da,eE,h,au=>by
  obtain⟨v,aM,rfl,g1,g2⟩:=au;have h:c7 (pR (keeps S.A aX) e) (kG r [] (keeps S.A aX) (i+1) args) (λt r=>some (.J t::r))=some da:=by unfold kG at h;rw[ad i] at h;exact h
  have⟨t,iO,B,F,h⟩:=rU h;cases h;obtain⟨bX,rfl,g3⟩:=Y3 aW ad F g2;exact⟨t::bX,rfl,.cons (MY aW B g1) g3⟩
def ahe{t v bh}(h:yS t)(au:bp U t v):bp bh t v:=by
 cases t<;>simp only[yS] at h<;>try(cases h;done)
 all_goals first
  |(simp only[bp] at au ⊢;exact au)
  |skip
 rename_i l;simp only[bp] at au ⊢;obtain⟨aM,e,g⟩:=au;refine⟨aM,e,?_⟩;clear e;induction l generalizing aM with
 |nil=>simpa only[cJ] using g
 |cons t l bB=>simp only[An,c6] at h;obtain⟨v,ab5,rfl,g1,g2⟩:=g.inv;refine .cons ?_ (bB h.2 ab5 g2);cases t<;>first|(exact absurd h.1 x4)|(simp only[bp] at g1 ⊢;exact g1)
def Lp{f}{bY bJ:di}{da:bG}{bZ}{aX}{args:bG}(ak:bj C [] f (bY.map .J++(da++bJ.map .J)) [] bZ)(aD:kG (λ_=>false) [] (keeps S.A aX) 0 args=some da):∀(U)(Z)(H)(hH da cC),bL U Z S.A H->cJ U bY hH->eW U Z S.A args da->cJ U bJ cC->∃r bw v aq bh,bZ r bw/\(∃cy,∀m,cy<=m->∀k,C m f (hH++(da++cC)) H k=k (.val v) aq)/\bp bh r v/\(hQ U Z S.A H aX).le bh/\H.next<=aq.next/\(∀a,a<H.next->aq.get a=H.get a)/\(∀a D,bh a=some D->aq.get a=D/\a<aq.next)/\(∀a D,bh a=some D->hQ U Z S.A H aX a=some D\/H.next<=a):=by
 intro U Z H hH eE cC aW I p3 ap;obtain⟨bX,rfl,BI⟩:=Y3 aW (λ_=>rfl) aD p3;have hle:=rr (aX:=aX) aW;have BM:bL (hQ U Z S.A H aX) Z [] H:=⟨aW.ft.gf,λs D h=>(by cases h),λs cP D bs h=>(by cases h),λs D h=>(by cases h)⟩;have m9:eW (hQ U Z S.A H aX) Z [] (bY.map .J++(bX.map .J++bJ.map .J)) (hH++(eE++cC)):=(I.z9 hle).o8.append (BI.o8.append (ap.z9 hle).o8);have⟨r,bw,v,aq,bh,bV,cb,B,F,ah,aE,_⟩:=ak _ Z H _ BM m9;refine⟨r,bw,v,aq,bh,cb,B,aE,λa D ay=>ah.le a D ay rfl,ah.next,λa aD=>ah.same a aD (λs D h=>(by cases h)) λ_ _=>rfl,F.gf,λa D ay=>?_⟩;rcases ah.new a D ay with h|h|⟨s,_,h,_⟩|⟨_,_,h⟩
 .exact .inl h
 .exact .inr h
 .cases h
 .cases h
def aoi{X}{d}{aX}{aq:bd}{bh}(aW:bL U Z S.A H)(hle:(hQ U Z S.A H aX).le bh)(aB:H.next<=aq.next)(br:∀a,a<H.next->aq.get a=H.get a)(aI:∀a D,bh a=some D->aq.get a=D/\a<aq.next)(pK:∀a D,bh a=some D->hQ U Z S.A H aX a=some D\/H.next<=a):fx X d U Z H S bh Z aq (S.ft aX):=by
 have bP:=fx.ft (X:=X) (d:=d) (S:=S) aW aX;have ze:∀{A:be},ji id (hQ U Z S.A H aX) Z A bh Z A:=λ{A} e v h=>by
  cases e with
  |J t=>exact bp.mono hle _ _ h
  |_=>exact h
 have nz:bL bh Z (S.ft aX).A aq:=by
  refine⟨aI,λs D K ad=>?_,bP.ok.inj,λs D K=>?_⟩
  .have:=bP.ok.lt s D K ad;refine⟨nV this.1 aB,?_⟩;cases az:bh (Z s) with
   |none=>rfl
   |some x=>
    rcases pK _ _ az with h|h
    .rw[this.2] at h;cases h
    .omega
  .have:=(bP.ok.obj s D K).hZ (bh:=bh) (bw:=(S.ft aX).A) (aq:=aq) ze hle rfl λad=>br _ (bP.ok.lt s D K ad).1;have e:gx id D=D:=by
    cases D with
    |box el z aF=>cases aF<;>simp [gx]
    |arr=>rfl
   rwa [e] at this
 have bc:fx X d (hQ U Z S.A H aX) Z H (S.ft aX) bh Z aq (S.ft aX):=by have:=fx.of_map (S:=S.ft aX) (X:=X) (d:=d) (H:=H) ze nz ⟨λa D h _=>hle a D h,aB,λa aD _ _=>br a aD,λa D ay=>(pK a D ay).elim .inl λh=>.inr (.inl h),λs D K ad=>.inr ⟨s,D,K,ad,rfl,λh=>h⟩⟩ (λ_ _=>rfl) (λ_ _ h=>h) po.id λ_ _ _ _ _=>⟨rfl,rfl,rfl⟩;rwa [show(S.ft aX).L.map (dJ id)=(S.ft aX).L from by rw[show(dJ id)=id from uj td];simp,show(S.ft aX).E.map (dJ id)=(S.ft aX).E from by rw[show(dJ id)=id from uj td];simp] at this
 exact bP.trans bc
end
end Go.Tx
