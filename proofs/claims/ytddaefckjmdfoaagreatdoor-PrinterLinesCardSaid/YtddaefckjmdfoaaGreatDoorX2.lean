/- Part of the proof of PrinterLines. -/
import Derived.Test.YtddaefckjmdfoaaGreatDoorX1
set_option linter.all false
namespace Go.Tx
open Go Go.Ev
section
variable{C:Nat->cG}{bf:Hint}{P:dy}{es:aO}{ae:dv}{L E:bG}{A:be}
def L9(C:Nat->cG)(bf:Hint)(r:Nat->Bool)(f6:Bool)(X:aO)(f:b2)(args:bG)(S:c5)(k:a1->c5->Prop):Prop:=
 match reach S.A 9 [] (oM r 0 args),lP ((tq r 0 args).flatMap (e6 S.A 3)) with
  |[],aX=>match f6 with
   |true=>hs (dq C) (kG r [] (keeps S.A aX) 0 args) λda=>(dq C).call [] f da [] λv _=>tU (yS v) (k (.J v) S) (tU (!cA (tu S.A (wc S.A aX)) v) (k (.J v) (S.ft (zL S.A aX))) (dq C).fail)
   |false=>hs (dq C) (kG r [] (keeps S.A aX) 0 args) λda=>(dq C).call [] f da [] λv _=>k (.J v) (S.ft aX)
  |bc,aX=>match lP (aX++bc.flatMap (t9 S.A)) with
   |aX=>match jQ aX bc&&kR bc&&wM (ev X) (ev bf.du)&&w8 bc X bf.du with
    |true=>hs (dq C) (kG r bc (keeps S.A aX) 0 args) λda=>match S.ft aX with
     |om=>hs (dq C) (rD bc om.A 1000 bc) λdP=>(dq C).call X f da dP λv dP=>hs (dq C) (r0 bc 1000 bc dP (om.bz (ev X)).A) λA=>k (.J v) ⟨(om.bz (ev X)).L,(om.bz (ev X)).E,A⟩
    |false=>(dq C).fail
def akI(f:b2)(qA:jo)(args:bG)(S:c5)(k:a1->c5->Prop):tV (dq C) bf f qA args S k=match qA with
 |some g=>L9 C bf (bf.sF g) (bf.flat g) (bf.mt g) f args S k
 |none=>L9 C bf (λ_=>false) false [] f args S k:=by cases qA<;>rfl
def ajO{r}{f6}{X}{f}{args}{k}{c8:a1->c5->Prop}(h:MD C bf r f6 X f args L E A k)(az:∀v L E A,k v L E A->c8 v ⟨L,E,A⟩):L9 C bf r f6 X f args ⟨L,E,A⟩ c8:=by
 have on:∀{S:c5}{v:a1},S.on (k v)->c8 v S:=λ{S v} h=>az v S.L S.E S.A h;unfold MD at h;unfold L9;cases im:reach A 9 [] (oM r 0 args) with
 |nil=>
  rw[im] at h;simp only[xW] at h ⊢;cases f6 with
  |true=>
   simp only[zQ] at h;have⟨da,B,F⟩:=DX h;refine kE B (Qw F λv t au=>?_);cases q:yS v with
   |true=>rw[q] at au;exact az _ _ _ _ au
   |false=>rw[q] at au;have⟨ah,aE⟩:=au;rw[zY] at aE;rw[ah];exact on aE
  |false=>simp only[zQ] at h;have⟨da,B,F⟩:=DX h;refine kE B (Qw F λv t au=>?_);rw[zY] at au;exact on au
 |cons b bc=>
  rw[im] at h;simp only[xW] at h ⊢;generalize lP (lP ((tq r 0 args).flatMap (e6 A 3))++(b::bc).flatMap (t9 A))=aX at h ⊢;cases q:(jQ aX (b::bc)&&kR (b::bc)&&wM (ev X) (ev bf.du)&&w8 (b::bc) X bf.du) with
  |false=>rw[q] at h;exact h.elim
  |true=>rw[q] at h;simp only[zQ] at h;have⟨da,B,F⟩:=DX h;rw[zY] at F;have⟨dP,ah,aE⟩:=D6 F;refine kE B (kE ah (Qw aE λv t au=>?_));have bt:=N7 au;have⟨bw,b1,ep⟩:=FY bt;exact kE b1 (az _ _ _ _ ep)
variable{args:bG}{d aP:Nat}{k:vX}{c8:a1->c5->Prop}{op:Op}{N v:a1}
def Vw{f qA}(h:Sj C bf f qA args L E A k)(az:∀v L E A,k v L E A->c8 v ⟨L,E,A⟩):tV (dq C) bf f qA args ⟨L,E,A⟩ c8:=by rw[akI];cases qA<;>exact ajO h az
def ajE{g}(h:TA C d g args L E A k)(az:∀v L E A,k v L E A->c8 v ⟨L,E,A⟩):P2 (dq C) d g args ⟨L,E,A⟩ c8:=by
 have on:∀{S:c5}{v:a1},S.on (k v)->c8 v S:=λ{S v} h=>az v S.L S.E S.A h;unfold TA at h;split at h
 .rename_i f bY bJ;obtain⟨bX,B,F⟩:=uk h;simp only[xb] at F;refine kE B ⟨f,bY,bJ,rfl,λU Z H eE g1 g2=>?_⟩;obtain⟨el,z,aF,a,am,aq,bh,q,g⟩:=F.h U Z H eE g1 g2;refine⟨el,z,aF,a,am,aq,bh,?_,g⟩;rw[A2] at q;exact on q
 .exact h.elim
def akG{t:TypeId}(h:Rs bf P t N v L E A k)(az:∀v L E A,k v L E A->c8 v ⟨L,E,A⟩):CZ (dq C) bf P t ⟨L,E,A⟩ N v c8:=by
 unfold Rs at h;split at h
 .rename_i g aF aT km;simp only[xW] at h;split at h
  .rename_i q;obtain⟨el,⟨rfl,aZ⟩,hm,h⟩:=h;have⟨dP,B,⟨F⟩⟩:=D6 h;unfold CZ;have aZ:=cF.2 aZ;simp only[c6] at q;simp only[se,nJ,aZ,hm,q.1,q.2,sr];refine kE B ?_;refine F.imp λbX dP au=>?_;have bt:=N7 au;have⟨bw,b1,ep⟩:=FY bt;exact kE b1 (az _ _ _ _ ep)
  .exact h.elim
 .cases ma:zH bf.du N with
  |true=>rw[ma] at h;exact h.elim
  |false=>
  rw[ma] at h;have⟨e,B,F⟩:=V1 (L:=L) (E:=E) h;have:CZ (dq C) bf P t ⟨L,E,A⟩ N v c8=hs (dq C) (ve P t ⟨L,E,A⟩ N v) λbw=>c8 (.J .undef) ⟨L,E,bw⟩:=by
   unfold CZ;split
   .rename_i mm km aB;cases mm with
    |gc g aF aT=>exact(aB g aF aT km rfl rfl).elim
    |_=>unfold ve at B;split at B<;>cases B
   .rw[ma]
  rw[this];exact kE B (az _ _ _ _ F)
def Xo(E):∀(l)(k),Fx E l k=k (J2 E l)
 |[],k=>rfl
 |s::l,k=>by unfold Fx J2;rw[BA];generalize i5 E s=e;cases e<;>simp only[Xo E l]
def acf:∀(l)(bX)(E)(k),EY E l bX k=k (Dg E l bX)
 |[],bX,E,k=>by unfold EY Dg;rfl
 |s::l,[],E,k=>rfl
 |s::l,t::r,E,k=>by unfold EY Dg;rw[Aj,acf l r]
def afz{t:TypeId}(h:OJ bf P t N v L E A k)(az:∀v L E A,k v L E A->c8 v ⟨L,E,A⟩):CY (dq C) bf P t ⟨L,E,A⟩ N v c8:=by
 unfold OJ at h;split at h
 .rename_i g aF aT km;simp only[xW] at h;split at h
  .rename_i q;obtain⟨el,⟨rfl,aZ⟩,hm,h⟩:=h;have⟨dP,B,F⟩:=D6 h;rw[Xo] at F;have⟨F⟩:=F;unfold CY;have aZ:=cF.2 aZ;simp only[c6] at q;simp only[se,nJ,aZ,hm,q.1,q.2,sr];refine kE B ?_;refine F.imp λbX dP au=>?_;have bt:=N7 au;simp only[c5.on,acf] at bt;have⟨bw,b1,ep⟩:=FY bt;exact kE b1 (az _ _ _ _ ep)
  .exact h.elim
 .cases ma:zH bf.du N with
  |true=>rw[ma] at h;exact h.elim
  |false=>
  rw[ma] at h;have⟨e,B,F⟩:=V1 (L:=L) (E:=E) h;have:CY (dq C) bf P t ⟨L,E,A⟩ N v c8=hs (dq C) (ve P t ⟨L,E,A⟩ N v) λbw=>c8 (.J .undef) ⟨L,E,bw⟩:=by
   unfold CY;split
   .rename_i mm km aB;cases mm with
    |gc g aF aT=>exact(aB g aF aT km rfl rfl).elim
    |_=>unfold ve at B;split at B<;>cases B
   .rw[ma]
  rw[this];exact kE B (az _ _ _ _ F)
def aaK(h:Lt C bf P es ae d op L E A k)(az:∀v L E A,k v L E A->c8 v ⟨L,E,A⟩):q4 (dq C) bf P es ae d op ⟨L,E,A⟩ c8:=by
 have on:∀{S:c5}{v:a1},S.on (k v)->c8 v S:=λ{S v} h=>az v S.L S.E S.A h;unfold Lt at h;unfold q4;split at h
 .have⟨e,B,F⟩:=Va (iu (A:=A) h);exact kE B (az _ _ _ _ F)
 .exact akG (iu (A:=A) (iu (A:=A) h)) az
 .simp only;split at h
  .rename_i e B F;rw[B,F];simp only;split at h
   .rename_i ah aE;rw[ah,aE];have⟨l,bt,b1⟩:=YU (iu (A:=A) h);have⟨s,ep,fm⟩:=uk b1;exact kE ((nw bt).trans ep) (az _ _ _ _ fm)
   .exact h.elim
  .exact h.elim
 .rename_i c;simp only;cases ay:bf.own d with
  |true=>
   rw[ay] at h;simp only at h ⊢;split at h
   .rename_i f aw;rw[aw];simp only;have B:=ye (A:=A) (iu (A:=A) h);revert B;generalize dN es ae ⟨L,E,A⟩ f=v;intro B;split at B
    .exact ajE B az
    .exact B.elim
   .exact h.elim
  |false=>
  rw[ay] at h;simp only at h ⊢;split at h
  .rename_i f aw;rw[aw];simp only;have B:=ye (A:=A) (iu (A:=A) h);revert B;generalize dN es ae ⟨L,E,A⟩ f=v;intro B;split at B
   .exact Vw B az
   .simp only[xb] at B;exact Vw B az
   .exact B.elim
  .rename_i aw;rw[aw];simp only;split at h
   .rename_i t a6 x y B F;rw[B,F];simp only;split at h
    .rename_i e ah;rw[ah];simp only;split at h
     .rename_i s b q aE bt b1;rw[aE,bt,b1];simp only;split at h
      .rename_i el ep fm;rw[ep,fm];simp only;cases aS:Nat.beq t a6 with
       |false=>rw[aS] at h;exact h.elim
       |true=>rw[aS] at h;have⟨l,hI,oc⟩:=YU (iu (A:=A) h);have⟨r,pG,vV⟩:=Wd (iu (A:=A) oc);exact kE ((nw hI).trans pG) (on vV)
      .rename_i ep fm;rw[ep,fm];simp only;split at h
       .rename_i hI;rw[hI];have pG:=iu (A:=A) h;revert pG;generalize dN es ae ⟨L,E,A⟩ y=kw;intro pG;split at pG
        .rename_i aqN;have⟨r,vV,zN⟩:=Wd (iu (A:=A) pG);exact kE vV (on zN)
        .exact pG.elim
       .exact h.elim
      .exact h.elim
     .exact h.elim
    .exact h.elim
   .exact h.elim
  .exact h.elim
 .exact h.elim
def Zy:∀(l:di),gD (g7 A 0) (l.map a1.J)=some l
 |[]=>rfl
 |a::l=>by simp only[fA,gD,g7,Zy l]
def JO(akZ A:be)(s:Nat)(N:Nat×a1):Option di:=cw (pR akZ N.2) λt=>cw (ns A (.J t) s) (gD (g7 A 0))
def aav{q s}:∀{l}{k},KD q s l k->∃ab,gD (JO q A s) l=some ab/\k ab
 |[],k,h=>⟨_,rfl,h⟩
 |(i,v)::l,k,h=>by
  have⟨t,B,F⟩:=RX h;have step:∀{r:di},JO q A s (i,v)=some r->KD q s l (λab=>k (r::ab))->∃ab,gD (JO q A s) ((i,v)::l)=some ab/\k ab:=by intro r ad ah;have⟨ab,aE,bt⟩:=aav ah;refine⟨_,?_,bt⟩;simp only[gD,ad,aE]
  split at F
  .rename_i r;split at F
   .rename_i ah aE;refine step ?_ F;unfold JO;rw[nw B,adF (λe=>by rw[e] at aE;cases aE) ah];exact Zy r
   .exact F.elim
  .split at F
   .rename_i ah;refine step ?_ F;unfold JO;rw[nw B];have:ns A (.J t) 1=some [.J t]:=by show(match pJ t with|true=>some [a1.J t]|false=>none)=_;rw[ah]
    rw[this];rfl
   .exact F.elim
def WJ{k}(h:LM bf P es ae d op L E A k):∃r,Ag bf P es ae d op ⟨L,E,A⟩=some r/\k r.1 r.2:=by
 unfold LM at h;unfold Ag;split at h
 .simp only;split at h
  .rename_i z n B F;rw[B,F];simp only;cases q:Nat.beq z.length (n+1) with
   |true=>rw[q] at h;simp only[MK] at h;exact⟨_,rfl,h⟩
   |false=>rw[q] at h;exact h.elim
  .exact h.elim
 .rename_i el x;simp only;split at h
  .rename_i n B;rw[B];simp only;have F:=iu (A:=A) h;revert F;generalize dN es ae ⟨L,E,A⟩ x=v;intro F;split at F
   .rename_i a6;simp only;cases n with
    |zero=>
     simp only at F ⊢;cases q:pJ a6 with
     |true=>rw[q] at F;exact⟨_,rfl,F⟩
     |false=>rw[q] at F;exact F.elim
    |succ n=>
     simp only at F ⊢;split at F
     .rename_i l;rw[Vo];cases q:fQ l (n+2) with
      |true=>rw[q] at F;exact⟨_,rfl,F⟩
      |false=>rw[q] at F;exact F.elim
     .exact F.elim
   .rename_i au;have⟨c,ah,aE⟩:=K7 F;split
    .exact absurd rfl (au _)
    .exact⟨_,nw ah,aE⟩
  .exact h.elim
 .rename_i t n cg;simp only;split at h
  .rename_i e B;rw[B];simp only;split at h
   .rename_i s F;rw[F];simp only;have ah:=Hf (A:=A) h;revert ah;generalize sP:rz es ae ⟨L,E,A⟩ cg.toList=k8;intro ah;cases q:(Nat.beq cg.toList.length n&&(k8.map Prod.fst==List.range n)&&Nat.blt 0 n&&Nat.ble (n*(s+1)) 100000&&(p4 P e).isSome) with
    |false=>rw[q] at ah;exact ah.elim
    |true=>
     rw[q] at ah;simp only[xW,zQ] at ah;have⟨ab,aE,bt⟩:=aav (A:=A) ah;simp only;have N1:nF es ae (.buildSlice t n cg) ⟨L,E,A⟩=lP (k8.flatMap λN=>e6 A 3 N.2):=by show lP ((rz es ae ⟨L,E,A⟩ cg.toList).flatMap λN=>e6 A 3 N.2)=_;rw[sP]
     rw[N1];have b1:gD (λN:Nat×a1=>cw (pR (keeps A (lP (k8.flatMap λN=>e6 A 3 N.2))) N.2) λt=>cw (ns A (.J t) (s+1)) (gD (g7 A 0))) k8=some ab:=aE;rw[nw b1];cases bU:bf.grow d with
     |true=>
      rw[bU] at bt;simp only at bt ⊢;split at bt
      .rename_i v8;rw[v8];exact⟨_,rfl,bt⟩
      .exact bt.elim
     |false=>rw[bU] at bt;exact⟨_,rfl,bt⟩
   .exact h.elim
  .exact h.elim
 .simp only;split at h
  .rename_i e B;rw[B];simp only;split at h
   .rename_i s z F ah;rw[F,ah];simp only;cases q:(Nat.beq z.length (s+1)&&Nat.ble ((va P e).getD 1001) 1000) with
    |false=>rw[q] at h;exact h.elim
    |true=>rw[q] at h;have aE:=iu (A:=A) (iu (A:=A) h);have⟨n,aZ,bt⟩:=BG aE;have⟨m,aN,⟨b1,ep⟩,fm⟩:=BG bt;have⟨aF,hI,oc⟩:=uk fm;simp only;rw[aZ,aN,Gf,Gf,Cn rfl rfl,cF.2 b1,cZ.2 ep];exact⟨_,nw hI,oc⟩
   .exact h.elim
  .exact h.elim
 .exact h.elim
def afA{d:Nat}{op:Op}{S:c5}{v:a1}{D:Option eS}{c8:a1->c5->Prop}(h:Ag bf P es ae d op S=some (v,D))(az:match D with|some D=>c8 v (S.put d (gx (et d) D))|none=>c8 v (S.ft (nF es ae op S))):D1 (dq C) bf P es ae d op S c8:=by unfold D1;refine kE h ?_;cases D<;>exact az
def alb(h:acp bf P es ae d op L E A k)(az:∀v L E A,k v L E A->c8 v ⟨L,E,A⟩):D1 (dq C) bf P es ae d op ⟨L,E,A⟩ c8:=by
 have on:∀{S:c5}{v:a1},S.on (k v)->c8 v S:=λ{S v} h=>az v S.L S.E S.A h;have⟨⟨v,D⟩,B,F⟩:=WJ h;refine afA B ?_;cases D with
 |some D=>simp only[Xs,A2] at F;exact on F
 |none=>
  simp only at F;split at F
  .have ah:=Hf (A:=A) F;simp only[xW,zY] at ah;exact on ah
  .exact F.elim
def agl(h:Sd C bf P es ae d op L E A k)(az:∀v L E A,k v L E A->c8 v ⟨L,E,A⟩):It (dq C) bf P es ae d op ⟨L,E,A⟩ c8:=by
 unfold Sd at h;unfold It;cases q:lN P op with
 |pure=>rw[q] at h;have⟨e,B,F⟩:=aaV h;exact kE B (az _ _ _ _ F)
 |sf=>rw[q] at h;exact alb h az
 |wr=>rw[q] at h;exact aaK h az
def aeO(h:xj C bf P es ae d op L E A k)(az:∀v L E A,k v L E A->c8 v ⟨L,E,A⟩):Cf (dq C) bf P es ae d op ⟨L,E,A⟩ c8:=by
 unfold xj at h;unfold Cf;split at h
 .rename_i t x y aw;rw[aw];exact afz (iu (A:=A) (iu (A:=A) h)) az
 .rename_i aB;split
  .rename_i t x y aw;exact(aB t x y aw rfl).elim
  .exact agl h az
def acg{k2 y n vQ cx}(h:H8 ae d k2 L y n)(ap:∀L,y L->vQ ⟨L,E,A⟩)(aB:∀L,n L->cx ⟨L,E,A⟩):zl (dq C) ae d k2 ⟨L,E,A⟩ vQ cx:=by
 unfold H8 at h;unfold zl;split at h
 .rename_i i hp;rw[hp];rw[BA] at h;simp only;revert h;generalize i5 L i=v;intro h;split at h
  .exact aB _ h
  .rename_i b;refine kE (x:=b) rfl ?_;rcases h with⟨av,h⟩|⟨av,h⟩
   .refine .yes av ?_;cases k2
    .simp only[JI] at h;exact aB _ h
    .simp only[JI] at h;exact ap _ h
   .refine .no av ?_;cases k2
    .simp only[JI] at h;exact ap _ h
    .simp only[JI] at h;exact aB _ h
  .exact h.elim
 .exact h.elim
def aaj{pU k c8}(h:vv es aP pU v L E k)(az:∀L E,k L E->c8 ⟨L,E,A⟩):zv (dq C) es aP pU v ⟨L,E,A⟩ c8:=by
 unfold vv at h;unfold zv;cases pU with
 |none=>exact az _ _ h
 |some d=>
  simp only at h ⊢;cases q:Nat.blt d aP with
  |false=>rw[q] at h;exact h.elim
  |true=>
   rw[q] at h;simp only at h ⊢;cases aS:i2 d es with
   |none=>rw[aS] at h;exact az _ _ h
   |some i=>rw[aS] at h;simp only[Aj] at h;exact az _ _ h
def Sb(D)(k):H0 D k=k (D.getD 0):=by cases D<;>rfl
def QX{an}:∀{l}{ae}{L E}{A}{k}{c8},lL C bf P es aP an ae l L E A k->(∀L E A,k L E A->c8 ⟨L,E,A⟩)->yW (dq C) bf P es aP an ae l ⟨L,E,A⟩ c8
 |[],ae,L,E,A,k,c8,h,az=>az _ _ _ h
 |D::l,ae,L,E,A,k,c8,h,az=>by
  unfold lL at h;unfold yW;cases q:(zu D.op|| !Nat.blt (D.dst.getD 0) 1000) with
  |true=>rw[q] at h;exact h.elim
  |false=>
   rw[q] at h;simp only[Sb] at h ⊢;have run:∀{L E:bG}{A:be},(xj C bf P es ae (D.dst.getD 0) D.op L E A λv L E A=>vv es aP D.dst v L E λL E=>lL C bf P es aP an (D.dst::ae) l L E A k)->
    Cf (dq C) bf P es ae (D.dst.getD 0) D.op ⟨L,E,A⟩ λv S=>zv (dq C) es aP D.dst v S λS=>yW (dq C) bf P es aP an (D.dst::ae) l S c8:=by
    intro L E A h
    exact aeO h λv L E A h=>aaj h λL E h=>QX h az
   split at h
   .rename_i br;rw[br];exact run h
   .rename_i M w br;rw[br];simp only;split at h
    .rename_i g bb;rw[bb];exact acg h (λL h=>run h) (λL h=>aaj h λL E h=>QX h az)
    .exact h.elim
end
section
variable{C:Nat->cG}{bf:Hint}{P:dy}{es:aO}{ae:dv}{L E:bG}{A:be}{cW dj:List (Nat×Nat)}{dk:aO}
variable{aP:Nat}{op:Op}{an:gu}
def aoa{k}(h:HK.QI es ae op L E A k):k (nF es ae op ⟨L,E,A⟩):=by
 unfold HK.QI at h;split at h
 .have B:=Hf (A:=A) h;rw[xW] at B;exact B
 .rename_i aB;unfold nF;split
  .exact(aB _ _ _ rfl).elim
  .exact h
def apf{i v d k c8}(h:HK bf P es ae i v d op L E A cW dj dk k)(az:∀v L E A cW dj dk,k v L E A cW dj dk->c8 v ⟨⟨L,E,A⟩,cW,dj,dk⟩):uT (dq C) bf P es ae i v d op ⟨⟨L,E,A⟩,cW,dj,dk⟩ c8:=by
 unfold HK at h;unfold uT;split at h
 .rename_i t x;simp only;have B:=iu (A:=A) h;revert B;generalize dN es ae ⟨L,E,A⟩ x=N;intro B;cases q:(jQ (rc N) (sites dj)&&(!Us N||fQ dk 0)) with
  |false=>rw[q] at B;exact B.elim
  |true=>
   rw[q] at B;have⟨e,F,ah⟩:=Va B;refine kE F ?_;cases v with
   |false=>exact az _ _ _ _ _ _ _ ah
   |true=>
    simp only at ah ⊢;cases aS:(J7 bf.du N&&GF A e) with
    |false=>rw[aS] at ah;exact ah.elim
    |true=>rw[aS] at ah;simp only[xb] at ah;exact az _ _ _ _ _ _ _ ah
 .rename_i aB;split
  .exact(aB _ _ rfl).elim
  .cases q:lN P op with
   |pure=>rw[q] at h;have⟨e,B,F⟩:=aaV h;exact kE B (az _ _ _ _ _ _ _ F)
   |wr=>rw[q] at h;exact h.elim
   |sf=>
    rw[q] at h;have B:=aoa h;simp only at B ⊢;cases aS:(Nat.blt d 1000&&jQ [d] (sites dj++sites cW)&&jQ (nF es ae op ⟨L,E,A⟩) (sites cW)) with
    |false=>rw[aS] at B;exact B.elim
    |true=>
     rw[aS] at B;rw[zY] at B;unfold c5.on at B;have⟨⟨v,D⟩,F,ah⟩:=WJ B;refine kE F ?_;cases D with
     |none=>exact ah.elim
     |some D=>simp only[Xs,A2,A0] at ah;exact az _ _ _ _ _ _ _ ah
def TI(A):∀(l)(k),DG A l k=k (ka A l)
 |[],k=>rfl
 |s::l,k=>by
  simp only[DG,ka];cases look A s with
  |none=>exact TI A l k
  |some D=>exact TI A l _
def MF:∀(A)(k),zK A k=k (pt A)
 |[],k=>rfl
 |(s,.box el z (.bE l))::r,k=>by simp only[zK,pt,MF r]
 |(s,.box el z (.cc l))::r,k=>by simp only[zK,pt,MF r]
 |(s,.arr el z ab u)::r,k=>by simp only[zK,pt,MF r]
def w6{X}{D}{k}(h:YI X D k):k (rX X D):=by
 cases X with
 |nil=>exact h
 |cons a X=>exact acq h
def tT{X}:∀{A}{es}{k},sh X A es k->k (xi X A es)
 |[],es,k,h=>by cases es<;>exact h
 |(s,.box el z (.bE kj))::r,[],k,h=>by have B:=w6 (D:=.box el z (.bE kj)) (k:=λD=>sh X r [] λq=>k ((s,D)::q)) h;exact tT (A:=r) (es:=[]) (k:=λq=>k ((s,_)::q)) B
 |(s,.box el z (.bE kj))::r,.agg l::es,k,h=>tT (A:=r) (es:=es) (k:=λq=>k ((s,.box el z (.bE l))::q)) h
 |(s,.box el z (.bE kj))::r,.J t::es,k,h=>by have B:=w6 (D:=.box el z (.bE kj)) (k:=λD=>sh X r (.J t::es) λq=>k ((s,D)::q)) h;exact tT (A:=r) (es:=.J t::es) (k:=λq=>k ((s,_)::q)) B
 |(s,.box el z (.bE kj))::r,.iy::es,k,h=>by have B:=w6 (D:=.box el z (.bE kj)) (k:=λD=>sh X r (.iy::es) λq=>k ((s,D)::q)) h;exact tT (A:=r) (es:=.iy::es) (k:=λq=>k ((s,_)::q)) B
 |(s,.box el z (.bE kj))::r,.bT::es,k,h=>by have B:=w6 (D:=.box el z (.bE kj)) (k:=λD=>sh X r (.bT::es) λq=>k ((s,D)::q)) h;exact tT (A:=r) (es:=.bT::es) (k:=λq=>k ((s,_)::q)) B
 |(s,.box el z (.bE kj))::r,.bH a b::es,k,h=>by have B:=w6 (D:=.box el z (.bE kj)) (k:=λD=>sh X r (.bH a b::es) λq=>k ((s,D)::q)) h;exact tT (A:=r) (es:=.bH a b::es) (k:=λq=>k ((s,_)::q)) B
 |(s,.box el z (.bE kj))::r,.bQ a::es,k,h=>by have B:=w6 (D:=.box el z (.bE kj)) (k:=λD=>sh X r (.bQ a::es) λq=>k ((s,D)::q)) h;exact tT (A:=r) (es:=.bQ a::es) (k:=λq=>k ((s,_)::q)) B
 |(s,.box el z (.bE kj))::r,.fF a b c::es,k,h=>by have B:=w6 (D:=.box el z (.bE kj)) (k:=λD=>sh X r (.fF a b c::es) λq=>k ((s,D)::q)) h;exact tT (A:=r) (es:=.fF a b c::es) (k:=λq=>k ((s,_)::q)) B
 |(s,.box el z (.bE kj))::r,.fn a b c::es,k,h=>by have B:=w6 (D:=.box el z (.bE kj)) (k:=λD=>sh X r (.fn a b c::es) λq=>k ((s,D)::q)) h;exact tT (A:=r) (es:=.fn a b c::es) (k:=λq=>k ((s,_)::q)) B
 |(s,.box el z (.cc kj))::r,es,k,h=>by have B:=w6 (D:=.box el z (.cc kj)) (k:=λD=>sh X r es λq=>k ((s,D)::q)) (by cases es<;>exact h);have F:=tT (A:=r) (es:=es) (k:=λq=>k ((s,_)::q)) B;cases es<;>exact F
 |(s,.arr el z ab u)::r,es,k,h=>by have B:=w6 (D:=.arr el z ab u) (k:=λD=>sh X r es λq=>k ((s,D)::q)) (by cases es<;>exact h);have F:=tT (A:=r) (es:=es) (k:=λq=>k ((s,_)::q)) B;cases es<;>exact F
def Qt(b)(k):GK.EF b k=k b:=by cases b<;>rfl
def aj5{k}(h:GK bf es ae op L E k):k (x9 bf es ae op ⟨L,E,A⟩):=by
 unfold GK at h;unfold x9;split at h
 .rename_i c;simp only;split at h
  .rename_i f aw;rw[aw];simp only;have B:=ye (A:=A) (iu (A:=A) h);revert B;generalize dN es ae ⟨L,E,A⟩ f=v;intro B;split at B
   .rw[Qt] at B;exact B
   .rw[Qt] at B;exact B
   .rename_i dl cB;split
    .exact(dl _ rfl).elim
    .exact(cB _ _ _ rfl).elim
    .exact B
  .rename_i aB;split
   .rename_i f aw;exact(aB _ aw).elim
   .exact h
 .rename_i aB;split
  .exact(aB _ rfl).elim
  .exact h
def alc{d}{op}{cW}{k}(h:KV bf es ae d op L E A cW k):k (xa bf es ae d op ⟨L,E,A⟩ cW):=by
 unfold KV at h;unfold xa;cases ay:bf.own d with
 |true=>rw[ay] at h;exact h
 |false=>
 rw[ay] at h;simp only at h ⊢;split at h
 .rename_i c;simp only;split at h
  .rename_i f aw;rw[aw];simp only;have B:=ye (A:=A) (iu (A:=A) h);revert B;generalize dN es ae ⟨L,E,A⟩ f=v;intro B;split at B
   .rw[Qt] at B;exact B
   .rename_i dl;split
    .exact(dl _ rfl).elim
    .exact B
  .rename_i aB;split
   .rename_i f aw;exact(aB _ aw).elim
   .exact h
 .rename_i aB;split
  .exact(aB _ rfl).elim
  .exact h
def aeT{d}{op}{cW}{q}{k}(h:nD q (KV bf es ae d op L E A cW) k):k (q||xa bf es ae d op ⟨L,E,A⟩ cW):=by
 cases q with
 |true=>exact h
 |false=>exact alc h
def ajB{m d}{op}{k}{c8}(h:S7 C bf P es ae m d op L E A cW dj dk k)(az:∀v L E A cW dj dk,k v L E A cW dj dk->c8 v ⟨⟨L,E,A⟩,cW,dj,dk⟩):Jz (dq C) bf P es ae m d op ⟨⟨L,E,A⟩,cW,dj,dk⟩ c8:=by
 unfold S7 at h;unfold Jz;simp only[A0,TI,MF,xb,Oa] at h;have B:=aj5 (A:=jS A (sites (gK m dj))) h;have B:=aeT B;simp only[xW] at B;simp only;have ad:AO ⟨⟨L,E,A⟩,cW,dj,dk⟩ (sites (gK m dj))=⟨L++pt (ka A (sites (gK m dj))),E,jS A (sites (gK m dj))⟩:=rfl;rw[ad];revert B;generalize(x9 bf es ae op ⟨L++pt (ka A (sites (gK m dj))),E,jS A (sites (gK m dj))⟩||xa bf es ae d op ⟨L++pt (ka A (sites (gK m dj))),E,jS A (sites (gK m dj))⟩ (sites (gK m cW)))=q;intro B;generalize hidden q (sites (gK m dj)) (sites (gK m cW))=aJ at B ⊢;split at B
 .rename_i F ah;rw[F,ah];refine aaK B λv ia mQ nl aE=>?_;cases aS:(DD aJ v&&vs aJ nl&&(!q||ym nl (sites (gK m cW)))) with
  |false=>rw[aS] at aE;exact aE.elim
  |true=>rw[aS] at aE;simp only[ET,CX] at aE;have bt:=tT aE;exact az _ _ _ _ _ _ _ bt
 .exact B.elim
def Z4{D y k vQ c8}(h:Nb aP an ae D L E A cW dj dk y k)(ap:∀L (q:a1->o6)(eh:a1->mE->Prop),y L q->(∀v L E A cW dj dk,q v L E A cW dj dk->eh v ⟨⟨L,E,A⟩,cW,dj,dk⟩)->vQ ⟨⟨L,E,A⟩,cW,dj,dk⟩ eh)(az:∀L E A cW dj dk,k L E A cW dj dk->c8 ⟨⟨L,E,A⟩,cW,dj,dk⟩):xQ (dq C) aP an ae D ⟨⟨L,E,A⟩,cW,dj,dk⟩ vQ c8:=by
 unfold Nb at h;have aeI:(match D.guard with
  |none=>y L λv L E A cW dj dk=>k (v::L) E A cW dj dk
  |some (M,w)=>match(an[M]?).bind (·.dst) with
   |some d=>H8 ae d w L
    (λL=>y L λv L E A cW dj dk=>k (v::L) E A cW dj dk)
    (λL=>k (.iy::L) E A cW dj dk)
   |none=>False)->(match D.guard with
  |none=>vQ ⟨⟨L,E,A⟩,cW,dj,dk⟩ λv aY=>c8 ⟨⟨v::aY.S.L,aY.S.E,aY.S.A⟩,aY.iM,aY.iV,aY.dk⟩
  |some (M,w)=>match(an[M]?).bind (·.dst) with
   |some d=>zl (dq C) ae d w ⟨L,E,A⟩
    (λS=>vQ ⟨S,cW,dj,dk⟩ λv aY=>c8 ⟨⟨v::aY.S.L,aY.S.E,aY.S.A⟩,aY.iM,aY.iV,aY.dk⟩)
    (λS=>c8 ⟨⟨.iy::S.L,S.E,S.A⟩,cW,dj,dk⟩)
   |none=>(dq C).fail):=by
  clear h
  intro h
  split at h
  .refine ap _ _ _ h ?_;intro v L E A cW dj dk h;exact az (v::L) E A cW dj dk h
  .rename_i M w br;split at h
   .rename_i d bb;try rw[bb]
    refine acg h (λL h=>?_) (λL h=>?_)
    .refine ap _ _ _ h ?_;intro v L E A cW dj dk h;exact az (v::L) E A cW dj dk h
    .exact az (.iy::L) E A cW dj dk h
   .exact h.elim
 cases aJ:D.dst with
 |none=>rw[aJ] at h;show xQ (dq C) aP an ae D ⟨⟨L,E,A⟩,cW,dj,dk⟩ vQ c8;unfold xQ;rw[aJ];exact aeI h
 |some d=>
  rw[aJ] at h;show xQ (dq C) aP an ae D ⟨⟨L,E,A⟩,cW,dj,dk⟩ vQ c8;unfold xQ;rw[aJ];simp only at h ⊢;cases q:Nat.blt d aP with
  |false=>rw[q] at h;exact h.elim
  |true=>rw[q] at h;exact aeI h
def RF{jg}:∀{l}{ae}{L E}{A}{cW dj}{dk}{k}{c8},Jm bf P es aP an jg ae l L E A cW dj dk k->(∀L E A cW dj dk,k L E A cW dj dk->c8 ⟨⟨L,E,A⟩,cW,dj,dk⟩)->Bi (dq C) bf P es aP an jg ae l ⟨⟨L,E,A⟩,cW,dj,dk⟩ c8
 |[],ae,L,E,A,cW,dj,dk,k,c8,h,az=>az _ _ _ _ _ _ h
 |i::l,ae,L,E,A,cW,dj,dk,k,c8,h,az=>by
  unfold Jm at h;unfold Bi;split at h
  .rename_i D ay;rw[ay];simp only[Sb] at h ⊢;refine Z4 h (λL q eh h ax=>apf h ax) λL E A cW dj dk h=>RF h az
  .exact h.elim
def XY{aP}{an}{bg}:∀{l}{ae}{L E}{A}{cW dj}{dk}{k}{c8},LZ C bf P es aP an bg ae l L E A cW dj dk k->(∀L E A cW dj dk,k L E A cW dj dk->c8 ⟨⟨L,E,A⟩,cW,dj,dk⟩)->Gu (dq C) bf P es aP an bg ae l ⟨⟨L,E,A⟩,cW,dj,dk⟩ c8
 |[],ae,L,E,A,cW,dj,dk,k,c8,h,az=>az _ _ _ _ _ _ h
 |(aQ,w)::l,ae,L,E,A,cW,dj,dk,k,c8,h,az=>by
  unfold LZ at h;unfold Gu;split at h
  .rename_i D ay;rw[ay];simp only[Sb] at h ⊢;refine RF h λL E A cW dj dk h=>?_;exact Z4 h (λL q eh h ax=>ajB h ax) λL E A cW dj dk h=>XY h az
  .exact h.elim
def Dh:∀(ae)(L E)(k),w7 es ae L E k=k (AY es ae L E)
 |[],L,E,k=>by cases L<;>rfl
 |d::ae,[],E,k=>by
  unfold w7 AY;cases d with
  |none=>exact Dh ae [] E k
  |some d=>
   simp only;cases i2 d es with
   |none=>exact Dh ae [] E k
   |some i=>simp only[Aj];exact Dh ae [] _ k
 |d::ae,v::L,E,k=>by
  unfold w7 AY;cases d with
  |none=>exact Dh ae L E k
  |some d=>
   simp only;cases i2 d es with
   |none=>exact Dh ae L E k
   |some i=>simp only[Aj];exact Dh ae L _ k
def anf{bg pl k c8}(h:RM C bf P es aP an bg pl E A k)(az:∀E A,k E A->c8 E A):Iy (dq C) bf P es aP an bg pl E A c8:=by
 unfold RM at h;unfold Iy;split at h
 .rename_i al;rw[al];refine XY h λL E A cW dj dk h=>?_;refine RF h λL E A cW dj dk h=>?_;rw[Dh] at h;exact az _ _ h
 .exact h.elim
end
def DU:∀(l)(E)(k),tD E l k=k (forget E l)
 |[],E,k=>rfl
 |i::l,E,k=>by simp only[tD,Aj,forget,DU l]
variable{C:Nat->cG}{E:bG}{P:dy}{a n:Nat}{b:Bool}{es:aO}{k:b2->be->Prop}{A:be}
def akp{H k c8}(h:np H E A k)(az:∀E A,k E A->c8 E A):norm (dq C) H E A c8:=by
 unfold np at h;unfold norm;cases H with
 |none=>exact az _ _ h
 |some H=>
  simp only at h ⊢;rw[DU,y1,we,zY] at h;unfold c5.on at h;revert h;generalize(c5.mk [] (forget E H.c4) A).ft H.bS=S;intro h;split at h
  .rename_i aD;have⟨bw,B,F⟩:=uk h;rw[aD];exact kE rfl (kE B (az _ _ F))
  .have⟨r,B,F⟩:=uk h;have⟨bw,ah,aE⟩:=uk F;simp only[R0,y1,A0,show(dJ id)=id from uj td,List.map_id] at aE;exact kE B (kE ah (az _ _ aE))
def WT{b dA}(av:∀a bF E A,(∀E A,a E A->bF E A)->b a E A->dA bF E A):∀n E A,lQ b n E A->lQ dA n E A
 |0,_,_,h=>h
 |n+1,E,A,h=>av _ _ E A (λE A=>WT av n E A) h
section
variable{C:Nat->cG}{bf:Hint}{jI:Nat->Option qY}{P:dy}{es:aO}{aP:Nat}
def alq:∀{c}{id}{E}{A}{b0 vK:bG->be->Prop}{bz u1:zx->bG->be->Prop},nt C bf jI P es aP c id E A b0 bz->(∀E A,b0 E A->vK E A)->(∀x E A,bz x E A->u1 x E A)->pf (dq C) bf jI P es aP c id E A vK u1:=by
 intro c;induction c with
 |skip=>intro id E A b0 vK bz u1 h aB I;exact aB _ _ h
 |region i an b=>
  intro id E A b0 vK bz u1 h aB I;cases b with
  |false=>exact QX h λL E A h=>aB _ _ h
  |true=>have⟨B,F⟩:=h;unfold pf;rw[B];exact anf F aB
 |seq a b rg rJ=>
  intro id E A b0 vK bz u1 h aB I;unfold nt at h;unfold pf;split at h
  .exact rg h (λE A h=>rJ h aB I) I
  .rcases h with h|⟨bv,B,F⟩
   .exact rg h (λE A h=>rJ h aB I) I
   .exact rg B (λE A h=>rJ (F E A h) aB I) I
 |cond c a b rg rJ=>
  intro id E A b0 vK bz u1 h aB I;unfold nt at h;unfold pf;have B:=iu (A:=A) h;revert B;generalize dN es [] ⟨[],E,A⟩ c=v;intro B;split at B
  .rename_i q;refine kE (x:=q) rfl ?_;rcases B with⟨ax,B⟩|⟨ax,B⟩
   .exact .yes ax (rg B aB I)
   .exact .no ax (rJ B aB I)
  .exact B.elim
 |block i c bB=>
  intro id E A b0 vK bz u1 h aB I;refine bB h aB λx E A h=>?_;cases x with
  |ret=>exact I _ _ _ h
  |exit M=>
   simp only at h ⊢;cases q:Nat.beq M i with
   |true=>rw[q] at h;exact aB _ _ h
   |false=>rw[q] at h;exact I _ _ _ h
 |loop c bB=>intro id E A b0 vK bz u1 h aB I;have⟨⟨n,h⟩⟩:=h;refine⟨n,WT (λa bF E A aD h=>?_) n E A h⟩;exact akp h λE A h=>bB h aD I
 |exit i=>intro id E A b0 vK bz u1 h aB I;exact I _ _ _ h
 |ret=>intro id E A b0 vK bz u1 h aB I;exact I _ _ _ h
 |_=>intro id E A b0 vK bz u1 h aB I;exact h.elim
end
def RW{A}:∀{l}{k},M4 P es E A l k->∃r,wX P es ⟨[],E,A⟩ l=some r/\k r
 |[],k,h=>⟨_,rfl,h⟩
 |.tmp t::l,k,h=>by have⟨r,B,F⟩:=RW (l:=l) (iu (A:=A) h);exact⟨_,nw B,F⟩
 |.cell a t::l,k,h=>by have⟨v,B,F⟩:=Va (iu (A:=A) h);have⟨r,ah,aE⟩:=RW (l:=l) F;exact⟨_,Cn B ah,aE⟩
def acB:∀{l}{k},RE A l k->∃r,gD (pR A) l=some r/\k r
 |[],k,h=>⟨_,rfl,h⟩
 |v::l,k,h=>by have⟨t,B,F⟩:=RX h;have⟨r,ah,aE⟩:=acB (l:=l) F;exact⟨_,by simp only[gD,B,ah],aE⟩
def aoU(bX)(k):aaE bX k=k (PM bX):=by
 match bX with
 |[]=>rfl
 |[t]=>rfl
 |_::_::_=>rfl
def Vy{am gI}(h:Ud P es am gI E A k):finish (dq C) P es am gI E A k:=by have⟨fb,B,F⟩:=RW h;simp only[zQ] at F;have⟨bX,ah,aE⟩:=acB F;rw[zY] at aE;have⟨bw,bt,b1⟩:=uk aE;rw[aoU] at b1;exact kE B (kE ah (kE bt b1))
def amA{ak jI iZ f args}(h:Mm C ak jI P iZ f args A k):IH (dq C) ak jI P iZ f args A k:=by
 unfold Mm at h;unfold IH;split at h
 .rename_i fn aI;rw[aI];simp only;split at h
  .rename_i c av;rw[av];simp only;split at h
   .rename_i ax;rw[ax];simp only[xb,y1,show(dJ id)=id from uj td,List.map_id] at h ⊢;refine alq h (λE A h=>Vy h) λx E A h=>?_;cases x with
    |ret=>exact Vy h
    |exit i=>exact h.elim
   .exact h.elim
  .exact h.elim
 .exact h.elim
def ry{b}{x y}(B:a<b->x)(cb:b<=a->y):lH (Nat.blt a b) x y:=by
 cases q:Nat.blt a b with
 |true=>exact .yes rfl (B (cZ.1 q))
 |false=>exact .no rfl (cb (Nat.le_of_not_lt λh=>by rw[cZ.2 h] at q;cases q))
def Xg{a b:Nat}{x y}(B:a<=b->x)(cb:b<a->y):lH (Nat.ble a b) x y:=by
 cases q:Nat.ble a b with
 |true=>exact .yes rfl (B (dn.1 q))
 |false=>exact .no rfl (cb (Nat.lt_of_not_le λh=>by rw[dn.2 h] at q;cases q))
def aep{a b:Nat}{x y}(B:a=b->x)(cb:a≠b->y):lH (Nat.beq a b) x y:=by
 cases q:Nat.beq a b with
 |true=>exact .yes rfl (B (cF.1 q))
 |false=>exact .no rfl (cb λh=>by rw[cF.2 h] at q;cases q)
def LQ{a b}{x y}(B:a=b->x)(cb:a≠b->y):lH (m7 a b) x y:=by
 cases q:m7 a b with
 |true=>exact .yes rfl (B (by simpa [m7] using q))
 |false=>exact .no rfl (cb λh=>by subst h;simp [m7] at q)
def lz{x y}(h:lH b y x):lH (!b) x y:=by
 rcases h with⟨h,b5⟩|⟨h,b5⟩<;>subst h
 .exact .no rfl b5
 .exact .yes rfl b5
def kC{a}{x y}(h:lH a (lH b x y) y):lH (a&&b) x y:=by
 rcases h with⟨h,b5⟩|⟨h,b5⟩<;>subst h
 .exact b5
 .exact .no rfl b5
def kB{a}{x y}(h:lH a x (lH b x y)):lH (a||b) x y:=by
 rcases h with⟨h,b5⟩|⟨h,b5⟩<;>subst h
 .exact .yes rfl b5
 .exact b5
def PU{body}(bv:Nat->bG->be->Prop)(cb:∃m,bv m E A)(ak:∀m ba E A,bv m E A->(∀iL d9 bw,iL<m->bv iL d9 bw->ba d9 bw)->body ba E A):qK body E A:=⟨alw bv cb ak⟩
def aK{C}{X}{f}{args}{A}{bZ oS}(h:bj C X f args A bZ)(ax:∀v A,bZ v A->oS v A):Ib C X f args A oS:=⟨h.imp ax⟩
def qj:jJ 9223372036854775808 18446744073709551616 0 18446744073709551615=false:=ag
def acF(aB:n<18446744073709551616)(B:jJ 9223372036854775808 18446744073709551616 1 n):1<=n/\n<9223372036854775808:=by unfold jJ at B;have B:=dn.1 B;rw[show Nat.mod (Nat.add 9223372036854775808 1) 18446744073709551616=9223372036854775809 from rfl] at B;have e:Nat.mod (Nat.add 9223372036854775808 n) 18446744073709551616=(9223372036854775808+n) % 18446744073709551616:=rfl;rw[e] at B;omega
def amF(aB:n<9223372036854775808)(B:jJ 9223372036854775808 18446744073709551616 n 1000):n<=1000:=by rw[Vk rfl aB ag] at B;exact dn.1 B
def afZ{P}(hp:P)(aB:n<18446744073709551616)(B:jJ 9223372036854775808 18446744073709551616 1 n)(F:jJ 9223372036854775808 18446744073709551616 n 1000):P/\1<=n/\n<=1000:=⟨hp,(acF aB B).1,amF (acF aB B).2 F⟩
def q1{P:Prop}(h:true=false):P:=by cases h
def jw{P:Prop}(h:false):P:=by cases h
def eT{b}{x y}(B:a<b->x)(cb:b<=a->y):lH (Nat.blt a b) x y:=ry B cb
def iN{a b:Nat}{x y}(B:a<=b->x)(cb:b<a->y):lH (Nat.ble a b) x y:=Xg B cb
def fK{a b:Nat}{x y}(B:a=b->x)(cb:a≠b->y):lH (Nat.beq a b) x y:=aep B cb
def cC{a b}{x y}(B:a=b->x)(cb:a≠b->y):lH (m7 a b) x y:=LQ B cb
def f4{x y}(h:lH b y x):lH (!b) x y:=lz h
def eD{x y}(B:b=true->x)(cb:b=false->y):lH b x y:=jB B cb
def oG{bg an pl}{x}(h:xV P bg an pl)(I:x):gz (xV P bg an pl) x:=⟨h,I⟩
def qL(a b:Nat):Nat.ble a b=decide (a<=b):=by rw[Bool.eq_iff_iff,dn,FX]
def O8(a b):Nat.blt a b=decide (a<b):=by rw[Bool.eq_iff_iff,cZ,FX]
def J5(a b:Nat):Nat.beq a b=decide (a=b):=by rw[Bool.eq_iff_iff,cF,FX]
def IN(a b):m7 a b=decide (a=b):=by rw[Bool.eq_iff_iff,FX];simp [m7]
structure rG(q:Prop):Type where
 D:q
theorem aG{N q:Prop}(h:q)(w:rG q->N:=by
 intro x
 (conv=>whnf)
 repeat((first|refine .nice (by omega) ?_|refine .plain ?_|refine .yes (by decide) ?_|refine .no (by decide) ?_|refine oG (by kernel_rfl) ?_);(conv=>whnf))
 exact x.D):N:=w ⟨h⟩
theorem b8{N q:Prop}(h:q)(w:rG q->N:=by
 intro x
 (conv=>whnf)
 repeat((first|refine .mk ⟨rfl,by simp only[List.length_cons,List.length_nil];omega⟩ ?_|refine .mk (by omega) ?_|refine .mk (by simp only[List.length_append,List.length_cons,List.length_nil];omega) ?_|refine .nice (by omega) ?_|refine .plain ?_|refine .yes (by decide) ?_|refine .no (by decide) ?_|refine oG (by kernel_rfl) ?_);(conv=>whnf))
 exact x.D):N:=w ⟨h⟩
theorem dx{N q:Prop}(h:q)(w:rG q->N:=by
 intro x
 (conv=>whnf)
 repeat((first|refine .yes (cZ.2 aV) ?_|refine⟨aV,⟨_,ad,?_⟩⟩|refine .nice (by omega) ?_|refine .plain ?_|refine .yes (by decide) ?_|refine .no (by decide) ?_|refine oG (by kernel_rfl) ?_);(conv=>whnf))
 exact x.D):N:=w ⟨h⟩
theorem de{N q:Prop}(h:q)(w:rG q->N:=by
 intro x
 (conv=>whnf)
 repeat((first|refine .no (lZ _) ?_|refine .nice (by omega) ?_|refine .plain ?_|refine .yes (by decide) ?_|refine .no (by decide) ?_|refine oG (by kernel_rfl) ?_);(conv=>whnf))
 exact x.D):N:=w ⟨h⟩
theorem tl{N q:Prop}(h:q)(w:rG q->N:=by
 intro x
 (conv=>whnf)
 repeat((first|refine .yes (cZ.2 aV) ?_|refine⟨aV,⟨_,ad,?_⟩⟩|refine .mk ⟨rfl,by simp only[List.length_cons,List.length_nil];omega⟩ ?_|refine .mk (by omega) ?_|refine .mk (by simp only[List.length_append,List.length_cons,List.length_nil];omega) ?_|refine .nice (by omega) ?_|refine .plain ?_|refine .yes (by decide) ?_|refine .no (by decide) ?_|refine oG (by kernel_rfl) ?_);(conv=>whnf))
 exact x.D):N:=w ⟨h⟩
theorem j0{N q:Prop}(h:q)(w:rG q->N:=by
 intro x
 (conv=>whnf)
 repeat((first|refine .yes (U7 (by omega)) ?_|refine .no (NI (by omega)) ?_|refine gz.mk (by omega) (jM.mk _ (az _ (by omega)) ?_)|refine jM.mk _ (az _ (by omega)) ?_|refine .mk ⟨rfl,by simp only[List.length_cons,List.length_nil];omega⟩ ?_|refine .mk (by omega) ?_|refine .mk (by simp only[List.length_append,List.length_cons,List.length_nil];omega) ?_|refine .nice (by omega) ?_|refine .plain ?_|refine .yes (by decide) ?_|refine .no (by decide) ?_|refine oG (by kernel_rfl) ?_);(conv=>whnf))
 exact x.D):N:=w ⟨h⟩
theorem B1{N q:Prop}(h:q)(w:rG q->N:=by
 intro x
 (conv=>whnf)
 repeat((first|refine .yes (U7 (by omega)) ?_|refine .no (NI (by omega)) ?_|refine gz.mk (by omega) (jM.mk _ ml ?_)|refine jM.mk _ ml ?_|refine .mk ⟨rfl,by simp only[List.length_cons,List.length_nil];omega⟩ ?_|refine .mk (by omega) ?_|refine .mk (by simp only[List.length_append,List.length_cons,List.length_nil];omega) ?_|refine .nice (by omega) ?_|refine .plain ?_|refine .yes (by decide) ?_|refine .no (by decide) ?_|refine oG (by kernel_rfl) ?_);(conv=>whnf))
 exact x.D):N:=w ⟨h⟩
theorem yI{N q:Prop}(h:q)(w:rG q->N:=by
 intro x
 (conv=>whnf)
 repeat((first|refine .yes (U7 (by omega)) ?_|refine .no (NI (by omega)) ?_|refine gz.mk (by omega) (jM.mk _ (az _ (by omega)) ?_)|refine jM.mk _ (az _ (by omega)) ?_|refine u0.some (by omega) (by omega) ?_|refine u0.none (by decide) (by omega) (by omega) ?_|refine .mk ⟨rfl,by simp only[List.length_cons,List.length_nil];omega⟩ ?_|refine .mk (by omega) ?_|refine .mk (by simp only[List.length_append,List.length_cons,List.length_nil];omega) ?_|refine .nice (by omega) ?_|refine .plain ?_|refine .yes (by decide) ?_|refine .no (by decide) ?_|refine oG (by kernel_rfl) ?_);(conv=>whnf))
 exact x.D):N:=w ⟨h⟩
theorem bn{N q:Prop}(h:q)(w:rG q->N:=by
 intro x
 first|refine .nice (by omega) ?_|refine .plain ?_|refine .yes (by decide) ?_|refine .no (by decide) ?_|refine oG (by kernel_rfl) ?_
 exact x.D):N:=w ⟨h⟩
theorem b9{N q:Prop}(h:q)(w:rG q->N:=by
 intro x
 first|refine .mk ⟨rfl,by simp only[List.length_cons,List.length_nil];omega⟩ ?_|refine .mk (by omega) ?_|refine .mk (by simp only[List.length_append,List.length_cons,List.length_nil];omega) ?_|refine .nice (by omega) ?_|refine .plain ?_|refine .yes (by decide) ?_|refine .no (by decide) ?_|refine oG (by kernel_rfl) ?_
 exact x.D):N:=w ⟨h⟩
theorem s2{N q r:Prop}(h:q)(b5:r)(w:rG q->rG r->N:=by
 intro x y
 with_reducible first|refine eT ?_ ?_|refine iN ?_ ?_|refine fK ?_ ?_|refine cC ?_ ?_|refine eD ?_ ?_
 exact x.D
 exact y.D):N:=w ⟨h⟩ ⟨b5⟩
theorem aN{N q:Prop}(h:q)(w:rG q->N:=by
 intro x
 fail_if_success with_reducible first|refine eT ?_ ?_|refine iN ?_ ?_|refine fK ?_ ?_|refine cC ?_ ?_
 with_reducible first|refine f4 ?_|refine kC ?_|refine kB ?_
 exact x.D):N:=w ⟨h⟩
theorem iY{N:Prop}(h:N:=by
 (conv=>whnf)
 repeat' ((first|refine .nice (by omega) ?_|refine .plain ?_|refine .yes (by decide) ?_|refine .no (by decide) ?_|refine oG (by kernel_rfl) ?_|((with_reducible first|apply eT|apply iN|apply fK|apply cC|apply f4|apply kC|apply kB|apply eD)<;>intros))<;>(conv=>whnf))
 all_goals first|exact⟨rfl,_,rfl,jw⟩|exact⟨rfl,_,rfl,q1⟩):N:=h
abbrev iS(C:Nat->cG)(f:Nat)(args:List a1)(bZ:b2->Prop):Prop:=bj C [] f args [] λv A=>A=[]/\bZ v
theorem cT{C:Nat->cG}{X:List Nat}{f:Nat}{args:List a1}{A t:be}{r:b2}{oS:b2->be->Prop}(h:bj C X f args A λv A=>A=t/\v=r)(ax:oS r t):Ib C X f args A oS:=aK h λ_ _ ⟨a,b⟩=>by rw[a,b];exact ax
theorem cj{C:Nat->cG}{X:List Nat}{f:Nat}{args:List a1}{A t:be}{r:b2}{q:Prop}{oS:b2->be->Prop}(h:bj C X f args A λv A=>A=t/\v=r)(ax:q)(w:rG q->oS r t:=by
 intro x
 (conv=>whnf)
 repeat((first|refine .nice (by omega) ?_|refine .plain ?_|refine .yes (by decide) ?_|refine .no (by decide) ?_|refine oG (by kernel_rfl) ?_);(conv=>whnf))
 exact x.D):Ib C X f args A oS:=cT h (w ⟨ax⟩)
theorem jL{C:Nat->cG}{X:List Nat}{f:Nat}{args:List a1}{A t:be}{r:b2}{q:Prop}{oS:b2->be->Prop}(h:bj C X f args A λv A=>A=t/\v=r)(ax:q)(w:rG q->oS r t:=by
 intro x
 (conv=>whnf)
 repeat((first|refine .mk ⟨rfl,by simp only[List.length_cons,List.length_nil];omega⟩ ?_|refine .mk (by omega) ?_|refine .mk (by simp only[List.length_append,List.length_cons,List.length_nil];omega) ?_|refine .nice (by omega) ?_|refine .plain ?_|refine .yes (by decide) ?_|refine .no (by decide) ?_|refine oG (by kernel_rfl) ?_);(conv=>whnf))
 exact x.D):Ib C X f args A oS:=cT h (w ⟨ax⟩)
end Go.Tx
