/- A part. -/
import Derived.Test.YtkjmpcfikenlbaaGreatDoorX1
set_option linter.all false
namespace Go.Tx
open Go Go.Ev
section
variable{C:Nat->cE}{bo:kH}{P:dK}{es:aO}{ah:dM}{L E:bK}{A:bf}
def MO(C:Nat->cE)(bo:kH)(r:Nat->Bool)(hr:Bool)(X:aO)(f:b9)(args:bK)(S:c8)(k:a2->c8->Prop):Prop:=
 match reach S.A 9 [] (o5 r 0 args),mn ((tB r 0 args).flatMap (f6 S.A 3))with
  |[],aU=>match hr with
   |true=>hG (dH C) (k8 r [] (keeps S.A aU) 0 args) λdw=>(dH C).call [] f dw [] λv _=>t3 (yu v) (k (.J v) S) (t3 (!cf (s7 S.A (uF S.A aU)) v) (k (.J v) (S.fZ (z0 S.A aU))) (dH C).fail)|false=>hG (dH C) (k8 r [] (keeps S.A aU) 0 args) λdw=>(dH C).call [] f dw [] λv _=>k (.J v) (S.fZ aU)
  |a9,aU=>match mn (aU++a9.flatMap (t4 S.A))with
   |aU=>match kS aU a9&&lw a9&&xD (fq X) (fq bo.dL)&&xc a9 X bo.dL with
    |true=>hG (dH C) (k8 r a9 (keeps S.A aU) 0 args) λdw=>match S.fZ aU with
     |ow=>hG (dH C) (rE a9 ow.A 1000 a9) λej=>(dH C).call X f dw ej λv ej=>hG (dH C) (sB a9 1000 a9 ej (ow.bJ (fq X)).A) λA=>k (.J v) ⟨(ow.bJ (fq X)).L,(ow.bJ (fq X)).E,A⟩
    |false=>(dH C).fail
def ah5(f:b9)(qF:jX)(args:bK)(S:c8)(k:a2->c8->Prop):uJ (dH C) bo f qF args S k=match qF with
 |some g=>MO C bo (bo.sA g) (bo.flat g) (bo.mt g) f args S k
 |none=>MO C bo (λ_=>false) false [] f args S k:=by cases qF<;>rfl
def alo{r}{hr}{X}{f}{args}{k}{df:a2->c8->Prop}(h:NX C bo r hr X f args L E A k)(ar:∀v L E A,k v L E A->df v ⟨L,E,A⟩):MO C bo r hr X f args ⟨L,E,A⟩ df:=by
 have on:∀{S:c8}{v:a2},S.on (k v)->df v S:=λ{S v} h=>ar v S.L S.E S.A h;unfold NX at h;unfold MO;cases mB:reach A 9 [] (o5 r 0 args)with
 |nil=>
  rw[mB]at h;simp[yC]at h ⊢;cases hr with
  |true=>
   simp[zd]at h;have⟨dw,D,F⟩:=FT h;refine lp D (Qf F λv t aI=>?_);cases q:yu v with
   |true=>rw[q]at aI;exact ar _ _ _ _ aI|false=>rw[q]at aI;have⟨aq,aL⟩:=aI;rw[zb]at aL;rw[aq];exact on aL
  |false=>simp only[zd]at h;have⟨dw,D,F⟩:=FT h;refine lp D (Qf F λv t aI=>?_);simp_all[zb]
 |cons b a9=>
  rw[mB]at h;simp only[yC]at h ⊢;generalize mn (mn ((tB r 0 args).flatMap (f6 A 3))++(b::a9).flatMap (t4 A))=aU at h ⊢;cases q:(kS aU (b::a9)&&lw (b::a9)&&xD (fq X) (fq bo.dL)&&xc (b::a9) X bo.dL)with
  |false=>simp_all|true=>rw[q]at h;simp only[zd]at h;have⟨dw,D,F⟩:=FT h;rw[zb]at F;have⟨ej,aq,aL⟩:=F2 F;refine lp D (lp aq (Qf aL λv t aI=>?_));have bO:=Nb aI;have⟨bE,cr,fK⟩:=En bO;simp_all[lp]
variable{args:bK}{d aT:Nat}{k:rz}{df:a2->c8->Prop}{op:Op}{p v:a2}
def ZX{f qF}(h:Rj C bo f qF args L E A k)(ar:∀v L E A,k v L E A->df v ⟨L,E,A⟩):uJ (dH C) bo f qF args ⟨L,E,A⟩ df:=by rw[ah5];cases qF<;>exact alo h ar
def ag1{g}(h:SC C d g args L E A k)(ar:∀v L E A,k v L E A->df v ⟨L,E,A⟩):TA (dH C) d g args ⟨L,E,A⟩ df:=by
 have on:∀{S:c8}{v:a2},S.on (k v)->df v S:=λ{S v} h=>ar v S.L S.E S.A h;unfold SC at h;split at h
 .rename_i f b5 cV;obtain⟨bX,D,F⟩:=tL h;simp only[u6]at F;refine lp D ⟨f,b5,cV,rfl,λU Z H fV aj an=>?_⟩;obtain⟨ak,z,aJ,a,ax,az,bm,q,g⟩:=F.h U Z H fV aj an;refine⟨ak,z,aJ,a,ax,az,bm,?_,g⟩;simp_all[Bn]
 simp_all
def alC{t:TypeId}(h:Tj bo P t p v L E A k)(ar:∀v L E A,k v L E A->df v ⟨L,E,A⟩):Ce (dH C) bo P t ⟨L,E,A⟩ p v df:=by
 unfold Tj at h;split at h
 .rename_i g aJ aR iq;simp only[yC]at h;split at h
  .rename_i q;obtain⟨ak,⟨rfl,aP⟩,hm,h⟩:=h;have⟨ej,D,⟨F⟩⟩:=F2 h;unfold Ce;have aP:=dA.2 aP;simp only[ig]at q;simp only[vs,nz,aP,hm,q.1,q.2,adg];refine lp D ?_;refine F.imp λbX ej aI=>?_;have bO:=Nb aI;have⟨bE,cr,fK⟩:=En bO;simp_all[lp]
  simp_all
 .cases iw:yd bo.dL p with
  |true=>simp_all
  |false=>
  rw[iw]at h;have⟨e,D,F⟩:=aab (L:=L) (E:=E) h;have:Ce (dH C) bo P t ⟨L,E,A⟩ p v df=hG (dH C) (yS P t ⟨L,E,A⟩ p v) λbE=>df (.J .undef) ⟨L,E,bE⟩:=by
   unfold Ce;split
   .rename_i lO iq aD;cases lO with
    |hy g aJ aR=>grind|_=>unfold yS BY at D;grind
   .rw[iw]
  simp_all[lp]
def ac1(E):∀(l)(k),Fo E l k=k (H7 E l)
 |[],k=>rfl
 |s::l,k=>by unfold Fo H7;rw[Dt];generalize jv E s=e;cases e<;>simp only[ac1 E l]
def abL:∀(l)(bX)(E)(k),Kz E l bX k=k (IR E l bX)
 |[],bX,E,k=>by rfl
 |s::l,[],E,k=>rfl
 |s::l,t::r,E,k=>by unfold Kz IR;rw[AU,abL l r]
def anC{t:TypeId}(h:Ls bo P t p v L E A k)(ar:∀v L E A,k v L E A->df v ⟨L,E,A⟩):Cb (dH C) bo P t ⟨L,E,A⟩ p v df:=by
 unfold Ls at h;split at h
 .rename_i g aJ aR iq;simp only[yC]at h;split at h
  .rename_i q;obtain⟨ak,⟨rfl,aP⟩,hm,h⟩:=h;have⟨ej,D,F⟩:=F2 h;rw[ac1]at F;have⟨F⟩:=F;unfold Cb;have aP:=dA.2 aP;simp only[ig]at q;simp only[vs,nz,aP,hm,q.1,q.2,adg];refine lp D ?_;refine F.imp λbX ej aI=>?_;have bO:=Nb aI;simp only[c8.on,abL]at bO;have⟨bE,cr,fK⟩:=En bO;simp_all[lp]
  simp_all
 .cases iw:yd bo.dL p with
  |true=>simp_all
  |false=>
  rw[iw]at h;have⟨e,D,F⟩:=aab (L:=L) (E:=E) h;have:Cb (dH C) bo P t ⟨L,E,A⟩ p v df=hG (dH C) (yS P t ⟨L,E,A⟩ p v) λbE=>df (.J .undef) ⟨L,E,bE⟩:=by
   unfold Cb;split
   .rename_i lO iq aD;cases lO with
    |hy g aJ aR=>grind|_=>unfold yS BY at D;grind
   .rw[iw]
  simp_all[lp]
def YL(h:Ms C bo P es ah d op L E A k)(ar:∀v L E A,k v L E A->df v ⟨L,E,A⟩):q7 (dH C) bo P es ah d op ⟨L,E,A⟩ df:=by
 have on:∀{S:c8}{v:a2},S.on (k v)->df v S:=λ{S v} h=>ar v S.L S.E S.A h;unfold Ms at h;unfold q7;split at h
 .have⟨e,D,F⟩:=Sb (iM (A:=A) h);have⟨r,aq,aL⟩:=ahP F;exact lp D (lp aq (ar _ _ _ _ aL))
 .exact alC (iM (A:=A) (iM (A:=A) h)) ar
 .simp only;split at h
  .rename_i e D F;rw[D,F];simp only;split at h
   .rename_i aq aL;rw[aq,aL];have⟨l,bO,cr⟩:=ZL (iM (A:=A) h);have⟨s,fK,hI⟩:=tL cr;simp_all[lp,mI]
   simp_all
  simp_all
 .cases aV:bo.own d with
  |true=>
   rw[aV]at h;simp only at h ⊢;split at h
   .rename_i f aQ;rw[aQ];simp only;have D:=xY (A:=A) (iM (A:=A) h);revert D;generalize ey es ah ⟨L,E,A⟩ f=v;intro D;split at D
    .exact ag1 D ar
    simp_all
   simp_all
  |false=>
  rw[aV]at h;simp only at h ⊢;split at h
  .rename_i f aQ;rw[aQ];simp only;have D:=xY (A:=A) (iM (A:=A) h);revert D;generalize ey es ah ⟨L,E,A⟩ f=v;intro D;split at D
   .exact ZX D ar
   .simp[u6]at D;exact ZX D ar
   simp_all
  .rename_i aQ;rw[aQ];simp only;split at h
   .rename_i t a6 x y D F;rw[D,F];simp only;split at h
    .rename_i e aq;rw[aq];simp only;split at h
     .rename_i s b q aL bO cr;rw[aL,bO,cr];simp only;split at h
      .rename_i ak fK hI;rw[fK,hI];cases aX:Nat.beq t a6 with
       |false=>simp_all|true=>rw[aX]at h;have⟨l,lK,s4⟩:=ZL (iM (A:=A) h);have⟨r,pp,Ab⟩:=ab8 (iM (A:=A) s4);have⟨eH,f1,f2⟩:=R5 Ab;simp_all[lp,mI]
      .rename_i fK hI;rw[fK,hI];simp only;split at h
       .rename_i lK;rw[lK];have pp:=iM (A:=A) h;revert pp;generalize ey es ah ⟨L,E,A⟩ y=kq;intro pp;split at pp
        .have⟨r,Ab,s1⟩:=ab8 (iM (A:=A) pp);have⟨eH,f1,f2⟩:=R5 s1;exact lp ((mI Ab).trans f1) (on f2)
        simp_all
       simp_all
      simp_all
     simp_all
    simp_all
   simp_all
  simp_all
 simp_all
def WF:∀(l:di),g7 (h9 A 0) (l.map a2.J)=some l
 |[]=>rfl
 |a::l=>by simp[g7,h9,WF l]
def IL(amQ A:bf)(s:Nat)(p:Nat×a2):Option di:=cD (oA amQ p.2) λt=>cD (nS A (.J t) s) (g7 (h9 A 0))
def ZG{q s}:∀{l}{k},IN q s l k->∃Q,g7 (IL q A s) l=some Q/\k Q
 |[],k,h=>⟨_,rfl,h⟩
 |(i,v)::l,k,h=>by
  have⟨t,D,F⟩:=UB h;have step:∀{r:di},IL q A s (i,v)=some r->IN q s l (λQ=>k (r::Q))->∃Q,g7 (IL q A s) ((i,v)::l)=some Q/\k Q:=by intro r ag aq;have⟨Q,aL,bO⟩:=ZG aq;simp_all[g7]
  split at F
  .rename_i r;split at F
   .rename_i aq aL;refine step ?_ F;unfold IL;rw[mI D,aai (λe=>by simp_all) aq];exact WF r
   simp_all
  .split at F
   .rename_i aq;refine step ?_ F;unfold IL;rw[mI D];have:nS A (.J t) 1=some [.J t]:=by show(match oN t with|true=>some [a2.J t]|false=>none)=_;rw[aq]
    rw[this];rfl
   simp_all
def Yg{k}(h:NU bo P es ah d op L E A k):∃r,A6 bo P es ah d op ⟨L,E,A⟩=some r/\k r.1 r.2:=by
 unfold NU at h;unfold A6;split at h
 .simp only;split at h
  .rename_i z n D F;rw[D,F];simp only;cases q:Nat.beq z.length (n+1)with
   |true=>simp_all[L5]|false=>simp_all
  simp_all
 .rename_i ak x;simp only;split at h
  .rename_i n D;rw[D];simp only;have F:=iM (A:=A) h;revert F;generalize ey es ah ⟨L,E,A⟩ x=v;intro F;split at F
   .rename_i a6;cases n with
    |zero=>
     simp only at F ⊢;cases q:oN a6<;>simp_all
    |succ n=>
     simp only at F ⊢;split at F
     .rename_i l;rw[XC];cases q:gC l (n+2)with
      |true=>
       rw[q]at F;cases aV:bo.own d with
       |true=>rw[aV]at F;simp[FC]at F;exact⟨_,rfl,F⟩|false=>rw[aV]at F;exact⟨_,rfl,F⟩
      |false=>simp_all
     simp_all
   .rename_i aI;have⟨c,aq,aL⟩:=Ov F;split
    .simp_all
    .exact⟨_,mI aq,aL⟩
  simp_all
 .rename_i t n c7;simp only;split at h
  .rename_i e D;rw[D];simp only;split at h
   .rename_i s F;rw[F];simp only;have aq:=Ky (A:=A) h;revert aq;generalize v4:rg es ah ⟨L,E,A⟩ c7.toList=lg;intro aq;cases q:(Nat.beq c7.toList.length n&&(lg.map Prod.fst==List.range n)&&Nat.blt 0 n&&Nat.ble (n*(s+1)) 100000&&(p6 P e).isSome)with
    |false=>grind
    |true=>
     rw[q]at aq;simp[yC,zd]at aq;have⟨Q,aL,bO⟩:=ZG (A:=A) aq;have z1:nx es ah (.buildSlice t n c7) ⟨L,E,A⟩=mn (lg.flatMap λp=>f6 A 3 p.2):=by show mn ((rg es ah ⟨L,E,A⟩ c7.toList).flatMap λp=>f6 A 3 p.2)=_;rw[v4]
     rw[z1];have cr:g7 (λp:Nat×a2=>cD (oA (keeps A (mn (lg.flatMap λp=>f6 A 3 p.2))) p.2) λt=>cD (nS A (.J t) (s+1)) (g7 (h9 A 0))) lg=some Q:=aL;rw[mI cr];cases b4:bo.grow d with
     |true=>
      rw[b4]at bO;simp only at bO ⊢;split at bO
      all_goals simp_all
     |false=>simp_all
   simp_all
  simp_all
 .simp only;split at h
  .rename_i e D;rw[D];simp only;split at h
   .rename_i s z F aq;rw[F,aq];simp only;cases q:(Nat.beq z.length (s+1)&&Nat.ble ((vO P e).getD 1001) 1000)with
    |false=>simp_all|true=>rw[q]at h;have aL:=iM (A:=A) (iM (A:=A) h);have⟨n,aP,bO⟩:=DG aL;have⟨m,a3,⟨cr,fK⟩,hI⟩:=DG bO;have⟨aJ,lK,s4⟩:=tL hI;rw[aP,a3,Gi,Gi,C1 rfl rfl,dA.2 cr,dg.2 fK];exact⟨_,mI lK,s4⟩
   simp_all
  simp_all
 simp_all
def ajA{d:Nat}{op:Op}{S:c8}{v:a2}{B:Option fB}{df:a2->c8->Prop}(h:A6 bo P es ah d op S=some (v,B))(ar:match B with|some B=>df v (S.put d (g8 (e1 d) B))|none=>df v (S.fZ (nx es ah op S))):NJ (dH C) bo P es ah d op S df:=by refine lp h ?_;grind
def ao0(h:Yh bo P es ah d op L E A k)(ar:∀v L E A,k v L E A->df v ⟨L,E,A⟩):NJ (dH C) bo P es ah d op ⟨L,E,A⟩ df:=by
 have on:∀{S:c8}{v:a2},S.on (k v)->df v S:=λ{S v} h=>ar v S.L S.E S.A h;have⟨⟨v,B⟩,D,F⟩:=Yg h;refine ajA D ?_;cases B with
 |some B=>simp_all[aaH,Bn]
 |none=>
  simp only at F;split at F
  .have aq:=Ky (A:=A) F;simp[yC,zb]at aq;exact on aq
  simp_all
def ajp(h:Vz C bo P es ah d op L E A k)(ar:∀v L E A,k v L E A->df v ⟨L,E,A⟩):JK (dH C) bo P es ah d op ⟨L,E,A⟩ df:=by
 unfold Vz at h;unfold JK;cases q:me P op with
 |pure=>rw[q]at h;have⟨e,D,F⟩:=abd h;simp_all[lp]|sO=>rw[q]at h;exact ao0 h ar|wr=>rw[q]at h;exact YL h ar
def apc(h:w3 C bo P es ah d op L E A k)(ar:∀v L E A,k v L E A->df v ⟨L,E,A⟩):CV (dH C) bo P es ah d op ⟨L,E,A⟩ df:=by
 unfold w3 at h;unfold CV;split at h
 .exact anC (iM (A:=A) (iM (A:=A) h)) ar
 .rename_i aD;split
  .simp_all
  .exact ajp h ar
def ZZ{lB y n zp cI}(h:Hy ah d lB L y n)(aE:∀L,y L->zp ⟨L,E,A⟩)(aD:∀L,n L->cI ⟨L,E,A⟩):Bs (dH C) ah d lB ⟨L,E,A⟩ zp cI:=by
 unfold Hy at h;unfold Bs;split at h
 .rename_i i bq;rw[bq];rw[Dt]at h;simp only;revert h;generalize jv L i=v;intro h;split at h
  .simp_all
  .rcases h with⟨aB,h⟩|⟨aB,h⟩
   .refine .yes aB ?_;cases lB
    .simp_all[KL]
    simp_all[KL]
   .refine .no aB ?_;cases lB
    .simp_all[KL]
    simp_all[KL]
  simp_all
 simp_all
def acU{pY k df}(h:tJ es aT pY v L E k)(ar:∀L E,k L E->df ⟨L,E,A⟩):A0 (dH C) es aT pY v ⟨L,E,A⟩ df:=by
 unfold tJ at h;unfold A0;cases pY with
 |none=>simp_all
 |some d=>
  simp at h ⊢;cases q:Nat.blt d aT with
  |false=>simp_all
  |true=>
   rw[q]at h;cases aX:jB d es with
   |none=>simp_all|some i=>simp_all[AU]
def Qh(B)(k):KU B k=k (B.getD 0):=by cases B<;>rfl
def Sl{av}:∀{l}{ah}{L E}{A}{k}{df},k4 C bo P es aT av ah l L E A k->(∀L E A,k L E A->df ⟨L,E,A⟩)->zx (dH C) bo P es aT av ah l ⟨L,E,A⟩ df
 |[],ah,L,E,A,k,df,h,ar=>ar _ _ _ h
 |B::l,ah,L,E,A,k,df,h,ar=>by
  unfold k4 at h;unfold zx;cases q:(z7 B.op|| !Nat.blt (B.dst.getD 0) 1000)with
  |true=>simp_all
  |false=>
   rw[q]at h;simp[Qh]at h ⊢;have run:∀{L E:bK}{A:bf},(w3 C bo P es ah (B.dst.getD 0) B.op L E A λv L E A=>tJ es aT B.dst v L E λL E=>k4 C bo P es aT av (B.dst::ah) l L E A k)->
    CV (dH C) bo P es ah (B.dst.getD 0) B.op ⟨L,E,A⟩ λv S=>A0 (dH C) es aT B.dst v S λS=>zx (dH C) bo P es aT av (B.dst::ah) l S df:=by
    intro L E A h
    exact apc h λv L E A h=>acU h λL E h=>Sl h ar
   split at h
   .simp_all
   .rename_i j w bI;rw[bI];simp only;split at h
    .rename_i g bl;rw[bl];exact ZZ h (λL h=>run h) (λL h=>acU h λL E h=>Sl h ar)
    simp_all
end
section
variable{C:Nat->cE}{bo:kH}{P:dK}{es:aO}{ah:dM}{L E:bK}{A:bf}{dt dZ:List (Nat×Nat)}{d8:aO}
variable{aT:Nat}{op:Op}{av:gT}
def afM{k}(h:I7.Uf es ah op L E A k):k (nx es ah op ⟨L,E,A⟩):=by
 unfold I7.Uf at h;split at h
 .have D:=Ky (A:=A) h;rw[yC]at D;exact D
 simp_all[nx]
def aha{i v d k df}(h:I7 bo P es ah i v d op L E A dt dZ d8 k)(ar:∀v L E A dt dZ d8,k v L E A dt dZ d8->df v ⟨⟨L,E,A⟩,dt,dZ,d8⟩):xB (dH C) bo P es ah i v d op ⟨⟨L,E,A⟩,dt,dZ,d8⟩ df:=by
 unfold I7 at h;unfold xB;split at h
 .rename_i t x;simp;have D:=iM (A:=A) h;revert D;generalize ey es ah ⟨L,E,A⟩ x=p;intro D;have⟨e,F,aq⟩:=Sb D;refine lp F ?_;cases v with
  |false=>simp_all
  |true=>
   cases aX:(KH bo.dL p&&KT A e)with
   |false=>simp_all|true=>rw[aX]at aq;simp[u6]at aq;exact ar _ _ _ _ _ _ _ aq
 .rename_i aD;split
  .simp_all
  .cases q:me P op with
   |pure=>rw[q]at h;have⟨e,D,F⟩:=abd h;simp_all[lp]|wr=>simp_all
   |sO=>
    rw[q]at h;have D:=afM h;cases aX:(Nat.blt d 1000&&kS [d] (sites dZ++sites dt)&&kS (nx es ah op ⟨L,E,A⟩) (sites dt))with
    |false=>simp_all
    |true=>
     rw[aX]at D;rw[zb]at D;unfold c8.on at D;have⟨⟨v,B⟩,F,aq⟩:=Yg D;refine lp F ?_;cases B with
     |none=>simp_all|some B=>simp[aaH,Bn,Br]at aq;exact ar _ _ _ _ _ _ _ aq
def QV(A):∀(l)(k),Ew A l k=k (kI A l)
 |[],k=>rfl
 |s::l,k=>by
  simp only[Ew,kI];cases look A s with
  |none=>exact QV A l k|some B=>exact QV A l _
def Oe:∀(A)(k),Ai A k=k (pT A)
 |[],k=>rfl
 |(s,.box ak z (.bS l))::r,k=>by simp[Ai,pT,Oe r]
 |(s,.box ak z (.cb l))::r,k=>by simp[Ai,pT,Oe r]
 |(s,.bF ak z Q u)::r,k=>by simp[Ai,pT,Oe r]
def xQ{X}{B}{k}(h:aaj X B k):k (rX X B):=by
 cases X with
 |nil=>exact h|cons a X=>exact Xt h
def uu{X}:∀{A}{es}{k},sF X A es k->k (xO X A es)
 |[],es,k,h=>by cases es<;>exact h
 |(s,.box ak z (.bS g3))::r,[],k,h=>by have D:=xQ (B:=.box ak z (.bS g3)) (k:=λB=>sF X r [] λq=>k ((s,B)::q)) h;exact uu (A:=r) (es:=[]) (k:=λq=>k ((s,_)::q)) D
 |(s,.box ak z (.bS g3))::r,.agg l::es,k,h=>uu (A:=r) (es:=es) (k:=λq=>k ((s,.box ak z (.bS l))::q)) h
 |(s,.box ak z (.bS g3))::r,.J t::es,k,h=>by have D:=xQ (B:=.box ak z (.bS g3)) (k:=λB=>sF X r (.J t::es) λq=>k ((s,B)::q)) h;exact uu (A:=r) (es:=.J t::es) (k:=λq=>k ((s,_)::q)) D
 |(s,.box ak z (.bS g3))::r,.i4::es,k,h=>by have D:=xQ (B:=.box ak z (.bS g3)) (k:=λB=>sF X r (.i4::es) λq=>k ((s,B)::q)) h;exact uu (A:=r) (es:=.i4::es) (k:=λq=>k ((s,_)::q)) D
 |(s,.box ak z (.bS g3))::r,.bx::es,k,h=>by have D:=xQ (B:=.box ak z (.bS g3)) (k:=λB=>sF X r (.bx::es) λq=>k ((s,B)::q)) h;exact uu (A:=r) (es:=.bx::es) (k:=λq=>k ((s,_)::q)) D
 |(s,.box ak z (.bS g3))::r,.bN a b::es,k,h=>by have D:=xQ (B:=.box ak z (.bS g3)) (k:=λB=>sF X r (.bN a b::es) λq=>k ((s,B)::q)) h;exact uu (A:=r) (es:=.bN a b::es) (k:=λq=>k ((s,_)::q)) D
 |(s,.box ak z (.bS g3))::r,.bD a::es,k,h=>by have D:=xQ (B:=.box ak z (.bS g3)) (k:=λB=>sF X r (.bD a::es) λq=>k ((s,B)::q)) h;exact uu (A:=r) (es:=.bD a::es) (k:=λq=>k ((s,_)::q)) D
 |(s,.box ak z (.bS g3))::r,.fU a b c::es,k,h=>by have D:=xQ (B:=.box ak z (.bS g3)) (k:=λB=>sF X r (.fU a b c::es) λq=>k ((s,B)::q)) h;exact uu (A:=r) (es:=.fU a b c::es) (k:=λq=>k ((s,_)::q)) D
 |(s,.box ak z (.bS g3))::r,.fn a b c::es,k,h=>by have D:=xQ (B:=.box ak z (.bS g3)) (k:=λB=>sF X r (.fn a b c::es) λq=>k ((s,B)::q)) h;exact uu (A:=r) (es:=.fn a b c::es) (k:=λq=>k ((s,_)::q)) D
 |(s,.box ak z (.cb g3))::r,es,k,h=>by have D:=xQ (B:=.box ak z (.cb g3)) (k:=λB=>sF X r es λq=>k ((s,B)::q)) (by cases es<;>exact h);have F:=uu (A:=r) (es:=es) (k:=λq=>k ((s,_)::q)) D;cases es<;>exact F
 |(s,.bF ak z Q u)::r,es,k,h=>by have D:=xQ (B:=.bF ak z Q u) (k:=λB=>sF X r es λq=>k ((s,B)::q)) (by cases es<;>exact h);have F:=uu (A:=r) (es:=es) (k:=λq=>k ((s,_)::q)) D;cases es<;>exact F
def Vs(b)(k):JD.Er b k=k b:=by cases b<;>rfl
def aja{k}(h:JD bo es ah op L E k):k (yg bo es ah op ⟨L,E,A⟩):=by
 unfold JD at h;unfold yg;split at h
 .rename_i c;simp only;split at h
  .rename_i f aQ;rw[aQ];simp only;have D:=xY (A:=A) (iM (A:=A) h);revert D;generalize ey es ah ⟨L,E,A⟩ f=v;intro D;split at D
   .rw[Vs]at D;grind
   .rw[Vs]at D;grind
   simp_all
  simp_all
 simp_all
def aic{d}{op}{dt}{k}(h:Pb bo es ah d op L E A dt k):k (xt bo es ah d op ⟨L,E,A⟩ dt):=by
 unfold Pb at h;unfold xt;cases aV:bo.own d with
 |true=>simp_all
 |false=>
 rw[aV]at h;simp only at h ⊢;split at h
 .rename_i c;simp only;split at h
  .rename_i f aQ;rw[aQ];simp only;have D:=xY (A:=A) (iM (A:=A) h);revert D;generalize ey es ah ⟨L,E,A⟩ f=v;intro D;split at D
   .rw[Vs]at D;exact D
   simp_all
  simp_all
 simp_all
def ao4{d}{op}{dt}{q}{k}(h:lM q (Pb bo es ah d op L E A dt) k):k (q||xt bo es ah d op ⟨L,E,A⟩ dt):=by
 cases q with
 |true=>exact h|false=>exact aic h
def afD{m d}{op}{k}{df}(h:UD C bo P es ah m d op L E A dt dZ d8 k)(ar:∀v L E A dt dZ d8,k v L E A dt dZ d8->df v ⟨⟨L,E,A⟩,dt,dZ,d8⟩):Kn (dH C) bo P es ah m d op ⟨⟨L,E,A⟩,dt,dZ,d8⟩ df:=by
 unfold UD at h;unfold Kn;simp only[Br,QV,Oe,u6,Oh]at h;have D:=aja (A:=kh A (sites (g2 m dZ))) h;have D:=ao4 D;simp only[yC]at D;simp only;have ag:zN ⟨⟨L,E,A⟩,dt,dZ,d8⟩ (sites (g2 m dZ))=⟨L++pT (kI A (sites (g2 m dZ))),E,kh A (sites (g2 m dZ))⟩:=rfl;rw[ag];revert D;generalize(yg bo es ah op ⟨L++pT (kI A (sites (g2 m dZ))),E,kh A (sites (g2 m dZ))⟩||xt bo es ah d op ⟨L++pT (kI A (sites (g2 m dZ))),E,kh A (sites (g2 m dZ))⟩ (sites (g2 m dt)))=q;intro D;generalize hidden q (sites (g2 m dZ)) (sites (g2 m dt))=aY at D ⊢;split at D
 .rename_i F aq;rw[F,aq];refine YL D λv gK mM m3 aL=>?_;cases aX:(EH aY v&&vi aY m3&&(!q||yO m3 ((sites (g2 m dt)).filter λs=> !cn s aY)))with
  |false=>simp_all|true=>rw[aX]at aL;simp[BZ,A5]at aL;have bO:=uu aL;exact ar _ _ _ _ _ _ _ bO
 simp_all
def WH{B y k zp df}(h:M5 aT av ah B L E A dt dZ d8 y k)(aE:∀L (q:a2->pg)(eP:a2->nf->Prop),y L q->(∀v L E A dt dZ d8,q v L E A dt dZ d8->eP v ⟨⟨L,E,A⟩,dt,dZ,d8⟩)->zp ⟨⟨L,E,A⟩,dt,dZ,d8⟩ eP)(ar:∀L E A dt dZ d8,k L E A dt dZ d8->df ⟨⟨L,E,A⟩,dt,dZ,d8⟩):CL (dH C) aT av ah B ⟨⟨L,E,A⟩,dt,dZ,d8⟩ zp df:=by
 unfold M5 at h;have abQ:(match B.guard with
  |none=>y L λv L E A dt dZ d8=>k (v::L) E A dt dZ d8
  |some (j,w)=>match(av[j]?).bind (·.dst)with
   |some d=>Hy ah d w L
    (λL=>y L λv L E A dt dZ d8=>k (v::L) E A dt dZ d8)
    (λL=>k (.i4::L) E A dt dZ d8)
   |none=>False)->(match B.guard with
  |none=>zp ⟨⟨L,E,A⟩,dt,dZ,d8⟩ λv a5=>df ⟨⟨v::a5.S.L,a5.S.E,a5.S.A⟩,a5.iX,a5.jE,a5.d8⟩
  |some (j,w)=>match(av[j]?).bind (·.dst)with
   |some d=>Bs (dH C) ah d w ⟨L,E,A⟩
    (λS=>zp ⟨S,dt,dZ,d8⟩ λv a5=>df ⟨⟨v::a5.S.L,a5.S.E,a5.S.A⟩,a5.iX,a5.jE,a5.d8⟩)
    (λS=>df ⟨⟨.i4::S.L,S.E,S.A⟩,dt,dZ,d8⟩)
   |none=>(dH C).fail):=by
  intro h
  split at h
  .grind
  .rename_i j w bI;split at h
   .rename_i d bl;try rw[bl]
    refine ZZ h (λL h=>?_) (λL h=>?_)
    all_goals grind
   simp_all
 cases aY:B.dst with
 |none=>rw[aY]at h;unfold CL;rw[aY];exact abQ h
 |some d=>
  rw[aY]at h;unfold CL;rw[aY];simp at h ⊢;cases q:Nat.blt d aT with
  |false=>simp_all|true=>rw[q]at h;exact abQ h
def Vq{jx}:∀{l}{ah}{L E}{A}{dt dZ}{d8}{k}{df},J7 bo P es aT av jx ah l L E A dt dZ d8 k->(∀L E A dt dZ d8,k L E A dt dZ d8->df ⟨⟨L,E,A⟩,dt,dZ,d8⟩)->BK (dH C) bo P es aT av jx ah l ⟨⟨L,E,A⟩,dt,dZ,d8⟩ df
 |[],ah,L,E,A,dt,dZ,d8,k,df,h,ar=>ar _ _ _ _ _ _ h
 |i::l,ah,L,E,A,dt,dZ,d8,k,df,h,ar=>by
  unfold J7 at h;unfold BK;split at h
  .rename_i B aV;rw[aV];simp[Qh]at h ⊢;refine WH h (λL q eP h a0=>aha h a0) λL E A dt dZ d8 h=>Vq h ar
  simp_all
def aam{aT}{av}{bb}:∀{l}{ah}{L E}{A}{dt dZ}{d8}{k}{df},OS C bo P es aT av bb ah l L E A dt dZ d8 k->(∀L E A dt dZ d8,k L E A dt dZ d8->df ⟨⟨L,E,A⟩,dt,dZ,d8⟩)->Gn (dH C) bo P es aT av bb ah l ⟨⟨L,E,A⟩,dt,dZ,d8⟩ df
 |[],ah,L,E,A,dt,dZ,d8,k,df,h,ar=>ar _ _ _ _ _ _ h
 |(aH,w)::l,ah,L,E,A,dt,dZ,d8,k,df,h,ar=>by
  unfold OS at h;unfold Gn;split at h
  .rename_i B aV;rw[aV];simp[Qh]at h ⊢;refine Vq h λL E A dt dZ d8 h=>?_;exact WH h (λL q eP h a0=>afD h a0) λL E A dt dZ d8 h=>aam h ar
  simp_all
def CI:∀(ah)(L E)(k),xk es ah L E k=k (By es ah L E)
 |[],L,E,k=>by cases L<;>rfl
 |d::ah,[],E,k=>by
  unfold xk By;cases d with
  |none=>exact CI ah [] E k
  |some d=>
   simp only;cases jB d es with
   |none=>exact CI ah [] E k|some i=>simp only[AU];exact CI ah [] _ k
 |d::ah,v::L,E,k=>by
  unfold xk By;cases d with
  |none=>exact CI ah L E k
  |some d=>
   simp only;cases jB d es with
   |none=>exact CI ah L E k|some i=>simp only[AU];exact CI ah L _ k
def ano{bb pl k df}(h:Vk C bo P es aT av bb pl E A k)(ar:∀E A,k E A->df E A):MP (dH C) bo P es aT av bb pl E A df:=by
 unfold Vk at h;unfold MP;split at h
 .rename_i au;rw[au];refine aam h λL E A dt dZ d8 h=>?_;refine Vq h λL E A dt dZ d8 h=>?_;simp_all[CI]
 simp_all
end
def Ec:∀(l)(E)(k),v5 E l k=k (forget E l)
 |[],E,k=>rfl
 |i::l,E,k=>by simp[v5,AU,forget,Ec l]
variable{C:Nat->cE}{E:bK}{P:dK}{a n:Nat}{b:Bool}{es:aO}{k:b9->bf->Prop}{A:bf}
def amX{H k df}(h:oO H E A k)(ar:∀E A,k E A->df E A):norm (dH C) H E A df:=by
 unfold oO at h;unfold norm;cases H with
 |none=>simp_all
 |some H=>
  simp at h ⊢;rw[Ec,yP,xH,zb]at h;revert h;intro h;split at h
  .rename_i aC;have⟨bE,D,F⟩:=tL h;rw[aC];exact lp rfl (lp D (ar _ _ F))
  .have⟨r,D,F⟩:=tL h;have⟨bE,aq,aL⟩:=tL F;simp[V9,yP,Br,show(dF id)=id from tZ sT]at aL;exact lp D (lp aq (ar _ _ aL))
def adq{b ep}(aB:∀a bz E A,(∀E A,a E A->bz E A)->b a E A->ep bz E A):∀n E A,eE b n E A->eE ep n E A
 |0,_,_,h=>h|n+1,E,A,h=>aB _ _ E A (λE A=>adq aB n E A) h
section
variable{C:Nat->cE}{bo:kH}{jc:Nat->Option qq}{P:dK}{es:aO}{aT:Nat}
def alV:∀{c}{id}{E}{A}{ce uT:bK->bf->Prop}{bJ vf:yy->bK->bf->Prop},lG C bo jc P es aT c id E A ce bJ->(∀E A,ce E A->uT E A)->(∀x E A,bJ x E A->vf x E A)->rl (dH C) bo jc P es aT c id E A uT vf:=by
 intro c;induction c with
 |skip=>intro id E A ce uT bJ vf h aD M;exact aD _ _ h
 |region i av b=>
  intro id E A ce uT bJ vf h aD M;cases b with
  |false=>exact Sl h λL E A h=>aD _ _ h|true=>have⟨D,F⟩:=h;unfold rl;rw[D];exact ano F aD
 |seq a b vI uX=>
  intro id E A ce uT bJ vf h aD M;unfold lG at h;unfold rl;split at h
  .exact vI h (λE A h=>uX h aD M) M
  .rcases h with h|⟨bv,D,F⟩
   .exact vI h (λE A h=>uX h aD M) M
   .exact vI D (λE A h=>uX (F E A h) aD M) M
 |cond c a b vI uX=>
  intro id E A ce uT bJ vf h aD M;unfold lG at h;unfold rl;have D:=iM (A:=A) h;revert D;generalize ey es [] ⟨[],E,A⟩ c=v;intro D;split at D
  .rcases D with⟨a0,D⟩|⟨a0,D⟩
   .exact .yes a0 (vI D aD M)
   .exact .no a0 (uX D aD M)
  simp_all
 |block i c bQ=>
  intro id E A ce uT bJ vf h aD M;refine bQ h aD λx E A h=>?_;grind
 |loop c bQ=>intro id E A ce uT bJ vf h aD M;have⟨⟨n,h⟩⟩:=h;refine⟨n,adq (λa bz E A aC h=>?_) n E A h⟩;exact amX h λE A h=>bQ h aC M|exit i=>intro id E A ce uT bJ vf h aD M;exact M _ _ _ h|ret=>intro id E A ce uT bJ vf h aD M;exact M _ _ _ h|_=>intro id E A ce uT bJ vf h aD M;exact h.elim
end
def R8{A}:∀{l}{k},Nh P es E A l k->∃r,F5 P es ⟨[],E,A⟩ l=some r/\k r
 |[],k,h=>⟨_,rfl,h⟩
 |.tmp t::l,k,h=>by have⟨r,D,F⟩:=R8 (l:=l) (iM (A:=A) h);exact⟨_,mI D,F⟩
 |.cell a t::l,k,h=>by have⟨v,D,F⟩:=Sb (iM (A:=A) h);have⟨r,aq,aL⟩:=R8 (l:=l) F;exact⟨_,C1 D aq,aL⟩
def acm:∀{l}{k},UL A l k->∃r,g7 (oA A) l=some r/\k r
 |[],k,h=>⟨_,rfl,h⟩
 |v::l,k,h=>by have⟨t,D,F⟩:=UB h;have⟨r,aq,aL⟩:=acm (l:=l) F;simp_all[g7]
def aqR(bX)(k):acZ bX k=k (Pe bX):=by
 match bX with
 |[]=>rfl|[t]=>rfl|_::_::_=>rfl
def aal{ax iu}(h:Q3 P es ax iu E A k):finish (dH C) P es ax iu E A k:=by have⟨fx,D,F⟩:=R8 h;simp[zd]at F;have⟨bX,aq,aL⟩:=acm F;rw[zb]at aL;have⟨bE,bO,cr⟩:=tL aL;rw[aqR]at cr;exact lp D (lp aq (lp bO cr))
def ad8{ap jc je f args}(h:Hb C ap jc P je f args A k):Kv (dH C) ap jc P je f args A k:=by
 unfold Hb at h;unfold Kv;split at h
 .rename_i fn a1;rw[a1];simp only;split at h
  .rename_i c aB;rw[aB];simp only;split at h
   .rename_i a0;rw[a0];simp[u6,yP,show(dF id)=id from tZ sT]at h ⊢;refine alV h (λE A h=>aal h) λx E A h=>?_;cases x with
    |ret=>exact aal h|exit i=>simp_all
   simp_all
  simp_all
 simp_all
def rH{b}{x y}(D:a<b->x)(br:b<=a->y):lY (Nat.blt a b) x y:=by
 cases q:Nat.blt a b with
 |true=>exact .yes rfl (D (dg.1 q))
 |false=>exact .no rfl (br (Nat.le_of_not_lt λh=>by rw[dg.2 h]at q;cases q))
def Ww{a b:Nat}{x y}(D:a<=b->x)(br:b<a->y):lY (Nat.ble a b) x y:=by
 cases q:Nat.ble a b with
 |true=>exact .yes rfl (D (dT.1 q))
 |false=>exact .no rfl (br (Nat.lt_of_not_le λh=>by rw[dT.2 h]at q;cases q))
def Te{a b:Nat}{x y}(D:a=b->x)(br:a≠b->y):lY (Nat.beq a b) x y:=by
 cases q:Nat.beq a b with
 |true=>exact .yes rfl (D (dA.1 q))
 |false=>exact .no rfl (br λh=>by simp_all)
def NN{a b}{x y}(D:a=b->x)(br:a≠b->y):lY (iA a b) x y:=by
 cases q:iA a b with
 |true=>exact .yes rfl (D (by simpa[iA]using q))
 |false=>exact .no rfl (br λh=>by subst h;simp[iA]at q)
def lT{x y}(h:lY b y x):lY (!b) x y:=by
 rcases h with⟨h,cz⟩|⟨h,cz⟩<;>subst h
 .exact .no rfl cz
 .exact .yes rfl cz
def mr{a}{x y}(h:lY a (lY b x y) y):lY (a&&b) x y:=by
 rcases h with⟨h,cz⟩|⟨h,cz⟩<;>subst h
 .grind
 .exact .no rfl cz
def mD{a}{x y}(h:lY a x (lY b x y)):lY (a||b) x y:=by
 rcases h with⟨h,cz⟩|⟨h,cz⟩<;>subst h
 .exact .yes rfl cz
 grind
def Q6{body}(bv:Nat->bK->bf->Prop)(br:∃m,bv m E A)(ap:∀m ba E A,bv m E A->(∀i7 fe bE,i7<m->bv i7 fe bE->ba fe bE)->body ba E A):sk body E A:=⟨ajj bv br ap⟩
def aW{C}{X}{f}{args}{A}{b8 ov}(h:bU C X f args A b8)(a0:∀v A,b8 v A->ov v A):IF C X f args A ov:=⟨h.imp a0⟩
def In:eo 9223372036854775808 18446744073709551616 0 18446744073709551615=false:=af
def Wg(aD:n<18446744073709551616)(D:eo 9223372036854775808 18446744073709551616 1 n):1<=n/\n<9223372036854775808:=by have D:=dT.1 D;rw[show Nat.mod (Nat.add 9223372036854775808 1) 18446744073709551616=9223372036854775809 from rfl]at D;have e:Nat.mod (Nat.add 9223372036854775808 n) 18446744073709551616=(9223372036854775808+n) % 18446744073709551616:=rfl;grind
def ajX(aD:n<9223372036854775808)(D:eo 9223372036854775808 18446744073709551616 n 1000):n<=1000:=by simp_all[Vb]
def ag7{P}(bq:P)(aD:n<18446744073709551616)(D:eo 9223372036854775808 18446744073709551616 1 n)(F:eo 9223372036854775808 18446744073709551616 n 1000):P/\1<=n/\n<=1000:=⟨bq,(Wg aD D).1,ajX (Wg aD D).2 F⟩
def pN{P:Prop}(h:true=false):P:=by cases h
def kn{P:Prop}(h:false):P:=by cases h
def eh{b}{x y}(D:a<b->x)(br:b<=a->y):lY (Nat.blt a b) x y:=rH D br
def jQ{a b:Nat}{x y}(D:a<=b->x)(br:b<a->y):lY (Nat.ble a b) x y:=Ww D br
def ch{a b:Nat}{x y}(D:a=b->x)(br:a≠b->y):lY (Nat.beq a b) x y:=Te D br
def cQ{a b}{x y}(D:a=b->x)(br:a≠b->y):lY (iA a b) x y:=NN D br
def eQ{x y}(h:lY b y x):lY (!b) x y:=lT h
def eO{x y}(D:b=true->x)(br:b=false->y):lY b x y:=j0 D br
def qi{bb av pl}{x}(h:xS P bb av pl)(M:x):bV (xS P bb av pl) x:=⟨h,M⟩
def Jq(a b:Nat):Nat.ble a b=decide (a<=b):=by rw[Bool.eq_iff_iff,dT,Kf]
def Fz(a b):Nat.blt a b=decide (a<b):=by rw[Bool.eq_iff_iff,dg,Kf]
def ajr(a b:Nat):Nat.beq a b=decide (a=b):=by rw[Bool.eq_iff_iff,dA,Kf]
def S6(a b):iA a b=decide (a=b):=by rw[Bool.eq_iff_iff];simp[iA]
structure te(q:Prop):Type where
 B:q
theorem N{p q:Prop}(h:q)(w:te q->p:=by
 intro x
 (conv=>whnf)
 repeat((first|refine .nice (by omega) ?_|refine .plain ?_|refine .yes (by decide) ?_|refine .no (by decide) ?_|refine qi (by kernel_rfl) ?_);(conv=>whnf))
 exact x.B):p:=w ⟨h⟩
theorem bw{p q:Prop}(h:q)(w:te q->p:=by
 intro x
 (conv=>whnf)
 repeat((first|refine .mk ⟨rfl,by simp only[List.length_cons,List.length_nil];omega⟩ ?_|refine .mk (by omega) ?_|refine .mk (by simp only[List.length_append,List.length_cons,List.length_nil];omega) ?_|refine .nice (by omega) ?_|refine .plain ?_|refine .yes (by decide) ?_|refine .no (by decide) ?_|refine qi (by kernel_rfl) ?_);(conv=>whnf))
 exact x.B):p:=w ⟨h⟩
theorem dk{p q:Prop}(h:q)(w:te q->p:=by
 intro x
 (conv=>whnf)
 repeat((first|refine .yes (dg.2 be) ?_|refine⟨be,⟨_,ag,?_⟩⟩|refine .nice (by omega) ?_|refine .plain ?_|refine .yes (by decide) ?_|refine .no (by decide) ?_|refine qi (by kernel_rfl) ?_);(conv=>whnf))
 exact x.B):p:=w ⟨h⟩
theorem dd{p q:Prop}(h:q)(w:te q->p:=by
 intro x
 (conv=>whnf)
 repeat((first|refine .no (pe _) ?_|refine .nice (by omega) ?_|refine .plain ?_|refine .yes (by decide) ?_|refine .no (by decide) ?_|refine qi (by kernel_rfl) ?_);(conv=>whnf))
 exact x.B):p:=w ⟨h⟩
theorem zL{p q:Prop}(h:q)(w:te q->p:=by
 intro x
 (conv=>whnf)
 repeat((first|refine .yes (dg.2 be) ?_|refine⟨be,⟨_,ag,?_⟩⟩|refine .mk ⟨rfl,by simp only[List.length_cons,List.length_nil];omega⟩ ?_|refine .mk (by omega) ?_|refine .mk (by simp only[List.length_append,List.length_cons,List.length_nil];omega) ?_|refine .nice (by omega) ?_|refine .plain ?_|refine .yes (by decide) ?_|refine .no (by decide) ?_|refine qi (by kernel_rfl) ?_);(conv=>whnf))
 exact x.B):p:=w ⟨h⟩
theorem bZ{p q:Prop}(h:q)(w:te q->p:=by
 intro x
 first|refine .nice (by omega) ?_|refine .plain ?_|refine .yes (by decide) ?_|refine .no (by decide) ?_|refine qi (by kernel_rfl) ?_
 exact x.B):p:=w ⟨h⟩
theorem da{p q:Prop}(h:q)(w:te q->p:=by
 intro x
 first|refine .mk ⟨rfl,by simp only[List.length_cons,List.length_nil];omega⟩ ?_|refine .mk (by omega) ?_|refine .mk (by simp only[List.length_append,List.length_cons,List.length_nil];omega) ?_|refine .nice (by omega) ?_|refine .plain ?_|refine .yes (by decide) ?_|refine .no (by decide) ?_|refine qi (by kernel_rfl) ?_
 exact x.B):p:=w ⟨h⟩
theorem s2{p q r:Prop}(h:q)(cz:r)(w:te q->te r->p:=by
 intro x y
 with_reducible first|refine eh ?_ ?_|refine jQ ?_ ?_|refine ch ?_ ?_|refine cQ ?_ ?_|refine eO ?_ ?_
 exact x.B
 exact y.B):p:=w ⟨h⟩ ⟨cz⟩
theorem a3{p q:Prop}(h:q)(w:te q->p:=by
 intro x
 fail_if_success with_reducible first|refine eh ?_ ?_|refine jQ ?_ ?_|refine ch ?_ ?_|refine cQ ?_ ?_
 with_reducible first|refine eQ ?_|refine mr ?_|refine mD ?_
 exact x.B):p:=w ⟨h⟩
theorem i9{p:Prop}(h:p:=by
 (conv=>whnf)
 repeat' ((first|refine .nice (by omega) ?_|refine .plain ?_|refine .yes (by decide) ?_|refine .no (by decide) ?_|refine qi (by kernel_rfl) ?_|((with_reducible first|apply eh|apply jQ|apply ch|apply cQ|apply eQ|apply mr|apply mD|apply eO)<;>intros))<;>(conv=>whnf))
 all_goals first|exact⟨rfl,_,rfl,kn⟩|exact⟨rfl,_,rfl,pN⟩):p:=h
abbrev dz(C:Nat->cE)(f:Nat)(args:List a2)(b8:b9->Prop):Prop:=bU C [] f args [] λv A=>A=[]/\b8 v
theorem hZ{C:Nat->cE}{X:List Nat}{f:Nat}{args:List a2}{A t:bf}{r:b9}{ov:b9->bf->Prop}(h:bU C X f args A λv A=>A=t/\v=r)(a0:ov r t):IF C X f args A ov:=aW h λ_ _ ⟨a,b⟩=>by rw[a,b];exact a0
theorem bn{C:Nat->cE}{X:List Nat}{f:Nat}{args:List a2}{A t:bf}{r:b9}{q:Prop}{ov:b9->bf->Prop}(h:bU C X f args A λv A=>A=t/\v=r)(a0:q)(w:te q->ov r t:=by
 intro x
 (conv=>whnf)
 repeat((first|refine .nice (by omega) ?_|refine .plain ?_|refine .yes (by decide) ?_|refine .no (by decide) ?_|refine qi (by kernel_rfl) ?_);(conv=>whnf))
 exact x.B):IF C X f args A ov:=hZ h (w ⟨a0⟩)
theorem dW{C:Nat->cE}{X:List Nat}{f:Nat}{args:List a2}{A t:bf}{r:b9}{q:Prop}{ov:b9->bf->Prop}(h:bU C X f args A λv A=>A=t/\v=r)(a0:q)(w:te q->ov r t:=by
 intro x
 (conv=>whnf)
 repeat((first|refine .mk ⟨rfl,by simp only[List.length_cons,List.length_nil];omega⟩ ?_|refine .mk (by omega) ?_|refine .mk (by simp only[List.length_append,List.length_cons,List.length_nil];omega) ?_|refine .nice (by omega) ?_|refine .plain ?_|refine .yes (by decide) ?_|refine .no (by decide) ?_|refine qi (by kernel_rfl) ?_);(conv=>whnf))
 exact x.B):IF C X f args A ov:=hZ h (w ⟨a0⟩)
open Classical in
noncomputable def BE(X:aO)(U:ek):ek:=λa=>match U a with
 |some B=>if cn (mQ B) X=true then none else some B|none=>none
open Classical in
noncomputable def Aa(n:Nat)(U bm:ek):ek:=λa=>match bm a with
 |some B=>some B|none=>if a<n then U a else none
def ab6{X}{U}{a}{B}(h:BE X U a=some B):U a=some B/\cn (mQ B) X=false:=by
 unfold BE at h;grind
def abl{U bm B}(h:Aa n U bm a=some B):bm a=some B\/(bm a=none/\a<n/\U a=some B):=by
 unfold Aa at h;grind
def bU.akT{C}{f ak}{bX:di}{P:di->Prop}(h:bU C [] f (bX.map .J) [] λv A=>∃aJ,v=.hy (4*ak+3) aJ 0/\eD [ak] aJ=false/\P aJ)(M:eD [ak] bX=false):As C f bX λe8 z aJ=>e8=ak/\z=aJ.length/\P aJ:=by
 classical
 intro U Z H fV a4 sJ
 have ahI:(BE [ak] U).le U:=λa B aV=>(ab6 aV).1
 have jz:U.jz [ak] (BE [ak] U):=λa B aV hm=>by
  unfold BE
  simp_all
 have IB:b0 (BE [ak] U) Z [] H:=⟨λa B aV=>a4.e6 a B (ahI a B aV),λs B h=>(by cases h),λs dx B bH h=>(by cases h),λs B h=>(by cases h)⟩
 have dS:f9 (BE [ak] U) Z [] (bX.map .J) fV:=c5.lC (c5.jz jz _ _ M sJ)
 obtain⟨r,bE,v,az,bm,b2,⟨aJ,rfl,jR,hP⟩,run,td,a8,ec,aN⟩:=h _ Z H fV IB dS
 obtain⟨a,r,z,ax,n,e8,u,ee,rfl,t1,j5,rW,uQ,KX,afk,DP,DQ⟩:=ec
 obtain⟨rfl,rfl,rfl,K3⟩:=DQ I
 have DP:=DP I
 subst DP
 have e:e8=ak:=I
 subst e
 have pk:∀b B,bm b=some B->(U b=some B/\cn (mQ B) [e8]=false)\/H.next<=b:=λb B aV=>by
  rcases a8.new b B aV with h|h|⟨_,_,h,_⟩|⟨fD,h,hm⟩
  .exact .inl (ab6 h)
  .grind
  .cases h
  .cases hm
 have fresh:H.next<=a:=by
  rcases pk a _ t1 with⟨_,h⟩|h
  .simp only[mQ,cn,kN rfl]at h
   cases h
  grind
 have same:∀b,b<H.next->az.get b=H.get b:=λb aB=>a8.same b aB (λs B h=>by cases h) λB aV=>rfl
 have lt:=td.e6 a _ t1
 let ns:ek:=λb=>if b=a then none else Aa H.next U bm b
 have hF:∀b B,ns b=some B->b≠a/\Aa H.next U bm b=some B:=λb B aV=>by
  grind
 have ago:bm.jz [e8] ns:=λb B aV hm=>by
  show(if b=a then none else Aa H.next U bm b)=some B
  rw[cO (λe=>?_)]
  .unfold Aa;rw[aV]
  .subst e
   rw[t1]at aV
   cases aV
   simp only[mQ,cn,kN rfl]at hm
   grind
 refine⟨e8,z,aJ,a,ax,az,ns,⟨rfl,uQ.symm,hP⟩,run,λb B aV=>?_,a8.next,same,λb B aV=>?_,λb B aV=>?_,fresh,lt.2,?_,lt.1,rW,K3,uQ,c5.jz ago _ _ jR KX⟩
 .have aB:=(a4.e6 b B aV).2
  show(if b=a then none else Aa H.next U bm b)=some B
  rw[cO I]
  unfold Aa
  grind
 .have⟨_,h⟩:=hF b B aV
  rcases abl h with h|⟨_,D,F⟩
  .exact td.e6 b B h
  .rw[same b D]
   exact⟨(a4.e6 b B F).1,pD D a8.next⟩
 .have⟨_,h⟩:=hF b B aV
  rcases abl h with h|⟨_,_,h⟩
  all_goals grind
 grind
end Go.Tx
