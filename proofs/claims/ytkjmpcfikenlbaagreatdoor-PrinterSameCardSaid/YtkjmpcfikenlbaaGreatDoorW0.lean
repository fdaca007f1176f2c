/- A part. -/
import Derived.Below
import Derived.Test.YtkjmpcfikenlbaaGreatDoorQ7
set_option linter.all false
namespace Go.Tx
open Go Go.Ev Go.RowKit
abbrev O:=List bp->bg->Option (bp×bg)
noncomputable def Yo(B:O):E0:=⟨λargs H k=>match B args H with
 |some r=>k r.1 r.2
 |none=>false⟩
noncomputable def Bu(T:Nat->Option O)(f:Nat):Option E0:=match T f with
 |some B=>some (Yo B)|none=>none
noncomputable def AZ(T:Nat->Option O)(f:Nat):Option eS:=match T f with
 |some _=>some ⟨λ_ _=>false⟩|none=>none
noncomputable def wb(T:Nat->Option O):Nat->cE:=BN wC je (AZ T) (Bu T)
def al5(T):Good (wb T) (AZ T):=by
 intro f a1 m args H k;have M:Bu T f=none:=by
  unfold AZ at a1;unfold Bu;cases q:T f with
  |none=>rfl
  |some B=>rw[q]at a1;cases a1
 unfold wb BN;rw[L0,M]
variable{H:bg}{P:Program}{T:Nat->Option O}{V W:Value}{a b f k s cm:Nat}{iR:gW}{B:fB}{w bi bT:World}{ae:cX}
def arE{B v az args}(hK:T f=some B)(aV:B args H=some (v,az)):∀m,1<=m->∀k,wb T m f args H k=k (.val v) az:=by
 intro m hm k;obtain⟨m,rfl⟩:∃n,m=n+1:=⟨m - 1,I⟩;have M:Bu T f=some (Yo B):=by unfold Bu;rw[hK]
 unfold wb BN;rw[L0,M];show(match B args H with|some r=>k (.val r.1) r.2|none=>false)=_;rw[aV]
def bU.told{T}{f}{B}(hK:T f=some B){X:List Nat}{args:List a2}{A}{b8}(h:∀(U)(Z)(H)(fV:List bp),b0 U Z A H->f9 U Z A args fV->∃r bE v az bm b2,b8 r bE/\B fV H=some (v,az)/\b0 bm b2 bE az/\fz X U Z A H bm b2 bE az/\bR bm r v/\∀s B,look A s=some B->b2 s=Z s):bU (wb T) X f args A b8:=by intro U Z H fV a4 aC;obtain⟨r,bE,v,az,bm,b2,D,F,aq,aL,bO,cr⟩:=h U Z H fV a4 aC;exact⟨r,bE,v,az,bm,b2,D,⟨1,arE hK F⟩,aq,aL,bO,cr⟩
def bU.Qe{T}{f}{B}(hK:T f=some B){X:List Nat}{args:List a2}{A}{b8}(h:∀(U)(Z)(H)(fV:List bp),b0 U Z A H->f9 U Z A args fV->∃r v,b8 r A/\B fV H=some (v,H)/\bR U r v):bU (wb T) X f args A b8:=
 .told hK λU Z H fV a4 aC=>by obtain⟨r,v,D,F,aq⟩:=h U Z H fV a4 aC;exact⟨r,A,v,H,U,Z,D,F,a4,fz.refl U Z A H,aq,λ_ _ _=>rfl⟩
def HZ(P:Program)(bT:World)(f:Nat)(B:O):Prop:=∃fn,P.funcs[f]?=some fn/\fn.body.isSome=true/\∀args H v cM,B args H=some (v,cM)->∀(ae:cX)(w:World)(jf:List Value),dh ae args jf->hB bT ae H w->
 Calls P f (List.toArray jf) w λe bi=>∃V bG,e=.returned V/\bP bG v V/\Rel bG cM bi/\Step ae H w bG cM bi
def auv(T):CN P bT (AZ T):=by
 intro f e aw args k h;unfold AZ at aw;cases q:T f with
 |none=>rw[q]at aw;cases aw
 |some B=>rw[q]at aw;cases aw;cases h
def as1(h:∀f B,T f=some B->HZ P bT f B):aee P bT (Bu T):=by
 intro f e aw args H k ar;unfold Bu at aw;cases q:T f with
 |none=>rw[q]at aw;cases aw
 |some B=>
  rw[q]at aw;cases aw;obtain⟨fn,D,F,aq⟩:=h f B q;have ar:(match B args H with|some r=>k r.1 r.2|none=>false)=true:=ar;cases aX:B args H with
  |none=>rw[aX]at ar;cases ar
  |some r=>rw[aX]at ar;refine⟨fn,D,F,λae w jf eZ R=>(aq args H r.1 r.2 aX ae w jf eZ R).mono λe bi bo=>?_⟩;obtain⟨V,bG,aj,an,aM,bs⟩:=bo;exact⟨V,bG,r.1,r.2,aj,ar,an,aM,bs⟩
def Rel.below(R:Rel ae H w)(aB:Below w.heap.size w bi):Rel ae H bi:=by
 have lt:∀b x,w.heap[b]?=some x->b<w.heap.size:=λb x h=>by
  rcases m4 b w.heap.size with g|g
  .exact g
  .rw[X1 g]at h;cases h
 refine⟨R.next,R.p0,λa aC=>?_,R.inj⟩;have aV:=R.obj a aC;cases q:H.get a with
 |none=>trivial|dead=>trivial
 |cells ax n z ak u ee=>rw[q]at aV;obtain⟨b,cm,c,ci,D,F,aq⟩:=aV;exact⟨b,cm,c,ci,D,by rw[aB.block b (lt b _ F)];exact F,aq⟩
 |map es tp=>rw[q]at aV;obtain⟨b,cm,xL,D,F,aq⟩:=aV;exact⟨b,cm,xL,D,by rw[aB.block b (lt b _ F)];exact F,aq⟩
def Step.below(aB:Below w.heap.size w bi):Step ae H w ae H bi:=
 ⟨cX.le_refl ae,λ_ _=>rfl,fI _,aB.size,λb h _=>aB.block b h,λ_ h=>.inr h,λ_ _ h=>h,aB.tape,aB.os,aB.output⟩
noncomputable def Nv:O
 |[],H=>some (.bool true,H)|_,_=>none
open Classical in
noncomputable def MB(W:Value)(cS:Nat):O
 |[.pJ V],H=>if V=W then some (.bool (Nat.ble cS 700),H)else none|_,_=>none
open Classical in
noncomputable def CD(W:Value):gW->Option Nat
 |.cells ax 1 2 60 false false=>match ax.row 0 with
  |[.pJ V,.int 3 k]=>if V=W then some k else none|_=>none
 |_=>none
noncomputable def KK(W:Value)(k:Nat):gW:=.cells (.nM (λ_=>[.pJ W,.int 3 k]) 1) 1 2 60 false false
noncomputable def LL(W:Value)(cS:Nat):O
 |[.ptr a 0 0 2],H=>match CD W (H.get a)with
  |some k=>if k<=cS/\cS<9223372036854775808 then some (.bool (Nat.blt k cS),H)else none|none=>none
 |_,_=>none
noncomputable def Ji(W:Value)(b5:List Int):O
 |[.ptr a 0 0 2,.int 3 n],H=>match CD W (H.get a)with
  |some k=>if 0<n/\n<9223372036854775808/\k<=b5.length/\b5.length<=100000 then(match b5[k]? with
   |some x=>some (.int 3 (x % (n:Int)).toNat,H.put a (KK W (k+1)))
   |none=>some (.int 3 0,H))else none
  |none=>none
 |_,_=>none
def SB{U}{Z}{A}{aP a3}{l:List bp}(h:gc U Z A [aP,a3] l):∃v1 v2,l=[v1,v2]/\dE U Z A aP v1/\dE U Z A a3 v2:=by obtain⟨v1,cH,rfl,D,v2,cq,rfl,F,rfl⟩:=h;exact⟨v1,v2,rfl,D,F⟩
def JX:look [(s,B)] s=some B:=by simp only[look,kN rfl]
def aiK{bH}:kO [(s,B)] s bH=[(s,bH)]:=by simp only[kO,kN rfl]
def acE{U}{Z}{s ak z}{aJ}{v}(h:co U Z [(s,.box ak z aJ)] (.bN s 0) v):v=.ptr (Z s) 0 0 z:=h ak z aJ JX
section
variable{T:Nat->Option O}
def apF(hK:T f=some Nv):bU (wb T) [] f [] [] λv A=>A=[]/\v=.bool true:=
 .Qe hK λU Z H fV a4 aC=>by obtain rfl:fV=[]:=aC;exact⟨.bool true,_,⟨rfl,rfl⟩,rfl,by simp only[bR]⟩
def apt{cS}(hK:T f=some (MB W cS))(g):bU (wb T) [] f [.J (.op g W)] [] λv A=>A=[]/\v=.bool (Nat.ble cS 700):=
 .Qe hK λU Z H fV a4 aC=>by
  obtain⟨v,l,rfl,aI,rfl⟩:=aC;have aI:v=.pJ W:=by simpa only[co,dE,bR]using aI
  subst aI;exact⟨.bool _,_,⟨rfl,rfl⟩,ev rfl,by simp only[bR]⟩
open Classical in
def acT{U}{Z}{A:bf}{H}{g}{Q}{a}(h:b0 U Z [(1000,dD g Q a)] H):CD Q.W (H.get (Z 1000))=some a:=by
 obtain⟨ax,D,F,aq,aL,bO⟩:=h.obj 1000 _ JX;obtain⟨v1,v2,cr,fK,hI⟩:=SB bO;have fK:v1=.pJ Q.W:=by simpa only[dE,bR]using fK
 have hI:v2=.int 3 a:=by simpa only[dE,bR]using hI
 subst fK hI;rw[D];show(match ax.row 0 with|[.pJ V,.int 3 k]=>if V=Q.W then some k else none|_=>none)=_;rw[cr];exact ev rfl
def aqa{f}{Q}(hK:T f=some (LL Q.W Q.length))(mX:Q.length<=700)(g a)(aC:a<=Q.length):bU (wb T) [] f [.bN 1000 0] [(1000,dD g Q a)] λv A=>A=[(1000,dD g Q a)]/\v=.bool (Nat.blt a Q.length):=
 .Qe hK λU Z H fV a4 Q0=>by obtain⟨v,l,rfl,aI,rfl⟩:=Q0;rw[acE aI];refine⟨.bool _,_,⟨rfl,rfl⟩,?_,by simp only[bR];rfl⟩;show(match CD Q.W (H.get (Z 1000))with|some k=>if k<=Q.length/\Q.length<9223372036854775808 then some (bp.bool (Nat.blt k Q.length),H)else none|none=>none)=_;rw[acT (A:=[]) a4];exact ev ⟨aC,I⟩
def agO{f}{Q}{b5}(hK:T f=some (Ji Q.W b5))(M:b5.length=Q.length)(mX:Q.length<=700)(g a n)(aC:a<=Q.length)(br:0<n)(aD:n<9223372036854775808):bU (wb T) [] f [.bN 1000 0,.J (.int 3 n)] [(1000,dD g Q a)] λv A=>(∃r,v=.int 3 r/\r<n)/\∃a,a<=Q.length/\A=[(1000,dD g Q a)]:=
 .told hK λU Z H fV a4 Q0=>by
  obtain⟨v,l,rfl,aI,w,aK,rfl,cw,rfl⟩:=Q0;have cw:w=.int 3 n:=by simpa only[co,dE,bR]using cw
  subst cw;rw[acE aI];have aQ:0<n/\n<9223372036854775808/\a<=b5.length/\b5.length<=100000:=⟨br,aD,I,I⟩;have aV:Ji Q.W b5 [.ptr (Z 1000) 0 0 2,.int 3 n] H=(match b5[a]? with|some x=>some (bp.int 3 (x % (n:Int)).toNat,H.put (Z 1000) (KK Q.W (a+1)))|none=>some (.int 3 0,H)):=by show(match CD Q.W (H.get (Z 1000))with|some k=>if 0<n/\n<9223372036854775808/\k<=b5.length/\b5.length<=100000 then(match b5[k]? with|some x=>some (bp.int 3 (x % (n:Int)).toNat,H.put (Z 1000) (KK Q.W (k+1)))|none=>some (.int 3 0,H))else none|none=>none)=_;rw[acT (A:=[]) a4];exact ev aQ
  cases q:b5[a]? with
  |none=>rw[q]at aV;exact⟨.int 3 0,_,_,H,U,Z,⟨⟨0,rfl,br⟩,a,aC,rfl⟩,aV,a4,fz.refl _ _ _ _,by simp only[bR],λ_ _ _=>rfl⟩
  |some x=>
   rw[q]at aV;have be:a<b5.length:=by
    rcases m4 a b5.length with h|h
    .exact h
    .rw[tY h]at q;cases q
   have F:=R3 x (I:(n:Int)≠0);have aq:=Pn x (I:(0:Int)<n);have e:=aiK (s:=1000) (B:=dD g Q a) (bH:=dD g Q (a+1));have ap:=Bg (gj:=.bS [.J (.op g Q.W),.J (.int 3 (a+1))]) (JX (s:=1000) (B:=dD g Q a));have td:=a4.v9 (bH:=dD g Q (a+1)) (iR:=KK Q.W (a+1)) JX rfl rfl ap ⟨.nM (λ_=>[.pJ Q.W,.int 3 (a+1)]) 1,by rw[bg.pR _ _ _ _ gp gp,ev rfl];rfl,fI 1,af,rfl,by show gc _ _ _ [.J (.op g Q.W),.J (.int 3 (a+1))] [.pJ Q.W,.int 3 (a+1)];exact⟨_,_,rfl,by simp only[dE,bR],_,_,rfl,by simp only[dE,bR],rfl⟩⟩;have a8:=fz.v9 (X:=[]) (U:=U) (Z:=Z) (H:=H) (bH:=dD g Q (a+1)) (iR:=KK Q.W (a+1)) (JX (s:=1000) (B:=dD g Q a)) rfl rfl;rw[e]at td a8;exact⟨.int 3 (x % (n:Int)).toNat,_,_,_,U,Z,⟨⟨_,rfl,I⟩,a+1,I,rfl⟩,aV,td,a8,by simp only[bR],λ_ _ _=>rfl⟩
end
def zF:List (Nat×O)->Nat->Option O
 |[],_=>none
 |(a,B)::l,f=>match Nat.beq a f with
  |true=>some B|false=>zF l f
def YI:∀{l}{f},cn f (l.map Prod.fst)=false->zF l f=none
 |[],_,_=>rfl
 |(a,B)::l,f,h=>by
  simp only[gg,cn]at h;unfold zF;cases q:Nat.beq a f with
  |true=>rw[q]at h;cases h
  |false=>rw[q]at h;exact YI h
noncomputable abbrev told(W:Value)(cS:Nat)(b5:List Int):List (Nat×O):=[(5,Nv),(4,MB W cS),(8,Ji W b5),(22,LL W cS)]
def aqs(W)(cS)(b5)(M:cS<=700->b5.length=cS):Env (wb (zF (told W cS b5))) (AZ (zF (told W cS b5))) ⟨W,cS⟩ where
 g:=al5 _
 e f a1:=by
  have h:zF (told W cS b5) f=none:=YI (by
   cases q:cn f ((told W cS b5).map Prod.fst)with
   |false=>rfl
   |true=>
    have h:=uo.1 q
    simp only[told,List.map_cons,List.map_nil,List.mem_cons,List.not_mem_nil,or_false]at h
    rcases h with rfl|rfl|rfl|rfl<;>exact absurd a1 (by decide))
  unfold AZ;rw[h]
 Sc:=apF rfl
 O0:=apt rfl
 left h:=aqa (Q:=⟨W,cS⟩) rfl h
 next h:=agO (Q:=⟨W,cS⟩) rfl (M h) h
section
variable{P:Program}{bT:World}{f:Nat}
abbrev amz(bT w:World):Prop:=∀i,i<bT.heap.size->w.heap[i]?=bT.heap[i]?
abbrev Has(P:Program)(f:Nat):Prop:=∃fn,P.funcs[f]?=some fn/\fn.body.isSome=true
def alz{z}(br:0<=z)(D:z<9223372036854775808):bP ae (.int 3 z.toNat) (.int .i64 z):=by have:=wS (ae:=ae) (I:z.toNat<9223372036854775808);rwa[Int.toNat_of_nonneg br]at this
def aus(a1:Has P f)(eZ:∀(ae)(H)(w),hB bT ae H w->Calls P f #[] w λe bi=>e=.returned (.bool true)/\Rel ae H bi/\Step ae H w ae H bi):HZ P bT f Nv:=by
 obtain⟨fn,D,F⟩:=a1;refine⟨fn,D,F,λargs H v cM aV ae w jf acN R=>?_⟩;unfold Nv at aV;split at aV
 .cases aV;simp only[dh]at acN;subst acN;refine(eZ ae H w R).mono λe bi bo=>?_;obtain⟨rfl,aq,aL⟩:=bo;exact⟨_,ae,rfl,by simp only[bP],aq,aL⟩
 .cases aV
open Classical in
def aun(a1:Has P f){W}{cS:Nat}(cB:∀w,Calls P f #[W] w λe bi=>e=.returned (.bool (decide ((cS:Int)<=700)))/\bi=w):HZ P bT f (MB W cS):=by
 obtain⟨fn,D,F⟩:=a1;refine⟨fn,D,F,λargs H v cM aV ae w jf eZ R=>?_⟩;unfold MB at aV;split at aV
 .rename_i V;split at aV
  .rename_i aQ;subst aQ;cases aV;obtain⟨X,L,rfl,cR,eZ⟩:=eZ.cons_inv;simp only[dh]at eZ;subst eZ;simp only[bP]at cR;obtain⟨rfl,_⟩:=cR;refine(cB w).mono λe bi bo=>?_;obtain⟨rfl,rfl⟩:=bo;refine⟨_,ae,rfl,?_,R.rel,Step.refl _ _ _⟩;simp only[bP];congr 1;rw[Bool.eq_iff_iff,Kf,Nat.ble_eq];omega
  .cases aV
 .cases aV
def ade{ax ak p q}(R:Rel ae H w)(bI:H.get a=.cells ax 1 2 ak false false)(ag:ax.row 0=[p,q])(aB:ae a=some (b,cm)):∃Af zG,w.heap[b]?=some (.cells #[Af,zG] ak (0,0))/\bP ae p Af/\bP ae q zG/\p.lQ/\q.lQ:=by
 have aV:=R.obj a gp;rw[bI]at aV;obtain⟨ep,gn,c,ci,cL,dP,fW,gi,iW,gE,oc⟩:=aV;rw[aB]at cL;cases cL;have fW:=fW rfl;subst fW;simp only[Dy,sY]at oc;obtain⟨X,fc,gv,n5,xq⟩:=gE 0 I;rw[ag]at fc n5;obtain⟨Ez,y6,rfl,Uq,fc⟩:=fc.cons_inv;obtain⟨E9,ja,rfl,kx,fc⟩:=fc.cons_inv;simp only[dh]at fc;subst fc;have aQ:c= #[Ez,E9]:=by
  apply Array.ext';apply He;intro j;have iH:c.toList.length=2:=by simpa using oc
  by_cases bl:j<2
  .have:=xq j bl;simp only[JT,pW]at this;rw[BT,this]
  .rw[tY I,tY (by simp;omega)]
 subst aQ;exact⟨Ez,E9,dP,Uq,kx,n5 p (by simp),n5 q (by simp)⟩
def ahK{ae}{w}{a ak b cm}{p q}{Af zG}(aB:ae a=some (b,cm))(cw:w.heap[b]?=some (.cells #[Af,zG] ak (0,0)))(D:bP ae p Af)(F:bP ae q zG)(en:p.lQ)(gI:q.lQ):nj ae w a (.cells (.nM (λ_=>[p,q]) 1) 1 2 ak false false):=by
 refine⟨b,cm,_,(0,0),aB,cw,λ_=>rfl,I,fI 1,?_,rfl⟩;intro j bl;have:j=0:=I;subst this;refine⟨[Af,zG],dh.cons D (dh.cons F dh.nil),rfl,λx M=>?_,λj bl=>?_⟩
 .rcases hS.1 M with rfl|M
  .exact en
  .rw[ji.1 M];exact gI
 .rw[JT,pW,<-BT]
structure LO(b:Nat)(w bi:World):Prop where
 size:bi.heap.size=w.heap.size
 same:∀k,k≠b->bi.heap[k]?=w.heap[k]?
 tape:bi.tape=w.tape
 os:bi.os=w.os
 output:bi.output=w.output
def Rel.RF(R:Rel ae H w)(aB:ae a=some (b,cm))(Y:(H.get a).live)(au:LO b w bi)(aV:nj ae bi a iR)(iJ:iR.live->True):Rel ae (H.put a iR) bi:=by
 have WG:∀x,((H.put a iR).get x).live=true->(H.get x).live=true:=λx M=>by
  rw[bg.pR _ _ _ _ gp gp]at M;split at M
  .rename_i e;rw[e];exact Y
  .exact M
 refine⟨R.next,R.p0,λx M=>?_,λx y M aE D F=>R.inj x y M aE (WG x D) (WG y F)⟩;rw[bg.pR _ _ _ _ gp gp];split
 .rename_i e;rw[e];exact aV
 .rename_i e;have aV:=R.obj x M;have ne:∀ep gn,(H.get x).live=true->ae x=some (ep,gn)->ep≠b:=λep gn D F aq=>by subst aq;exact e (R.inj x a gp gp D Y ep gn cm F aB)
  cases q:H.get x with
  |none=>trivial|dead=>trivial
  |cells ax n z ak u ee=>rw[q]at aV ne;obtain⟨ep,gn,c,ci,D,F,aq⟩:=aV;exact⟨ep,gn,c,ci,D,by rw[au.same ep (ne ep gn rfl D)];exact F,aq⟩
  |map es tp=>rw[q]at aV ne;obtain⟨ep,gn,xL,D,F,aq⟩:=aV;exact⟨ep,gn,xL,D,by rw[au.same ep (ne ep gn rfl D)];exact F,aq⟩
def Step.RF(aB:ae a=some (b,cm))(Y:(H.get a).live)(au:LO b w bi):Step ae H w ae (H.put a iR) bi:=by
 refine⟨cX.le_refl ae,λ_ _=>rfl,fI _,by rw[au.size];exact fI _,λk ar aD=>au.same k λe=>aD ⟨a,gp,Y,cm,by rw[e];exact aB⟩,λk ⟨x,D,F,aq⟩=>.inr ⟨x,D,?_,aq⟩,λx M aY=>?_,au.tape,au.os,au.output⟩
 .rw[bg.pR _ _ _ _ gp gp]at F;split at F
  .rename_i e;rw[e];exact Y
  .exact F
 .rw[bg.pR _ _ _ _ gp gp];split
  .rename_i e;rw[e,Y]at aY;cases aY
  .exact aY
def X6{z}(h:bP ae (.ptr a 0 s z) V):∃b cm,ae a=some (b,cm)/\V=.pointer (some ⟨b,s,none⟩):=by simp only[bP]at h;obtain⟨b,cm,D,F⟩:=h;exact⟨b,cm,D,by rw[F];simp⟩
open Classical in
def ae2{B}(h:CD W B=some k):∃ax,B=.cells ax 1 2 60 false false/\ax.row 0=[.pJ W,.int 3 k]:=by
 unfold CD at h;split at h
 .rename_i ax;split at h
  .rename_i V df ag;split at h
   .rename_i e;cases h;exact⟨ax,rfl,by rw[ag,e]⟩
   .cases h
  .cases h
 .cases h
def Pl(h:bP ae (.int 3 k) V)(ar:k<9223372036854775808):V=.int .i64 (k):=by simp only[bP]at h;obtain⟨_,_,rfl⟩:=h;rw[show eM 3 k=(k:Int)from lH ar];rfl
def aeP(h:bP ae (.pJ W) V):V=W/\W.oneCell'/\W.cells= #[W]:=by simpa only[bP]using h
def atD(a1:Has P f){W}{cS:Nat}(cB:∀(b)(i)(w),w.cell? ⟨b,0,none⟩=some W->w.cell? ⟨b,1,none⟩=some (.int .i64 i)->Calls P f #[.pointer (some ⟨b,0,none⟩)] w λe bi=>e=.returned (.bool (decide (i<(cS:Int))))/\Below w.heap.size w bi):HZ P bT f (LL W cS):=by
 obtain⟨fn,D,F⟩:=a1;refine⟨fn,D,F,λargs H v cM aV ae w jf eZ R=>?_⟩;unfold LL at aV;split at aV
 .rename_i a;split at aV
  .rename_i k ar;split at aV
   .rename_i aQ;cases aV;obtain⟨X,L,rfl,cR,eZ⟩:=eZ.cons_inv;simp only[dh]at eZ;subst eZ;obtain⟨b,cm,aB,rfl⟩:=X6 cR;obtain⟨ax,bI,ag⟩:=ae2 ar;obtain⟨Af,zG,cw,v1,v2,_⟩:=ade R.rel bI ag aB;obtain⟨rfl,_⟩:=aeP v1;obtain rfl:=Pl v2 I;refine(cB b k w (by unfold World.cell?;rw[cw];rfl) (by unfold World.cell?;rw[cw];rfl)).mono λe bi bo=>?_;obtain⟨rfl,Dk⟩:=bo;refine⟨_,ae,rfl,?_,Rel.below R.rel Dk,Step.below Dk⟩;simp only[bP];congr 1;rw[Bool.eq_iff_iff,Kf,Gq];omega
   .cases aV
  .cases aV
 .cases aV
def asq(a1:Has P f){W:Value}{b5:List Int}(mX:∀(b k n:Nat)(w:World),w.heap[b]?=some (.cells #[W,.int .i64 k] 60 (0,0))->k<=b5.length->b5.length<=100000->amz bT w->bT.heap.size<=b->0<n->n<9223372036854775808->Calls P f #[.pointer (some ⟨b,0,none⟩),.int .i64 n] w λe bi=>match b5[k]? with
 |some x=>e=.returned (.int .i64 (x % (n:Int)))/\LO b w bi/\bi.heap[b]?=some (.cells #[W,.int .i64 ((k+1:Nat):Int)] 60 (0,0))
 |none=>e=.returned (.int .i64 0)/\Below w.heap.size w bi):HZ P bT f (Ji W b5):=by
 obtain⟨fn,D,F⟩:=a1
 refine⟨fn,D,F,λargs H v cM aV ae w jf eZ R=>?_⟩
 unfold Ji at aV
 split at aV
 .rename_i a n;split at aV
  .rename_i k ar;split at aV
   .rename_i aQ;obtain⟨X,L,rfl,cR,eZ⟩:=eZ.cons_inv;obtain⟨et,L,rfl,ll,eZ⟩:=eZ.cons_inv;simp only[dh]at eZ;subst eZ;obtain⟨b,cm,aB,rfl⟩:=X6 cR;obtain rfl:=Pl ll aQ.2.1;obtain⟨ax,bI,ag⟩:=ae2 ar;obtain⟨Af,zG,cw,v1,v2,en,gI⟩:=ade R.rel bI ag aB;have akl:=v1;obtain⟨rfl,ast,as4⟩:=aeP v1;obtain rfl:=Pl v2 I;have Y:(H.get a).live=true:=by rw[bI];rfl
    have kf:=R.kv.zH b ⟨a,gp,Y,cm,aB⟩;refine(mX b k n w cw aQ.2.2.1 aQ.2.2.2 R.kv.same kf aQ.1 aQ.2.1).mono λe bi bo=>?_;cases q:b5[k]? with
    |some x=>rw[q]at aV bo;cases aV;obtain⟨rfl,au,PU⟩:=bo;have aq:=R3 x (I:(n:Int)≠0);have aL:=Pn x (I:(0:Int)<n);exact⟨_,ae,rfl,alz aq I,Rel.RF R.rel aB Y au (ahK aB PU akl (wS I) rfl rfl) λ_=>trivial,Step.RF aB Y au⟩
    |none=>rw[q]at aV bo;cases aV;obtain⟨rfl,Dk⟩:=bo;exact⟨_,ae,rfl,wS I,Rel.below R.rel Dk,Step.below Dk⟩
   .cases aV
  .cases aV
 .cases aV
def ar8{w:World}{b}{B}(h:w.heap[b]?=some B):b<w.heap.size:=by
 rcases m4 b w.heap.size with g|g
 .exact g
 .rw[X1 g]at h;cases h
def ate(w)(b i)(V):LO b w (w.setCell ⟨b,i,none⟩ V):=
 ⟨by show(w.heap.modify b _).size=_;rw[Array.size_modify],λk ar=>Below.heap_setCell _ _ _ _ ar,rfl,rfl,rfl⟩
def at2{w:World}{b}{c}{ak}(h:w.heap[b]?=some (.cells c ak (0,0)))(i)(V):(w.setCell ⟨b,i,none⟩ V).heap[b]?=some (.cells (c.set! i V) ak (0,0)):=by
 have be:=ar8 h;have cz:w.heap[b]=.cells c ak (0,0):=by simpa[UX be]using h
 show(w.heap.modify b _)[b]?=_;rw[UX (by simpa using be),Array.getElem_modify_self,cz];rfl
end
def atn(W)(cS)(b5)(M:cS<=700->b5.length=cS)(p:Nat)(bq:p<18446744073709551616):∃n,BN wC je (AZ (zF (told W cS b5))) (Bu (zF (told W cS b5))) n 3 [.pJ W,.int 3 p] yD (λr _=>Qn r):=by
 have h:=l3 (aqs W cS b5 M) (g:=6) (by decide) p bq;have a4:b0 (λ_=>none) id [] yD:=⟨λa B aV=>(by cases aV),λs B aV=>(by cases aV),λs dx B bH aV=>(by cases aV),λs B aV=>(by cases aV)⟩;obtain⟨r,bE,v,az,bm,b2,rfl,⟨n,aD⟩,_,_,ec,_⟩:=h (λ_=>none) id yD [.pJ W,.int 3 p] a4 ⟨_,_,rfl,by simp only[co,dE,bR],_,_,rfl,by simp only[co,dE,bR],rfl⟩;have aI:v=.bool true:=by simpa only[bR]using ec
 subst aI;exact⟨n,aD n (fI n) λr _=>Qn r⟩
end Go.Tx
