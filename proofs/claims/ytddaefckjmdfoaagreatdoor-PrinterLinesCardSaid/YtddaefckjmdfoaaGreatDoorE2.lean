/- Part of the proof of PrinterLines. -/
import Derived.Laws.AppendOwn
import Derived.Test.YtddaefckjmdfoaaGreatDoorE1
set_option linter.all false
namespace Go.Ev
open Go
def cL:Nat->Nat->k9
 |0,_=>[]
 |l+1,n=>UInt8.ofNat (n % 256)::cL l (n / 256)
def iB:oJ->Value
 |.N=>.pointer none
 |.s=>.slice none 0 0
 |.m=>.map none
 |.f=>.nilFunc
 |.i=>.nilIface
abbrev cE:=Nat->Option (Nat×Nat)
mutual
def bk(aa:cE):bl->Value->Prop
 |.undef,V=>V=Go.undef
 |.bool b,V=>V=.bool b
 |.int c n,V=>c<8/\n<cp c/\V=.int (jh c) (dm c n)
 |.str l n,V=>l<=1152921504606846976/\V=.string ⟨(cL l n).toArray⟩
 |.nil c,V=>V=iB c
 |.ptr a r s z,V=>∃b ca,aa a=some (b,ca)/\V=.pointer (some ⟨b,r*z+s,none⟩)
 |.slice a i l c u z,V=>∃b ca,aa a=some (b,ca)/\V=.slice (some ⟨b,i*z,none⟩) l (if u then ca - c else c)/\l<=2147483647/\l<=(if u then ca - c else c)/\
  (if u then c<=ca else c<=2147483647)
 |.map a,V=>∃b ca,aa a=some (b,ca)/\V=.map (some b)
 |.fn f bY bJ,V=>∃x8 yh,V=.func (.func f) (List.toArray x8) (List.toArray yh)/\cK aa bY x8/\cK aa bJ yh
 |.iface t v,V=>∃X,V=.iface t X/\bk aa v X
 |.agg n l,V=>∃L,V=.agg (List.toArray L)/\cK aa l L/\l.length=n/\∀x∈l,x.lw=true
 |.eJ l,V=>∃L,V=.tuple (List.toArray L)/\cK aa l L
 |.any,_=>True
 |.p1 c m r,V=>∃n,n<cp (c % 8)/\dm (c % 8) n % (m:Int)=r/\V=.int (jh (c % 8)) (dm (c % 8) n)/\(8<=c->0<=dm (c % 8) n)
 |.pw W,V=>V=W/\W.oneCell'=true/\W.cells= #[W]
def cK(aa:cE):cv->lh->Prop
 |[],L=>L=[]
 |v::l,L=>∃X fX,L=X::fX/\bk aa v X/\cK aa l fX
end
def cE.le(aa bD:cE):Prop:=∀a x,aa a=some x->bD a=some x
def cE.le_refl(aa:cE):aa.le aa:=λ_ _ h=>h
def cE.le_trans{a b c:cE}(h:a.le b)(b5:b.le c):a.le c:=λx y I=>b5 x y (h x y I)
mutual
def bk.mono{aa bD}(h:aa.le bD):∀(v:bl)(V:Value),bk aa v V->bk bD v V
 |.undef,_,au|.bool _,_,au|.int _ _,_,au|.str _ _,_,au|.nil _,_,au|.any,_,au|.p1 _ _ _,_,au|.pw _,_,au=>by first|(simp only[bk] at au ⊢;exact au)|(simp only[bk])
 |.ptr _ _ _ _,_,au=>by simp only[bk] at au ⊢;have⟨b,ca,av,e⟩:=au;exact⟨b,ca,h _ _ av,e⟩
 |.slice _ _ _ _ _ _,_,au=>by simp only[bk] at au ⊢;have⟨b,ca,av,e⟩:=au;exact⟨b,ca,h _ _ av,e⟩
 |.map _,_,au=>by simp only[bk] at au ⊢;have⟨b,ca,av,e⟩:=au;exact⟨b,ca,h _ _ av,e⟩
 |.fn _ bY bJ,_,au=>by simp only[bk] at au ⊢;have⟨x8,yh,e,B,F⟩:=au;exact⟨x8,yh,e,cK.mono h bY x8 B,cK.mono h bJ yh F⟩
 |.iface _ v,_,au=>by simp only[bk] at au ⊢;have⟨X,e,B⟩:=au;exact⟨X,e,bk.mono h v X B⟩
 |.agg _ l,_,au=>by simp only[bk] at au ⊢;have⟨L,e,B,F⟩:=au;exact⟨L,e,cK.mono h l L B,F⟩
 |.eJ l,_,au=>by simp only[bk] at au ⊢;have⟨L,e,B⟩:=au;exact⟨L,e,cK.mono h l L B⟩
def cK.mono{aa bD}(h:aa.le bD):∀(l:cv)(L:lh),cK aa l L->cK bD l L
 |[],_,au=>by simpa only[cK] using au
 |v::l,_,au=>by simp only[cK] at au ⊢;have⟨X,fX,e,B,F⟩:=au;exact⟨X,fX,e,bk.mono h v X B,cK.mono h l fX F⟩
end
variable{H:bd}{L:lh}{P:Program}{V:Value}{a b c i n r:Nat}{k:cv->Bool}{l:cv}{D:gB}{am:Ev.Rows}{v x:bl}{w:World}{aa bD:cE}
def cK.length:∀{l}{L},cK aa l L->L.length=l.length
 |[],_,h=>by simp only[cK] at h;simp [h]
 |_::_,_,h=>by simp only[cK] at h;obtain⟨X,fX,rfl,_,F⟩:=h;simp [cK.length F]
def cK.nil:cK aa [] []:=by simp only[cK]
def cK.cons(h:bk aa v V)(b5:cK aa l L):cK aa (v::l) (V::L):=by simp only[cK];exact⟨V,L,rfl,h,b5⟩
def cK.cons_inv(h:cK aa (v::l) L):∃V fX,L=V::fX/\bk aa v V/\cK aa l fX:=by simpa only[cK] using h
def cK.append:∀{l aM}{L fX},cK aa l L->cK aa aM fX->cK aa (l++aM) (L++fX)
 |[],_,_,_,h,b5=>by simp only[cK] at h;subst h;simpa using b5
 |v::l,aM,_,fX,h,b5=>by obtain⟨V,vc,rfl,B,F⟩:=h.cons_inv;exact cK.cons B (cK.append F b5)
def cK.take:∀{l}{L}(n),cK aa l L->cK aa (l.take n) (L.take n)
 |_,_,0,_=>by simp;exact cK.nil
 |[],_,n+1,h=>by simp only[cK] at h;subst h;simp;exact cK.nil
 |v::l,_,n+1,h=>by obtain⟨V,vc,rfl,B,F⟩:=h.cons_inv;exact cK.cons B (cK.take n F)
def cK.drop:∀{l}{L}(n),cK aa l L->cK aa (l.drop n) (L.drop n)
 |_,_,0,h=>by simpa using h
 |[],_,n+1,h=>by simp only[cK] at h;subst h;simp;exact cK.nil
 |v::l,_,n+1,h=>by obtain⟨V,vc,rfl,B,F⟩:=h.cons_inv;simpa using cK.drop n F
def cK.get:∀{l}{L}{i:Nat}{v},cK aa l L->l[i]?=some v->∃V,L[i]?=some V/\bk aa v V
 |[],_,_,_,_,h=>by simp at h
 |v::l,_,0,w,h,aH=>by obtain⟨V,vc,rfl,B,F⟩:=h.cons_inv;simp at aH;subst aH;exact⟨V,rfl,B⟩
 |v::l,_,i+1,w,h,aH=>by obtain⟨V,vc,rfl,B,F⟩:=h.cons_inv;simp at aH;have⟨Xj,ah,aE⟩:=cK.get F aH;exact⟨Xj,by simpa using ah,aE⟩
def bk.OZ(h:bk aa v V)(aw:v.lw):V.oneCell'/\V.cells= #[V]:=by
 cases v<;>simp only[bk,bl.lw] at h aw<;>try(exact bS aw)
 .subst h;exact⟨rfl,rfl⟩
 .obtain⟨_,_,rfl⟩:=h;exact⟨rfl,rfl⟩
 .obtain⟨_,rfl⟩:=h;exact⟨rfl,rfl⟩
 .subst h;rename_i c;cases c<;>exact⟨rfl,rfl⟩
 .obtain⟨_,_,_,rfl⟩:=h;exact⟨rfl,rfl⟩
 .obtain⟨_,_,_,rfl,_⟩:=h;exact⟨rfl,rfl⟩
 .obtain⟨_,_,_,rfl⟩:=h;exact⟨rfl,rfl⟩
 .obtain⟨_,_,rfl,_⟩:=h;exact⟨rfl,rfl⟩
 .obtain⟨_,rfl,_⟩:=h;exact⟨rfl,rfl⟩
 .obtain⟨rfl,B,F⟩:=h;exact⟨B,F⟩
def cK.Az:∀{l}{L},cK aa l L->(∀x∈l,x.lw)->∀V∈L,V.oneCell'
 |[],_,h,_,V,eZ=>by simp only[cK] at h;subst h;cases eZ
 |v::l,_,h,aw,V,eZ=>by
  obtain⟨W,vc,rfl,B,F⟩:=h.cons_inv;cases eZ with
  |head=>exact(B.OZ (aw _ (by simp))).1
  |tail _ hm=>exact cK.Az F (λx I=>aw x (by simp [I])) V hm
def alG(h:jR v n k)(au:bk aa v V):∃l L,k l/\V.cells=List.toArray L/\cK aa l L/\l.length=n/\∀x∈l,x.lw:=by
 unfold jR at h;rcases W8 h with⟨aw,h⟩|⟨m,l,rfl,h⟩
 .rcases ic h with⟨B,h⟩|⟨_,h⟩
  .refine⟨[v],[V],h,(au.OZ aw).2,cK.cons au cK.nil,by simpa using(Nat.eq_of_beq_eq_true B).symm,?_⟩;intro x I;simp at I;subst I;exact aw
  .exact bS h
 .rcases ic h with⟨B,h⟩|⟨_,h⟩
  .simp only[bk] at au;obtain⟨L,rfl,F,ah,aE⟩:=au;exact⟨l,L,h,rfl,F,ah.trans (Nat.eq_of_beq_eq_true B),aE⟩
  .exact bS h
def Rows.row:Rows->Nat->cv
 |.fG r,_=>r
 |.dc t,i=>t.get (dG (i % 8))
 |.cl t,i=>(t.get (dG (i / 8 % 8))).get (dG (i % 8))
 |.hD t,i=>((t.get (dG (i / 64 % 8))).get (dG (i / 8 % 8))).get (dG (i % 8))
 |.j3 g _,i=>g i
def Rows.cap:Rows->Nat
 |.fG _=>1
 |.dc _=>8
 |.cl _=>64
 |.hD _=>512
 |.j3 _ c=>c
def Rows.mT:Rows->Nat->cv->Rows
 |.fG _,_,v=>.fG v
 |.dc t,i,v=>.dc (t.set (dG (i % 8)) v)
 |.cl t,i,v=>.cl (t.set (dG (i / 8 % 8)) ((t.get (dG (i / 8 % 8))).set (dG (i % 8)) v))
 |.hD t,i,v=>.hD (t.set (dG (i / 64 % 8)) ((t.get (dG (i / 64 % 8))).set (dG (i / 8 % 8)) (((t.get (dG (i / 64 % 8))).get (dG (i / 8 % 8))).set (dG (i % 8)) v)))
 |.j3 g c,i,v=>.j3 (λM=>match Nat.beq M i with|true=>v|false=>g M) c
def aeD{M}(aH:i<8)(bb:M<8)(h:dG i=dG M):i=M:=by have dC:∀a b:Fin 8,dG a=dG b->a=b:=ag;exact mJ Fin.val (dC ⟨i,aH⟩ ⟨M,bb⟩ h)
def cS.qZ{α}(t:cS α)(a b)(v):(t.set (dG (a % 8)) v).get (dG (b % 8))=if b % 8=a % 8 then v else t.get (dG (b % 8)):=by
 rw[cS.amr];by_cases h:b % 8=a % 8
 .rw[b3 h,b3 (by rw[h])]
 .rw[bA h,bA (λe=>h (aeD (nb _ ag) (nb _ ag) e))]
def Rows.wf(am:Rows)(i)(v):(am.mT i v).cap=am.cap:=by cases am<;>rfl
def Rows.F5(am:Rows)(i M)(v)(aH:i<am.cap)(bb:M<am.cap):(am.mT i v).row M=if M=i then v else am.row M:=by
 cases am with
 |fG r=>
  have:M=i:=by simp [Rows.cap] at aH bb;omega
  simp [Rows.mT,Rows.row,this]
 |dc t=>
  simp only[Rows.cap] at aH bb;simp only[Rows.mT,Rows.row,cS.qZ];by_cases h:M=i
  .simp [h]
  .rw[bA Y,bA h]
 |cl t=>
  simp only[Rows.cap] at aH bb;simp only[Rows.mT,Rows.row,cS.qZ];by_cases h:M=i
  .simp [h,cS.qZ]
  .rw[bA h];by_cases B:M / 8 % 8=i / 8 % 8
   .rw[b3 B,cS.qZ,bA Y,B]
   .rw[bA B]
 |hD t=>
  simp only[Rows.cap] at aH bb;simp only[Rows.mT,Rows.row,cS.qZ];by_cases h:M=i
  .simp [h,cS.qZ]
  .rw[bA h];by_cases B:M / 64 % 8=i / 64 % 8
   .rw[b3 B,cS.qZ];by_cases F:M / 8 % 8=i / 8 % 8
    .rw[b3 F,cS.qZ,bA Y,B,F]
    .rw[bA F,B]
   .rw[bA B]
 |j3 g c=>
  simp only[Rows.mT,Rows.row];by_cases h:M=i
  .subst h;simp
  .rw[bA h];have:Nat.beq M i=false:=by
    cases e:Nat.beq M i with
    |false=>rfl
    |true=>exact absurd (Nat.eq_of_beq_eq_true e) h
   rw[this]
def SO(h:rowAt am i k):k (am.row i):=by
 unfold rowAt at h;cases am with
 |fG r=>
  change a7 (Nat.beq i 0) (k r) false=true at h;rcases ic h with⟨_,h⟩|⟨_,h⟩
  .exact h
  .exact bS h
 |dc t=>change k ((n0 i).g1 t)=true at h;have:(n0 i).g1 t=(Rows.dc t).row i:=oN _ _;rwa [this] at h
 |cl t=>
  change k ((n0 i).g2 t)=true at h;have:(n0 i).g2 t=(Rows.cl t).row i:=by change(bQ (dG (i % 8))).s ((bQ (dG (i / 8 % 8))).s t)=_;rw[oN,oN];rfl
  rwa [this] at h
 |hD t=>
  change k ((n0 i).g3 t)=true at h;have:(n0 i).g3 t=(Rows.hD t).row i:=by change(bQ (dG (i % 8))).s ((bQ (dG (i / 8 % 8))).s ((bQ (dG (i / 64 % 8))).s t))=_;rw[oN,oN,oN];rfl
  rwa [this] at h
 |j3 g c=>exact h
def BJ(am)(i)(r:cv)(k):setRow am i r k=k (am.mT i r):=by
 cases am with
 |fG q=>rfl
 |dc t=>change(bQ (dG (i % 8))).u t (λ_ k=>k r) (λt=>k (.dc t))=_;rw[z8];rfl
 |cl t=>change(bQ (dG (i / 8 % 8))).u t (λt k=>(bQ (dG (i % 8))).u t (λ_ k=>k r) k) (λt=>k (.cl t))=_;rw[z8,z8];rfl
 |hD t=>change(bQ (dG (i / 64 % 8))).u t (λt k=>(bQ (dG (i / 8 % 8))).u t (λt k=>(bQ (dG (i % 8))).u t (λ_ k=>k r) k) k) (λt=>k (.hD t))=_;rw[z8,z8,z8];rfl
 |j3 g c=>rfl
abbrev eR(a:Nat):Prop:=0<=a
def eN:eR a:=mz a
def F4(t:xg)(a:Nat):gB:=
 ((((t.get (dG (a / 4096 % 8))).get (dG (a / 512 % 8))).get (dG (a / 64 % 8))).get (dG (a / 8 % 8))).get (dG (a % 8))
def Vl(t:xg)(a:Nat)(D:gB):xg:=
 t.set (dG (a / 4096 % 8)) ((t.get (dG (a / 4096 % 8))).set (dG (a / 512 % 8)) (((t.get (dG (a / 4096 % 8))).get (dG (a / 512 % 8))).set (dG (a / 64 % 8))
  ((((t.get (dG (a / 4096 % 8))).get (dG (a / 512 % 8))).get (dG (a / 64 % 8))).set (dG (a / 8 % 8))
   (((((t.get (dG (a / 4096 % 8))).get (dG (a / 512 % 8))).get (dG (a / 64 % 8))).get (dG (a / 8 % 8))).set (dG (a % 8)) D))))
def bd.get(H:bd)(a:Nat):gB:=match Nat.blt a 32768 with
 |true=>F4 H.t.t a
 |false=>H.t.f a
def LI(t:te)(a:Nat)(D:gB):te:=match Nat.blt a 32768 with
 |true=>⟨Vl t.t a D,t.f⟩
 |false=>⟨t.t,λM=>match Nat.beq M a with|true=>D|false=>t.f M⟩
def bd.put(H:bd)(a:Nat)(D:gB):bd:=⟨H.next,LI H.t a D⟩
def apT(t)(a bF)(D)(h:a<32768)(b5:bF<32768):F4 (Vl t a D) bF=if bF=a then D else F4 t bF:=by
 simp only[F4,Vl];by_cases e:bF=a
 .subst e;simp [cS.qZ]
 .rw[bA e,cS.qZ];by_cases B:bF / 4096 % 8=a / 4096 % 8
  .rw[b3 B,cS.qZ];by_cases F:bF / 512 % 8=a / 512 % 8
   .rw[b3 F,cS.qZ];by_cases ah:bF / 64 % 8=a / 64 % 8
    .rw[b3 ah,cS.qZ];by_cases aE:bF / 8 % 8=a / 8 % 8
     .rw[b3 aE,cS.qZ,bA Y,B,F,ah,aE]
     .rw[bA aE,B,F,ah]
    .rw[bA ah,B,F]
   .rw[bA F,B]
  .rw[bA B]
def bd.nG(H:bd)(a bF)(D)(_:eR a)(_:eR bF):(H.put a D).get bF=if bF=a then D else H.get bF:=by
 simp only[bd.put,bd.get,LI];cases aZ:Nat.blt a 32768<;>cases aN:Nat.blt bF 32768
 .by_cases e:bF=a
  .subst e;simp
  .rw[bA e];have:Nat.beq bF a=false:=by
    cases c9:Nat.beq bF a with
    |false=>rfl
    |true=>exact absurd (Nat.eq_of_beq_eq_true c9) e
   simp only[this]
 .rw[bA (λe=>by subst e;rw[aZ] at aN;cases aN)]
 .rw[bA (λe=>by subst e;rw[aZ] at aN;cases aN)]
 .exact apT _ _ _ _ (by simpa [Bh] using aZ) (by simpa [Bh] using aN)
def anD(a:Nat)(t:te):(hp a).g t=match Nat.blt a 32768 with|true=>F4 t.t a|false=>t.f a:=by
 have⟨t,f⟩:=t;unfold hp;cases e:Nat.blt a 32768
 .rfl
 .change(bQ (dG (a % 8))).s ((bQ (dG (a / 8 % 8))).s ((bQ (dG (a / 64 % 8))).s ((bQ (dG (a / 512 % 8))).s ((bQ (dG (a / 4096 % 8))).s t))))=_;simp only[oN];rfl
def pN(H)(a)(k):zR H a k=k (H.get a):=by simp only[zR,Hz,anD];rfl
def SX(a)(t)(D)(k):(hp a).u t D k=k (LI t a D):=by
 have⟨t,f⟩:=t;unfold hp LI;cases e:Nat.blt a 32768
 .rfl
 .change(bQ (dG (a / 4096 % 8))).u t (λt k=>(bQ (dG (a / 512 % 8))).u t (λt k=>(bQ (dG (a / 64 % 8))).u t (λt k=>(bQ (dG (a / 8 % 8))).u t (λt k=>(bQ (dG (a % 8))).u t (λ_ k=>k D) k) k) k) k) (λt=>k ⟨t,f⟩)=_;simp only[z8];rfl
def tf(H)(a)(D)(k):qq H a D k=k (H.put a D):=by simp only[qq,Hz,SX];rfl
def RG{H:bd}{D:gB}{k:Nat->bd->Bool}(h:sJ H D k=true):eR H.next/\k H.next {(H.put H.next D) with next:=H.next+1}=true:=by simp only[sJ,Hz] at h;rw[SX] at h;exact⟨eN,h⟩
def gB.live:gB->Bool
 |.cells .. =>true
 |.map .. =>true
 |_=>false
def kA(aa:cE)(am:Rows)(n z:Nat)(c:Array Value):Prop:=
 ∀i,i<n->∃X,cK aa (am.row i) X/\(am.row i).length=z/\(∀x∈am.row i,x.lw=true)/\∀M,M<z->c[i*z+M]?=X[M]?
def E9(aa:cE):List (bl×bl×Nat)->List MapEntry->Prop
 |[],L=>L=[]
 |(k,v,b)::l,L=>∃e fX,L=e::fX/\bk aa k e.key/\bk aa v e.val/\e.born=b/\E9 aa l fX
def ng(aa:cE)(w:World)(a:Nat):gB->Prop
 |.none=>True
 |.dead=>True
 |.cells am n z el u dK=>∃b ca c bS,aa a=some (b,ca)/\w.heap[b]?=some (.cells c el bS)/\(dK=false->bS=(0,0))/\0<z/\n<=am.cap/\kA aa am n z c/\
  (if u then c.size=ca*z/\n*z<=c.size else c.size=n*z)
 |.map es sI=>∃b ca xw,aa a=some (b,ca)/\w.heap[b]?=some (.map xw sI)/\E9 aa es xw.toList
structure Rel(aa:cE)(H:bd)(w:World):Prop where
 next:eR H.next
 pH:∀a x,aa a=some x->a<H.next
 obj:∀a,eR a->ng aa w a (H.get a)
 inj:∀a bF,eR a->eR bF->(H.get a).live=true->(H.get bF).live=true->∀b ca fs,aa a=some (b,ca)->aa bF=some (b,fs)->a=bF
def kI(aa:cE)(H:bd)(b:Nat):Prop:=∃a,eR a/\(H.get a).live=true/\∃ca,aa a=some (b,ca)
structure Step(aa:cE)(H:bd)(w:World)(bD:cE)(aq:bd)(a8:World):Prop where
 le:aa.le bD
 hZ:∀a,a<H.next->bD a=aa a
 next:H.next<=aq.next
 size:w.heap.size<=a8.heap.size
 frame:∀b,b<w.heap.size->¬kI aa H b->a8.heap[b]?=w.heap[b]?
 own:∀b,kI bD aq b->w.heap.size<=b\/kI aa H b
 dead:∀x,x<H.next->(H.get x).live=false->(aq.get x).live=false
 tape:a8.tape=w.tape
 os:a8.os=w.os
 output:a8.output=w.output
def Step.refl(aa)(H)(w):Step aa H w aa H w:=
 ⟨cE.le_refl aa,λ_ _=>rfl,ez _,ez _,λ_ _ _=>rfl,λ_ h=>.inr h,λ_ _ h=>h,rfl,rfl,rfl⟩
def Step.trans{nN ct dg Yy hM ej}(h:Step aa H w nN ct dg)(b5:Step nN ct dg Yy hM ej):Step aa H w Yy hM ej where
 le:=cE.le_trans h.le b5.le
 hZ a aD:=(b5.hZ a (nV aD h.next)).trans (h.hZ a aD)
 next:=mq h.next b5.next
 size:=mq h.size b5.size
 frame b av aB:=by
  rw[b5.frame b (nV av h.size) λay=>?_,h.frame b av aB];rcases h.own b ay with B|B
  .omega
  .exact aB B
 own b ay:=by
  rcases b5.own b ay with B|B
  .exact .inl (mq h.size B)
  .exact h.own b B
 dead x I aJ:=b5.dead x (nV I h.next) (h.dead x I aJ)
 tape:=b5.tape.trans h.tape
 os:=b5.os.trans h.os
 output:=b5.output.trans h.output
def bk.lt{x}(R:Rel aa H w)(h:aa a=some x):eR a:=eN
def kA.mono{z c}(h:aa.le bD)(r:kA aa am n z c):kA bD am n z c:=λi aH=>
 let⟨X,B,F⟩:=r i aH;⟨X,cK.mono h _ _ B,F⟩
def E9.mono(h:aa.le bD):∀{l}{L},E9 aa l L->E9 bD l L
 |[],_,e=>e
 |(k,v,b)::l,_,e=>by obtain⟨x,fX,rfl,B,F,ah,aE⟩:=e;exact⟨x,fX,rfl,bk.mono h _ _ B,bk.mono h _ _ F,ah,E9.mono h aE⟩
def ng.mono{a8}(h:aa.le bD)(bx:∀b ca,D.live->aa a=some (b,ca)->a8.heap[b]?=w.heap[b]?)(r:ng aa w a D):ng bD a8 a D:=by
 cases D with
 |none=>trivial
 |dead=>trivial
 |cells am n z el u dK=>have⟨b,ca,c,bS,B,F,ah,aE,bt,b1,ep⟩:=r;exact⟨b,ca,c,bS,h _ _ B,(bx b ca rfl B).trans F,ah,aE,bt,b1.mono h,ep⟩
 |map es sI=>have⟨b,ca,c,B,F,ah⟩:=r;exact⟨b,ca,c,h _ _ B,(bx b ca rfl B).trans F,ah.mono h⟩
def ng.block(r:ng aa w a D)(K:D.live):∃b ca,aa a=some (b,ca)/\b<w.heap.size:=by
 cases D with
 |none=>exact bS K
 |dead=>exact bS K
 |cells am n z el u dK=>have⟨b,ca,c,bS,B,F,_⟩:=r;exact⟨b,ca,B,(Bj.1 F).1⟩
 |map es sI=>have⟨b,ca,c,B,F,_⟩:=r;exact⟨b,ca,B,(Bj.1 F).1⟩
def Rel.Oo(R:Rel aa H w)(h:kI aa H b):b<w.heap.size:=by have⟨a,aD,K,ca,ad⟩:=h;have⟨dA,fs,B,F⟩:=(R.obj a aD).block K;rw[ad] at B;cases B;exact F
def Rel.drew(R:Rel aa H w):Rel aa H w.drew:=⟨R.next,R.pH,R.obj,R.inj⟩
def Step.drew(aa)(H)(w):Step aa H w aa H w.drew:=
 ⟨cE.le_refl aa,λ_ _=>rfl,ez _,ez _,λ_ _ _=>rfl,λ_ h=>.inr h,λ_ _ h=>h,rfl,rfl,rfl⟩
def cE.set(aa:cE)(a:Nat)(x:Nat×Nat):cE:=λbF=>if bF=a then some x else aa bF
def cE.Df(aa:cE)(a)(x):aa.set a x a=some x:=by simp [cE.set]
def cE.rf{bF}(aa:cE)(x)(h:bF≠a):aa.set a x bF=aa bF:=by simp [cE.set,h]
def cE.CC{aa:cE}{a}(x)(h:aa a=none):aa.le (aa.set a x):=λbF y ap=>by
 by_cases e:bF=a
 .subst e;rw[h] at ap;cases ap
 .rw[cE.rf _ _ e];exact ap
def Dm(w:World)(D)(h:b<w.heap.size):(w.alloc D).heap[b]?=w.heap[b]?:=heap_alloc_old w D b h
def JH(w:World)(D):(w.alloc D).heap[w.heap.size]?=some D:=heap_alloc_new w D
def rn(k):cq k<8:=by cases k<;>decide
def JE(k):jh (cq k)=k:=by cases k<;>rfl
def xT(c):0<cp c:=by unfold cp;split<;>decide
def tn(h:c<8):(c=0/\cp c=256/\dL c=128)\/(c=1/\cp c=65536/\dL c=32768)\/(c=2/\cp c=4294967296/\dL c=2147483648)\/(c=3/\cp c=18446744073709551616/\dL c=9223372036854775808)\/(c=4/\cp c=256/\dL c=256)\/(c=5/\cp c=65536/\dL c=65536)\/(c=6/\cp c=4294967296/\dL c=4294967296)\/(c=7/\cp c=18446744073709551616/\dL c=18446744073709551616):=by
 match c,h with
 |0,_=>simp [cp,dL]
 |1,_=>simp [cp,dL]
 |2,_=>simp [cp,dL]
 |3,_=>simp [cp,dL]
 |4,_=>simp [cp,dL]
 |5,_=>simp [cp,dL]
 |6,_=>simp [cp,dL]
 |7,_=>simp [cp,dL]
def aoS(h:c<8)(x):(jh c).wrap x=dm c (x % (cp c)).toNat:=by
 have fm:∀c:Nat,c<8->c=0\/c=1\/c=2\/c=3\/c=4\/c=5\/c=6\/c=7:=Y;rcases fm c h with rfl|rfl|rfl|rfl|rfl|rfl|rfl|rfl
 all_goals
  simp only[IntKind.wrap,jh,IntKind.bits,IntKind.signed,dm,cp,dL,qX,t5,oI,n1,md,Nat.reduceSub]
  first
  |(split<;>split<;>omega)
  |(split<;>omega)
def wQ:dm c a % (cp c)=(a) % (cp c):=by
 unfold dm;split
 .rfl
 .exact Int.sub_emod_right _ _
def ke(h:a<dL c):dm c a=a:=b3 h
def Jr(h:c<8):dL c<=cp c:=by rcases tn h with⟨_,B,F⟩|⟨_,B,F⟩|⟨_,B,F⟩|⟨_,B,F⟩|⟨_,B,F⟩|⟨_,B,F⟩|⟨_,B,F⟩|⟨_,B,F⟩<;>omega
def C8(h:c<8):2 ^ (jh c).bits=cp c:=by have fm:∀c:Nat,c<8->c=0\/c=1\/c=2\/c=3\/c=4\/c=5\/c=6\/c=7:=Y;rcases fm c h with rfl|rfl|rfl|rfl|rfl|rfl|rfl|rfl<;>rfl
def tB{x}(h:c<8)(ad:r<cp c)(I:x % (cp c:Int)=r):(jh c).wrap x=dm c r:=by rw[aoS h,I];rfl
def pm(h:c<8)(ad:r<cp c):bk aa (.int c r) (.int (jh c) (dm c r)):=by simp only[bk];exact⟨h,ad,trivial⟩
def xm(ad:r<9223372036854775808):bk aa (.int 3 r) (.int .i64 r):=by have:=pm (aa:=aa) (c:=3) (r:=r) ag (by simp [cp];omega);rwa [ke (by simpa [dL] using ad)] at this
def kM(b):bk aa (.bool b) (.bool b):=by simp only[bk]
def DN:bk aa .undef Go.undef:=by simp only[bk]
def CV(V):bk aa .any V:=by simp only[bk]
def kb(aa:cE)(k:bl->Bool)(s:Sem Value)(P:Program):Prop:=∃v V,k v=true/\bk aa v V/\∀w,s.run P w=.ok V w
def kb.mk{k s}(az:k v)(au:bk aa v V)(ak:∀w,s.run P w=.ok V w):kb aa k s P:=⟨v,V,az,au,ak⟩
def cZ:Nat.blt a b=true↔a<b:=by simp [Bh]
def dn{a b:Nat}:Nat.ble a b=true↔a<=b:=by simp
def Rj(h:Nat.blt a b=false):b<=a:=by
 rcases l7 a b with b5|b5
 .rw[cZ.2 b5] at h;cases h
 .exact b5
def Tg{a b:Nat}(h:Nat.ble a b=false):b<a:=by
 rcases l7 b a with b5|b5
 .exact b5
 .rw[dn.2 b5] at h;cases h
def cF{a b:Nat}:Nat.beq a b=true↔a=b:=⟨Nat.eq_of_beq_eq_true,λh=>by subst h;exact Nat.beq_refl a⟩
def ts{a b:Nat}(h:Nat.beq a b=false):a≠b:=λe=>by rw[cF.2 e] at h;cases h
def eH{b x}(h:a7 b x false):b/\x:=by
 rcases ic h with h|⟨_,h⟩
 .exact h
 .exact bS h
def Di{b x}(h:a7 b false x):b=false/\x:=by
 rcases ic h with⟨_,h⟩|h
 .exact bS h
 .exact h
def ZB(aw:c<8)(aD:a<cp c)(av:b<cp c):(dm c a=dm c b)↔a=b:=by
 unfold dm;rcases tn aw with⟨_,B,F⟩|⟨_,B,F⟩|⟨_,B,F⟩|⟨_,B,F⟩|⟨_,B,F⟩|⟨_,B,F⟩|⟨_,B,F⟩|⟨_,B,F⟩<;>
  rw[B] at aD av ⊢ <;>rw[F]<;>(repeat' split)<;>omega
def L4(aw:c<8)(ak:dL c=cp c)(aD:a<cp c)(av:b<cp c):(dm c a<dm c b)↔a<b:=by rw[ke Y,ke Y];omega
def Oz(aw:c<8)(ak:dL c≠cp c)(aD:a<cp c)(av:b<cp c):(dm c a<dm c b)↔(a+dL c) % cp c<(b+dL c) % cp c:=by
 unfold dm;rcases tn aw with⟨_,B,F⟩|⟨_,B,F⟩|⟨_,B,F⟩|⟨_,B,F⟩|⟨_,B,F⟩|⟨_,B,F⟩|⟨_,B,F⟩|⟨_,B,F⟩<;>
  rw[B] at aD av ak ⊢ <;>rw[F] at ak ⊢ <;>first|(exact absurd rfl ak)|((repeat' split)<;>omega)
def oP(P:Program)(w:World)(t:TypeId)(op:BinOp)(c:Nat)(x y:Int)(B:op≠.shl)(F:op≠.shr):(binOp op t (.int (jh c) x) (.int (jh c) y)).run P w=(match op with
 |.add|.sub|.mul=>Op.intArith op (jh c) x y
 |.quo|.rem=>Op.intDiv op (jh c) x y
 |.and|.or|.xor|.andNot=>Op.intBits op (jh c) x y
 |_=>Op.intCmp op x y).run P w:=by
 cases op<;>first|(exact absurd rfl B)|(exact absurd rfl F)|(simp [binOp])
def Ey(aw:c<8)(aD:a<cp c):(BitVec.ofInt (jh c).bits (dm c a)).toNat=a:=by
 rw[BitVec.toNat_ofInt];have:((2 ^ (jh c).bits:Nat):Int)=(cp c:Int):=by rw[C8 aw]
 rw[this,wQ];have h:(a:Int) % (cp c:Int)=a:=uP Y Y;rw[h];rfl
def aoK{op k}{t}(h:(k4 op c (cp c) (dL c)).f a b k)(aw:c<8)(aD:a<cp c)(av:b<cp c):kb aa k (binOp op t (.int (jh c) (dm c a)) (.int (jh c) (dm c b))) P:=by
 have gn:=xT c;have bf:=Jr aw;cases op with
 |add=>simp only[k4,nj,gT] at h;refine .mk h (pm aw (nb _ gn)) λw=>?_;rw[oP _ _ _ _ _ _ _ (by simp) (by simp)];simp only[Op.intArith,eB];have e:(jh c).wrap (dm c a+dm c b)=dm c (Nat.mod (Nat.add a b) (cp c)):=tB aw (nb _ gn) (by rw[Int.add_emod,wQ,wQ,<-Int.add_emod];show _=(((a+b) % cp c:Nat):Int);rw[B9];rfl);rw[e]
 |sub=>simp only[k4,Ov,gT] at h;refine .mk h (pm aw (nb _ gn)) λw=>?_;rw[oP _ _ _ _ _ _ _ (by simp) (by simp)];simp only[Op.intArith,eB];have e:(jh c).wrap (dm c a - dm c b)=dm c (Nat.mod (Nat.sub (Nat.add a (cp c)) b) (cp c)):=tB aw (nb _ gn) (by rw[Int.sub_emod,wQ,wQ,<-Int.sub_emod];show _=(((a+cp c - b) % cp c:Nat):Int);rw[B9];have e:((a+cp c - b:Nat):Int)=((a:Int) - b)+cp c:=Y;rw[e,Int.add_emod_right]);rw[e]
 |mul=>simp only[k4,Ht,gT] at h;refine .mk h (pm aw (nb _ gn)) λw=>?_;rw[oP _ _ _ _ _ _ _ (by simp) (by simp)];simp only[Op.intArith,eB];have e:(jh c).wrap (dm c a*dm c b)=dm c (Nat.mod (Nat.mul a b) (cp c)):=tB aw (nb _ gn) (by rw[Int.mul_emod,wQ,wQ,<-Int.mul_emod];show _=(((a*b) % cp c:Nat):Int);rw[B9];rfl);rw[e]
 |quo=>simp only[k4] at h;have⟨B,h⟩:=eH h;have⟨F,h⟩:=eH h;have⟨ah,h⟩:=Di h;rw[cZ] at B F;have ah:=ts ah;rw[gT] at h;have aV:a / b<cp c:=t3 (Nat.div_le_self a b) aD;refine .mk h (pm aw aV) λw=>?_;rw[oP _ _ _ _ _ _ _ (by simp) (by simp)];rw[ke B,ke F];have:¬((b:Int)=0):=Y;simp only[Op.intDiv,this,md,eB];have e:(jh c).wrap ((a:Int).tdiv b)=dm c (a / b):=tB aw aV (by rw[<-Int.ofNat_tdiv];exact uP (Int.natCast_nonneg _) (by exact_mod_cast aV));rw[e];rfl
 |rem=>simp only[k4] at h;have⟨B,h⟩:=eH h;have⟨F,h⟩:=eH h;have⟨ah,h⟩:=Di h;rw[cZ] at B F;have ah:=ts ah;rw[gT] at h;have aV:a % b<cp c:=t3 (Nat.mod_le a b) aD;refine .mk h (pm aw aV) λw=>?_;rw[oP _ _ _ _ _ _ _ (by simp) (by simp)];have ax:Nat.mod a b<dL c:=t3 (Nat.mod_le a b) B;rw[ke B,ke F,ke ax];have:¬((b:Int)=0):=Y;simp only[Op.intDiv,this,md,eB];rw[<-Int.ofNat_tmod];rfl
 |and=>simp only[k4,gT] at h;have aV:Nat.land a b<cp c:=t3 (Nat.and_le_left) aD;refine .mk h (pm aw aV) λw=>?_;rw[oP _ _ _ _ _ _ _ (by simp) (by simp)];simp only[Op.intBits,eB];rw[tB aw aV];rw[BitVec.toNat_and,Ey aw aD,Ey aw av];exact uP Y (by exact_mod_cast aV)
 |or=>
  simp only[k4,gT] at h;have aV:Nat.lor a b<cp c:=by rw[<-C8 aw] at aD av ⊢;exact Nat.or_lt_two_pow aD av
  refine .mk h (pm aw aV) λw=>?_;rw[oP _ _ _ _ _ _ _ (by simp) (by simp)];simp only[Op.intBits,eB];rw[tB aw aV];rw[BitVec.toNat_or,Ey aw aD,Ey aw av];exact uP Y (by exact_mod_cast aV)
 |xor=>
  simp only[k4,gT] at h;have aV:Nat.xor a b<cp c:=by rw[<-C8 aw] at aD av ⊢;exact Nat.xor_lt_two_pow aD av
  refine .mk h (pm aw aV) λw=>?_;rw[oP _ _ _ _ _ _ _ (by simp) (by simp)];simp only[Op.intBits,eB];rw[tB aw aV];rw[BitVec.toNat_xor,Ey aw aD,Ey aw av];exact uP Y (by exact_mod_cast aV)
 |shl=>simp only[k4,Ll] at h;exact bS h
 |shr=>simp only[k4,Ll] at h;exact bS h
 |andNot=>simp only[k4,Ll] at h;exact bS h
 |eql=>
  simp only[k4,ri] at h;refine .mk h (kM _) λw=>?_;rw[oP _ _ _ _ _ _ _ (by simp) (by simp)];simp only[Op.intCmp,eB];have:(dm c a==dm c b)=Nat.beq a b:=by rw[Bool.eq_iff_iff,xe,ZB aw aD av,cF]
  rw[this]
 |neq=>
  simp only[k4] at h;have:(dm c a !=dm c b)= !Nat.beq a b:=by show(!(dm c a==dm c b))=_;congr 1;rw[Bool.eq_iff_iff,xe,ZB aw aD av,cF]
  rcases ic h with⟨B,h⟩|⟨B,h⟩
  .refine .mk h (kM _) λw=>?_;rw[oP _ _ _ _ _ _ _ (by simp) (by simp)];simp only[Op.intCmp,eB,this,B,xp]
  .refine .mk h (kM _) λw=>?_;rw[oP _ _ _ _ _ _ _ (by simp) (by simp)];simp only[Op.intCmp,eB,this,B,Aq]
 |lss=>
  simp only[k4,HG] at h;split at h<;>(rename_i ak;simp only[ri] at h)
  .refine .mk h (kM _) λw=>?_;rw[oP _ _ _ _ _ _ _ (by simp) (by simp)];have:decide (dm c a<dm c b)=Nat.blt a b:=by rw[Bool.eq_iff_iff,oI,cZ,L4 aw (cF.1 ak) aD av]
   simp only[Op.intCmp,eB,this]
  .refine .mk h (kM _) λw=>?_;rw[oP _ _ _ _ _ _ _ (by simp) (by simp)];have:decide (dm c a<dm c b)=Nat.blt (Nat.mod (Nat.add a (dL c)) (cp c)) (Nat.mod (Nat.add b (dL c)) (cp c)):=by rw[Bool.eq_iff_iff,oI,cZ];exact Oz aw (ts ak) aD av
   simp only[Op.intCmp,eB,this]
 |gtr=>
  simp only[k4,HG] at h;split at h<;>(rename_i ak;simp only[ri] at h)
  .refine .mk h (kM _) λw=>?_;rw[oP _ _ _ _ _ _ _ (by simp) (by simp)];have:decide (dm c a>dm c b)=Nat.blt b a:=by rw[Bool.eq_iff_iff,oI,cZ];exact L4 aw (cF.1 ak) av aD
   simp only[Op.intCmp,eB,this]
  .refine .mk h (kM _) λw=>?_;rw[oP _ _ _ _ _ _ _ (by simp) (by simp)];have:decide (dm c a>dm c b)=Nat.blt (Nat.mod (Nat.add b (dL c)) (cp c)) (Nat.mod (Nat.add a (dL c)) (cp c)):=by rw[Bool.eq_iff_iff,oI,cZ];exact Oz aw (ts ak) av aD
   simp only[Op.intCmp,eB,this]
 |leq=>
  simp only[k4,JY] at h;split at h<;>(rename_i ak;simp only[ri] at h)
  .refine .mk h (kM _) λw=>?_;rw[oP _ _ _ _ _ _ _ (by simp) (by simp)];have:decide (dm c a<=dm c b)=Nat.ble a b:=by rw[Bool.eq_iff_iff,oI,dn];have:=L4 aw (cF.1 ak) av aD;omega
   simp only[Op.intCmp,eB,this]
  .refine .mk h (kM _) λw=>?_;rw[oP _ _ _ _ _ _ _ (by simp) (by simp)];have:decide (dm c a<=dm c b)=Nat.ble (Nat.mod (Nat.add a (dL c)) (cp c)) (Nat.mod (Nat.add b (dL c)) (cp c)):=by rw[Bool.eq_iff_iff,oI,dn];have B:(dm c b<dm c a)↔Nat.mod (Nat.add b (dL c)) (cp c)<Nat.mod (Nat.add a (dL c)) (cp c):=Oz aw (ts ak) av aD;omega
   simp only[Op.intCmp,eB,this]
 |geq=>
  simp only[k4,JY] at h;split at h<;>(rename_i ak;simp only[ri] at h)
  .refine .mk h (kM _) λw=>?_;rw[oP _ _ _ _ _ _ _ (by simp) (by simp)];have:decide (dm c a>=dm c b)=Nat.ble b a:=by rw[Bool.eq_iff_iff,oI,dn];have:=L4 aw (cF.1 ak) aD av;omega
   simp only[Op.intCmp,eB,this]
  .refine .mk h (kM _) λw=>?_;rw[oP _ _ _ _ _ _ _ (by simp) (by simp)];have:decide (dm c a>=dm c b)=Nat.ble (Nat.mod (Nat.add b (dL c)) (cp c)) (Nat.mod (Nat.add a (dL c)) (cp c)):=by rw[Bool.eq_iff_iff,oI,dn];have B:(dm c a<dm c b)↔Nat.mod (Nat.add a (dL c)) (cp c)<Nat.mod (Nat.add b (dL c)) (cp c):=Oz aw (ts ak) aD av;omega
   simp only[Op.intCmp,eB,this]
def W3:jO 0=1:=rfl
def Lf(l):jO (l+1)=256*jO l:=by show 2 ^ (8*(l+1))=256*2 ^ (8*l);rw[Ia,Nat.pow_add];omega
def pP:∀(l n),(cL l n).length=l
 |0,_=>rfl
 |l+1,n=>by simp [cL,pP l]
def Vi:∀(l aM n cx),cL (l+aM) (n % jO l+cx*jO l)=cL l n++cL aM cx
 |0,aM,n,cx=>by simp [W3,Nat.mod_one,cL]
 |l+1,aM,n,cx=>by
  have B:l+1+aM=(l+aM)+1:=Y;have F:(n % jO (l+1)+cx*jO (l+1)) % 256=n % 256:=by rw[Lf,Nat.add_mod,<-Nat.mul_assoc,Nat.mul_comm cx 256,Nat.mul_assoc,Nat.mul_mod_right,sb,Nat.mod_mod,Nat.mod_mul_right_mod]
  have ah:(n % jO (l+1)+cx*jO (l+1)) / 256=(n / 256) % jO l+cx*jO l:=by rw[Lf,<-Nat.mul_assoc,Nat.mul_comm cx 256,Nat.mul_assoc,Nat.add_mul_div_left _ _ ag,Nat.mod_mul_right_div_self]
  rw[B];simp only[cL,F,ah,Vi l aM (n / 256) cx,jF]
def Pm:∀(i l n),i<=l->cL (l - i) (n>>>(8*i))=(cL l n).drop i
 |0,l,n,_=>by simp
 |i+1,0,n,h=>Y
 |i+1,l+1,n,h=>by
  have B:l+1 - (i+1)=l - i:=Y;have F:n>>>(8*(i+1))=(n / 256)>>>(8*i):=by rw[Ia,t8,Nat.shiftRight_add];simp [Nat.shiftRight_eq_div_pow]
  rw[B,F,Pm i l _ Y];simp [cL]
def Jw:∀(M l n),M<=l->cL M n=(cL l n).take M
 |0,l,n,_=>by simp [cL]
 |M+1,0,n,h=>Y
 |M+1,l+1,n,h=>by simp only[cL,Ro];rw[Jw M l _ Y]
def SJ:∀(i l n),i<l->(cL l n)[i]?=some (UInt8.ofNat (Nat.land (Nat.shiftRight n (Nat.mul 8 i)) 255))
 |0,0,n,h=>Y
 |i+1,0,n,h=>Y
 |0,l+1,n,_=>by have:Nat.land (Nat.shiftRight n (Nat.mul 8 0)) 255=n % 256:=Nat.and_two_pow_sub_one_eq_mod n 8;simp only[cL,NT,this]
 |i+1,l+1,n,h=>by
  have F:Nat.shiftRight n (Nat.mul 8 (i+1))=Nat.shiftRight (n / 256) (Nat.mul 8 i):=by show n>>>(8*(i+1))=(n / 256)>>>(8*i);rw[Ia,t8,Nat.shiftRight_add];simp [Nat.shiftRight_eq_div_pow]
  simp only[cL,s1];rw[SJ i l _ Y,F]
def H3:∀(l n cx),cL l n=cL l cx↔n % jO l=cx % jO l
 |0,n,cx=>by simp [cL,W3,Nat.mod_one]
 |l+1,n,cx=>by
  have aZ:n % jO (l+1)=n % 256+256*(n / 256 % jO l):=by rw[Lf,Nat.mod_mul]
  have aN:cx % jO (l+1)=cx % 256+256*(cx / 256 % jO l):=by rw[Lf,Nat.mod_mul]
  have av:UInt8.ofNat (n % 256)=UInt8.ofNat (cx % 256)↔n % 256=cx % 256:=by
   constructor
   .intro h;have:=mJ UInt8.toNat h;simpa [AX] using this
   .intro h;rw[h]
  simp only[cL,List.cons.injEq,av,H3 l,aZ,aN];omega
def Yz(l n aM cx):zA l n aM cx=true↔cL l n=cL aM cx:=by
 unfold zA;constructor
 .intro h;have⟨B,F⟩:=eH h;have e:=cF.1 B;subst e;exact(H3 l n cx).2 (cF.1 F)
 .intro h;have e:l=aM:=by have:=mJ List.length h;simpa [pP] using this
  subst e;rw[cF.2 rfl,fz,cF];exact(H3 l n cx).1 h
def ofNat_lt{a b:Nat}(aD:a<256)(av:b<256):UInt8.ofNat a<UInt8.ofNat b↔a<b:=by rw[UInt8.lt_iff_toNat_lt];simp [AX,mZ aD,mZ av]
def Wc{a b:Nat}(aD:a<256)(av:b<256):UInt8.ofNat a=UInt8.ofNat b↔a=b:=by
 constructor
 .intro h;have:=mJ UInt8.toNat h;simpa [AX,mZ aD,mZ av] using this
 .intro h;rw[h]
def Ae:∀(l n aM cx),A9 l n aM cx=Op.bytesLess (cL l n) (cL aM cx)
 |0,_,0,_=>rfl
 |_+1,_,0,_=>rfl
 |0,_,_+1,_=>rfl
 |l+1,n,aM+1,cx=>by
  have m1:n % 256<256:=nb _ ag;have m2:cx % 256<256:=nb _ ag;have bB:=Ae l (n / 256) aM (cx / 256);show a7 (Nat.blt (n % 256) (cx % 256)) true (a7 (Nat.beq (n % 256) (cx % 256)) (A9 l (n / 256) aM (cx / 256)) false)=
   (decide (UInt8.ofNat (n % 256)<UInt8.ofNat (cx % 256))||(UInt8.ofNat (n % 256)==UInt8.ofNat (cx % 256)&&Op.bytesLess (cL l (n / 256)) (cL aM (cx / 256))))
  rw[bB];have d1:decide (UInt8.ofNat (n % 256)<UInt8.ofNat (cx % 256))=Nat.blt (n % 256) (cx % 256):=by rw[Bool.eq_iff_iff,oI,ofNat_lt m1 m2,cZ]
  have d2:(UInt8.ofNat (n % 256)==UInt8.ofNat (cx % 256))=Nat.beq (n % 256) (cx % 256):=by rw[Bool.eq_iff_iff,xe,Wc m1 m2,cF]
  rw[d1,d2];cases Nat.blt (n % 256) (cx % 256)<;>cases Nat.beq (n % 256) (cx % 256)<;>simp
def Ux:∀(l),cL l.length (wI l)=l
 |[]=>rfl
 |b::l=>by have av:b.toNat<256:=b.toNat_lt;have B:(b.toNat+256*wI l) % 256=b.toNat:=Y;have F:(b.toNat+256*wI l) / 256=wI l:=Y;simp only[nD,wI,cL,B,F,Ux l];simp
def RJ{v}(h:Hw v=some x):bk aa x v/\x.lw:=by
 unfold Hw at h;split at h
 .cases h;exact⟨by simp only[bk],rfl⟩
 .rename_i k n;split at h
  .rename_i ak;cases h;refine⟨?_,rfl⟩;have aV:p1 (cq k) n<cp (cq k):=by unfold p1;have:=IE n (show(0:Int)<cp (cq k) by have:=xT (cq k);omega);have:=IF n (show(cp (cq k):Int)≠0 by have:=xT (cq k);omega);omega
   have:=pm (aa:=aa) (rn k) aV;rwa [JE,ak] at this
  .cases h
 .rename_i s;split at h
  .rename_i K;cases h;refine⟨?_,rfl⟩;simp only[bk];exact⟨dn.1 K,by rw[Ux]⟩
  .cases h
 all_goals first|(cases h;exact⟨by simp only[bk,iB],rfl⟩)|(cases h)
def Uf{aa}:∀{l}{x},Mf l=some x->cK aa x l/\(∀y∈x,y.lw)
 |[],x,h=>by cases h;exact⟨cK.nil,by simp⟩
 |v::l,x,h=>by
  unfold Mf at h;split at h
  .rename_i y ap;split at h
   .rename_i z bO;cases h;have⟨B,F⟩:=RJ (aa:=aa) ap;have⟨ah,aE⟩:=Uf (aa:=aa) bO;refine⟨cK.cons B ah,?_⟩;intro q ax;cases ax with
    |head=>exact F
    |tail _ hm=>exact aE q hm
   .cases h
  .cases h
def Ok{v}(h:mr v=some x):bk aa x v:=by
 unfold mr at h;split at h
 .rename_i d8;split at h
  .rename_i l K;cases h;have⟨B,F⟩:=Uf (aa:=aa) K;simp only[bk];exact⟨d8.toList,by simp,B,trivial,F⟩
  .cases h
 .rename_i d8;split at h
  .rename_i K;cases h;have:d8= #[]:=by
    cases d8 with
    |mk l=>simp at K;subst K;rfl
   subst this;simp only[bk,Go.undef]
  .cases h
 .exact(RJ h).1
def U6{v}(h:mr v=some x)(hu:x≠.undef):∃L,v.cells=List.toArray L/\cK aa x.cells L/\∀y∈x.cells,y.lw:=by
 unfold mr at h;split at h
 .rename_i d8;split at h
  .rename_i l K;cases h;have⟨B,F⟩:=Uf (aa:=aa) K;exact⟨d8.toList,by simp [Value.cells],B,F⟩
  .cases h
 .rename_i d8;split at h
  .cases h;exact absurd rfl hu
  .cases h
 .have⟨B,F⟩:=RJ (aa:=aa) h;have ah:=(B.OZ F).2;have aw:x.cells=[x]:=by cases x<;>first|rfl|(exact bS F)
  exact⟨[v],ah,by rw[aw];exact cK.cons B cK.nil,by rw[aw];intro y ap;simp at ap;subst ap;exact F⟩
end Go.Ev
