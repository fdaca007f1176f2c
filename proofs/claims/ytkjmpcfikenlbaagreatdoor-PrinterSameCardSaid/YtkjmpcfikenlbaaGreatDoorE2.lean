/- A part. -/
import Derived.Laws.AppendOwn
import Derived.Test.YtkjmpcfikenlbaaGreatDoorE1
set_option linter.all false
namespace Go.Ev
open Go
def ez:Nat->Nat->lS
 |0,_=>[]|l+1,n=>UInt8.ofNat (n % 256)::ez l (n / 256)
def iS:oK->Value
 |.p=>.pointer none|.s=>.slice none 0 0|.m=>.map none|.f=>.nilFunc|.i=>.nilIface
abbrev cX:=Nat->Option (Nat×Nat)
mutual
def bP(ae:cX):bp->Value->Prop
 |.undef,V=>V=Go.undef|.bool b,V=>V=.bool b|.int c n,V=>c<8/\n<cF c/\V=.int (jS c) (eM c n)|.str l n,V=>l<=1152921504606846976/\V=.string ⟨(ez l n).toArray⟩|.nil c,V=>V=iS c|.ptr a r s z,V=>∃b cm,ae a=some (b,cm)/\V=.pointer (some ⟨b,r*z+s,none⟩)
 |.slice a i l c u z,V=>∃b cm,ae a=some (b,cm)/\∃B,V=.slice (some ⟨b,B,none⟩) l (if u then cm - c else c)/\(B=i*z\/(l=0/\u=true/\0<c))/\l<=2147483647/\l<=(if u then cm - c else c)/\
  (if u then c<=cm else c<=2147483647)
 |.map a,V=>∃b cm,ae a=some (b,cm)/\V=.map (some b)|.fn f b5 cV,V=>∃nt nA,V=.func (.func f) (List.toArray nt) (List.toArray nA)/\dh ae b5 nt/\dh ae cV nA|.iface t v,V=>∃X,V=.iface t X/\bP ae v X|.agg n l,V=>∃L,V=.agg (List.toArray L)/\dh ae l L/\l.length=n/\∀x∈l,x.lQ=true|.gy l,V=>∃L,V=.tuple (List.toArray L)/\dh ae l L|.any,_=>True|.q9 c m r,V=>∃n,n<cF (c % 8)/\eM (c % 8) n % (m:Int)=r/\V=.int (jS (c % 8)) (eM (c % 8) n)/\(8<=c->0<=eM (c % 8) n)|.pJ W,V=>V=W/\W.oneCell'=true/\W.cells= #[W]
def dh(ae:cX):cx->lE->Prop
 |[],L=>L=[]|v::l,L=>∃X gD,L=X::gD/\bP ae v X/\dh ae l gD
end
def cX.le(ae bG:cX):Prop:=∀a x,ae a=some x->bG a=some x
def cX.le_refl(ae:cX):ae.le ae:=λ_ _ h=>h
def cX.le_trans{a b c:cX}(h:a.le b)(cz:b.le c):a.le c:=λx y M=>cz x y (h x y M)
mutual
def bP.mono{ae bG}(h:ae.le bG):∀(v:bp)(V:Value),bP ae v V->bP bG v V
 |.undef,_,aI|.bool _,_,aI|.int _ _,_,aI|.str _ _,_,aI|.nil _,_,aI|.any,_,aI|.q9 _ _ _,_,aI|.pJ _,_,aI=>by first|(simp only[bP]at aI ⊢;exact aI)|(simp[bP])
 |.ptr _ _ _ _,_,aI=>by have⟨b,cm,aB,e⟩:=aI;exact⟨b,cm,h _ _ aB,e⟩
 |.slice _ _ _ _ _ _,_,aI=>by have⟨b,cm,aB,e⟩:=aI;exact⟨b,cm,h _ _ aB,e⟩
 |.map _,_,aI=>by have⟨b,cm,aB,e⟩:=aI;exact⟨b,cm,h _ _ aB,e⟩
 |.fn _ b5 cV,_,aI=>by have⟨nt,nA,e,D,F⟩:=aI;exact⟨nt,nA,e,dh.mono h b5 nt D,dh.mono h cV nA F⟩
 |.iface _ v,_,aI=>by have⟨X,e,D⟩:=aI;exact⟨X,e,bP.mono h v X D⟩
 |.agg _ l,_,aI=>by have⟨L,e,D,F⟩:=aI;exact⟨L,e,dh.mono h l L D,F⟩
 |.gy l,_,aI=>by have⟨L,e,D⟩:=aI;exact⟨L,e,dh.mono h l L D⟩
def dh.mono{ae bG}(h:ae.le bG):∀(l:cx)(L:lE),dh ae l L->dh bG l L
 |[],_,aI=>by simpa only[dh]using aI
 |v::l,_,aI=>by have⟨X,gD,e,D,F⟩:=aI;exact⟨X,gD,e,bP.mono h v X D,dh.mono h l gD F⟩
end
variable{H:bg}{L:lE}{P:Program}{V:Value}{a b c i n r:Nat}{k:cx->Bool}{l:cx}{B:gW}{ax:Ev.Rows}{v x:bp}{w:World}{ae bG:cX}
def dh.length:∀{l}{L},dh ae l L->L.length=l.length
 |[],_,h=>by simp_all[dh]
 |_::_,_,h=>by obtain⟨X,gD,rfl,_,F⟩:=h;simp[dh.length F]
def dh.nil:dh ae [] []:=by simp[dh]
def dh.cons(h:bP ae v V)(cz:dh ae l L):dh ae (v::l) (V::L):=by simp only[dh];grind
def dh.cons_inv(h:dh ae (v::l) L):∃V gD,L=V::gD/\bP ae v V/\dh ae l gD:=by simpa only[dh]using h
def dh.append:∀{l aK}{L gD},dh ae l L->dh ae aK gD->dh ae (l++aK) (L++gD)
 |[],_,_,_,h,cz=>by simp_all[dh]
 |v::l,aK,_,gD,h,cz=>by obtain⟨V,y6,rfl,D,F⟩:=h.cons_inv;simp_all[dh.cons,dh.append]
def dh.take:∀{l}{L}(n),dh ae l L->dh ae (l.take n) (L.take n)
 |_,_,0,_=>by exact dh.nil
 |[],_,n+1,h=>by subst h;exact dh.nil
 |v::l,_,n+1,h=>by obtain⟨V,y6,rfl,D,F⟩:=h.cons_inv;simp_all[dh.cons,dh.take]
def dh.drop:∀{l}{L}(n),dh ae l L->dh ae (l.drop n) (L.drop n)
 |_,_,0,h=>by simp_all
 |[],_,n+1,h=>by subst h;exact dh.nil
 |v::l,_,n+1,h=>by obtain⟨V,y6,rfl,D,F⟩:=h.cons_inv;simpa using dh.drop n F
def dh.get:∀{l}{L}{i:Nat}{v},dh ae l L->l[i]?=some v->∃V,L[i]?=some V/\bP ae v V
 |[],_,_,_,_,h=>by grind
 |v::l,_,0,w,h,aN=>by obtain⟨V,y6,rfl,D,F⟩:=h.cons_inv;simp_all
 |v::l,_,i+1,w,h,aN=>by obtain⟨V,y6,rfl,D,F⟩:=h.cons_inv;simp at aN;have⟨V',aq,aL⟩:=dh.get F aN;simp_all
def bP.OD(h:bP ae v V)(aQ:v.lQ):V.oneCell'/\V.cells= #[V]:=by
 cases v<;>simp only[bP,bp.lQ]at h aQ<;>try(exact ci aQ)
 .subst h;exact⟨rfl,rfl⟩
 .obtain⟨_,_,rfl⟩:=h;exact⟨rfl,rfl⟩
 .obtain⟨_,rfl⟩:=h;exact⟨rfl,rfl⟩
 .subst h;rename_i c;cases c<;>exact⟨rfl,rfl⟩
 .obtain⟨_,_,_,rfl⟩:=h;exact⟨rfl,rfl⟩
 .obtain⟨_,_,_,_,rfl,_⟩:=h;exact⟨rfl,rfl⟩
 .obtain⟨_,_,_,rfl⟩:=h;exact⟨rfl,rfl⟩
 .obtain⟨_,_,rfl,_⟩:=h;exact⟨rfl,rfl⟩
 .obtain⟨_,rfl,_⟩:=h;exact⟨rfl,rfl⟩
 simp_all
def dh.z8:∀{l}{L},dh ae l L->(∀x∈l,x.lQ)->∀V∈L,V.oneCell'
 |[],_,h,_,V,gm=>by simp_all[dh]
 |v::l,_,h,aQ,V,gm=>by
  obtain⟨W,y6,rfl,D,F⟩:=h.cons_inv;cases gm with
  |head=>exact(D.OD (aQ _ (by simp))).1
  |tail _ hm=>exact dh.z8 F (λx M=>aQ x (by grind)) V hm
def ajn(h:kD v n k)(aI:bP ae v V):∃l L,k l/\V.cells=List.toArray L/\dh ae l L/\l.length=n/\∀x∈l,x.lQ:=by
 rcases aeU h with⟨aQ,h⟩|⟨m,l,rfl,h⟩
 .rcases iE h with⟨D,h⟩|⟨_,h⟩
  .refine⟨[v],[V],h,(aI.OD aQ).2,dh.cons aI dh.nil,by simp_all,?_⟩;simp_all
  simp_all
 .rcases iE h with⟨D,h⟩|⟨_,h⟩
  .obtain⟨L,rfl,F,aq,aL⟩:=aI;exact⟨l,L,h,rfl,F,aq.trans (Nat.eq_of_beq_eq_true D),aL⟩
  simp_all
def Rows.row:Rows->Nat->cx
 |.fC r,_=>r|.dC t,i=>t.get (ea (i % 8))|.b3 t,i=>(t.get (ea (i / 8 % 8))).get (ea (i % 8))|.iQ t,i=>((t.get (ea (i / 64 % 8))).get (ea (i / 8 % 8))).get (ea (i % 8))|.nM g _,i=>g i
def Rows.cap:Rows->Nat
 |.fC _=>1|.dC _=>8|.b3 _=>64|.iQ _=>512|.nM _ c=>c
def Rows.nl:Rows->Nat->cx->Rows
 |.fC _,_,v=>.fC v|.dC t,i,v=>.dC (t.set (ea (i % 8)) v)|.b3 t,i,v=>.b3 (t.set (ea (i / 8 % 8)) ((t.get (ea (i / 8 % 8))).set (ea (i % 8)) v))|.iQ t,i,v=>.iQ (t.set (ea (i / 64 % 8)) ((t.get (ea (i / 64 % 8))).set (ea (i / 8 % 8)) (((t.get (ea (i / 64 % 8))).get (ea (i / 8 % 8))).set (ea (i % 8)) v)))
 |.nM g c,i,v=>.nM (λj=>match Nat.beq j i with|true=>v|false=>g j) c
def Yp{j}(aN:i<8)(bl:j<8)(h:ea i=ea j):i=j:=by have dv:∀a b:Fin 8,ea a=ea b->a=b:=af;exact fr Fin.val (dv ⟨i,aN⟩ ⟨j,bl⟩ h)
def db.rb{α}(t:db α)(a b)(v):(t.set (ea (a % 8)) v).get (ea (b % 8))=if b % 8=a % 8 then v else t.get (ea (b % 8)):=by
 rw[db.amk];by_cases h:b % 8=a % 8
 .simp_all
 .rw[cO h,cO (λe=>h (Yp (mA _ af) (mA _ af) e))]
def Rows.vr(ax:Rows)(i)(v):(ax.nl i v).cap=ax.cap:=by cases ax<;>rfl
def Rows.DJ(ax:Rows)(i j)(v)(aN:i<ax.cap)(bl:j<ax.cap):(ax.nl i v).row j=if j=i then v else ax.row j:=by
 cases ax with
 |fC r=>
  simp_all[Rows.cap,Rows.nl,Rows.row]
 |dC t=>
  simp[Rows.cap]at aN bl;simp[Rows.nl,Rows.row,db.rb];grind
 |b3 t=>
  simp[Rows.cap]at aN bl;simp[Rows.nl,Rows.row,db.rb];by_cases h:j=i
  .simp [h,db.rb]
  .rw[cO h];by_cases D:j / 8 % 8=i / 8 % 8
   .rw[ev D,db.rb,cO I,D]
   simp_all
 |iQ t=>
  simp[Rows.cap]at aN bl;simp[Rows.nl,Rows.row,db.rb];by_cases h:j=i
  .simp [h,db.rb]
  .rw[cO h];by_cases D:j / 64 % 8=i / 64 % 8
   .rw[ev D,db.rb];by_cases F:j / 8 % 8=i / 8 % 8
    .rw[ev F,db.rb,cO I,D,F]
    simp_all
   simp_all
 |nM g c=>
  simp[Rows.nl,Rows.row];by_cases h:j=i
  .simp_all
  .rw[cO h];grind[Nat.eq_of_beq_eq_true]
def S9(h:rowAt ax i k):k (ax.row i):=by
 cases ax with
 |fC r=>
  change bd (Nat.beq i 0) (k r) false=true at h;rcases iE h with⟨_,h⟩|⟨_,h⟩
  .exact h
  simp_all
 |dC t=>change k ((pP i).aj t)=true at h;have:(pP i).aj t=(Rows.dC t).row i:=oQ _ _;simp_all
 |b3 t=>
  change k ((pP i).an t)=true at h;have:(pP i).an t=(Rows.b3 t).row i:=by change(bD (ea (i % 8))).s ((bD (ea (i / 8 % 8))).s t)=_;rw[oQ,oQ];rfl
  simp_all
 |iQ t=>
  change k ((pP i).aM t)=true at h;have:(pP i).aM t=(Rows.iQ t).row i:=by change(bD (ea (i % 8))).s ((bD (ea (i / 8 % 8))).s ((bD (ea (i / 64 % 8))).s t))=_;rw[oQ,oQ,oQ];rfl
  simp_all
 |nM g c=>exact h
def Dr(ax)(i)(r:cx)(k):setRow ax i r k=k (ax.nl i r):=by
 cases ax with
 |fC q=>rfl|dC t=>change(bD (ea (i % 8))).u t (λ_ k=>k r) (λt=>k (.dC t))=_;rw[AY];rfl|b3 t=>change(bD (ea (i / 8 % 8))).u t (λt k=>(bD (ea (i % 8))).u t (λ_ k=>k r) k) (λt=>k (.b3 t))=_;rw[AY,AY];rfl|iQ t=>change(bD (ea (i / 64 % 8))).u t (λt k=>(bD (ea (i / 8 % 8))).u t (λt k=>(bD (ea (i % 8))).u t (λ_ k=>k r) k) k) (λt=>k (.iQ t))=_;rw[AY,AY,AY];rfl|nM g c=>rfl
abbrev fv(a:Nat):Prop:=0<=a
def gp:fv a:=qG a
def Gc(t:xE)(a:Nat):gW:=
 ((((t.get (ea (a / 4096 % 8))).get (ea (a / 512 % 8))).get (ea (a / 64 % 8))).get (ea (a / 8 % 8))).get (ea (a % 8))
def Po(t:xE)(a:Nat)(B:gW):xE:=
 t.set (ea (a / 4096 % 8)) ((t.get (ea (a / 4096 % 8))).set (ea (a / 512 % 8)) (((t.get (ea (a / 4096 % 8))).get (ea (a / 512 % 8))).set (ea (a / 64 % 8))
  ((((t.get (ea (a / 4096 % 8))).get (ea (a / 512 % 8))).get (ea (a / 64 % 8))).set (ea (a / 8 % 8))
   (((((t.get (ea (a / 4096 % 8))).get (ea (a / 512 % 8))).get (ea (a / 64 % 8))).get (ea (a / 8 % 8))).set (ea (a % 8)) B))))
def bg.get(H:bg)(a:Nat):gW:=match Nat.blt a 32768 with
 |true=>Gc H.t.t a|false=>H.t.f a
def OQ(t:tb)(a:Nat)(B:gW):tb:=match Nat.blt a 32768 with
 |true=>⟨Po t.t a B,t.f⟩
 |false=>⟨t.t,λj=>match Nat.beq j a with|true=>B|false=>t.f j⟩
def bg.put(H:bg)(a:Nat)(B:gW):bg:=⟨H.next,OQ H.t a B⟩
def agj(t)(a bz)(B)(h:a<32768)(cz:bz<32768):Gc (Po t a B) bz=if bz=a then B else Gc t bz:=by
 simp[Gc,Po];by_cases e:bz=a
 .subst e;simp[db.rb]
 .rw[cO e,db.rb];by_cases D:bz / 4096 % 8=a / 4096 % 8
  .rw[ev D,db.rb];by_cases F:bz / 512 % 8=a / 512 % 8
   .rw[ev F,db.rb];by_cases aq:bz / 64 % 8=a / 64 % 8
    .rw[ev aq,db.rb];by_cases aL:bz / 8 % 8=a / 8 % 8
     .rw[ev aL,db.rb,cO I,D,F,aq,aL]
     simp_all
    simp_all
   simp_all
  simp_all
def bg.pR(H:bg)(a bz)(B)(_:fv a)(_:fv bz):(H.put a B).get bz=if bz=a then B else H.get bz:=by
 simp only[bg.put,bg.get,OQ];cases aP:Nat.blt a 32768<;>cases a3:Nat.blt bz 32768
 .by_cases e:bz=a
  .simp_all
  .rw[cO e];grind[Nat.eq_of_beq_eq_true]
 .grind
 .grind
 simp_all[agj]
def am5(a:Nat)(t:tb):(bq a).g t=match Nat.blt a 32768 with|true=>Gc t.t a|false=>t.f a:=by
 have⟨t,f⟩:=t;unfold bq;cases e:Nat.blt a 32768
 .rfl
 .change(bD (ea (a % 8))).s ((bD (ea (a / 8 % 8))).s ((bD (ea (a / 64 % 8))).s ((bD (ea (a / 512 % 8))).s ((bD (ea (a / 4096 % 8))).s t))))=_;simp[oQ];rfl
def pC(H)(a)(k):Au H a k=k (H.get a):=by simp[Au,am5];rfl
def VK(a)(t)(B)(k):(bq a).u t B k=k (OQ t a B):=by
 have⟨t,f⟩:=t;unfold bq OQ;cases e:Nat.blt a 32768
 .rfl
 .change(bD (ea (a / 4096 % 8))).u t (λt k=>(bD (ea (a / 512 % 8))).u t (λt k=>(bD (ea (a / 64 % 8))).u t (λt k=>(bD (ea (a / 8 % 8))).u t (λt k=>(bD (ea (a % 8))).u t (λ_ k=>k B) k) k) k) k) (λt=>k ⟨t,f⟩)=_;simp[AY];rfl
def s9(H)(a)(B)(k):qz H a B k=k (H.put a B):=by simp[qz,VK];rfl
def TB{H:bg}{B:gW}{k:Nat->bg->Bool}(h:tq H B k=true):fv H.next/\k H.next {(H.put H.next B)with next:=H.next+1}=true:=by simp[tq]at h;rw[VK]at h;exact⟨gp,h⟩
def gW.live:gW->Bool
 |.cells .. =>true|.map .. =>true|_=>false
def lc(ae:cX)(ax:Rows)(n z:Nat)(c:Array Value):Prop:=
 ∀i,i<n->∃X,dh ae (ax.row i) X/\(ax.row i).length=z/\(∀x∈ax.row i,x.lQ=true)/\∀j,j<z->c[i*z+j]?=X[j]?
def Ek(ae:cX):List (bp×bp×Nat)->List MapEntry->Prop
 |[],L=>L=[]|(k,v,b)::l,L=>∃e gD,L=e::gD/\bP ae k e.key/\bP ae v e.val/\e.born=b/\Ek ae l gD
def nj(ae:cX)(w:World)(a:Nat):gW->Prop
 |.none=>True|.dead=>True
 |.cells ax n z ak u ee=>∃b cm c ci,ae a=some (b,cm)/\w.heap[b]?=some (.cells c ak ci)/\(ee=false->ci=(0,0))/\0<z/\n<=ax.cap/\lc ae ax n z c/\
  (if u then c.size=cm*z/\n*z<=c.size else c.size=n*z)
 |.map es tp=>∃b cm xL,ae a=some (b,cm)/\w.heap[b]?=some (.map xL tp)/\Ek ae es xL.toList
structure Rel(ae:cX)(H:bg)(w:World):Prop where
 next:fv H.next
 p0:∀a x,ae a=some x->a<H.next
 obj:∀a,fv a->nj ae w a (H.get a)
 inj:∀a bz,fv a->fv bz->(H.get a).live=true->(H.get bz).live=true->∀b cm gn,ae a=some (b,cm)->ae bz=some (b,gn)->a=bz
def lk(ae:cX)(H:bg)(b:Nat):Prop:=∃a,fv a/\(H.get a).live=true/\∃cm,ae a=some (b,cm)
structure Step(ae:cX)(H:bg)(w:World)(bG:cX)(az:bg)(bi:World):Prop where
 le:ae.le bG
 iB:∀a,a<H.next->bG a=ae a
 next:H.next<=az.next
 size:w.heap.size<=bi.heap.size
 frame:∀b,b<w.heap.size->¬lk ae H b->bi.heap[b]?=w.heap[b]?
 own:∀b,lk bG az b->w.heap.size<=b\/lk ae H b
 dead:∀x,x<H.next->(H.get x).live=false->(az.get x).live=false
 tape:bi.tape=w.tape
 os:bi.os=w.os
 output:bi.output=w.output
def Step.refl(ae)(H)(w):Step ae H w ae H w:=
 ⟨cX.le_refl ae,λ_ _=>rfl,fI _,fI _,λ_ _ _=>rfl,λ_ h=>.inr h,λ_ _ h=>h,rfl,rfl,rfl⟩
def Step.trans{oP cM ef abC ie fO}(h:Step ae H w oP cM ef)(cz:Step oP cM ef abC ie fO):Step ae H w abC ie fO where
 le:=cX.le_trans h.le cz.le
 iB a aC:=(cz.iB a (pD aC h.next)).trans (h.iB a aC)
 next:=nR h.next cz.next
 size:=nR h.size cz.size
 frame b aB aD:=by
  rw[cz.frame b (pD aB h.size) λaV=>?_,h.frame b aB aD];rcases h.own b aV with D|D
  all_goals grind
 own b aV:=by
  rcases cz.own b aV with D|D
  .exact .inl (nR h.size D)
  .exact h.own b D
 dead x M aY:=cz.dead x (pD M h.next) (h.dead x M aY)
 tape:=cz.tape.trans h.tape
 os:=cz.os.trans h.os
 output:=cz.output.trans h.output
def bP.lt{x}(R:Rel ae H w)(h:ae a=some x):fv a:=gp
def lc.mono{z c}(h:ae.le bG)(r:lc ae ax n z c):lc bG ax n z c:=λi aN=>
 let⟨X,D,F⟩:=r i aN;⟨X,dh.mono h _ _ D,F⟩
def Ek.mono(h:ae.le bG):∀{l}{L},Ek ae l L->Ek bG l L
 |[],_,e=>e
 |(k,v,b)::l,_,e=>by obtain⟨x,gD,rfl,D,F,aq,aL⟩:=e;exact⟨x,gD,rfl,bP.mono h _ _ D,bP.mono h _ _ F,aq,Ek.mono h aL⟩
def nj.mono{bi}(h:ae.le bG)(cw:∀b cm,B.live->ae a=some (b,cm)->bi.heap[b]?=w.heap[b]?)(r:nj ae w a B):nj bG bi a B:=by
 cases B with
 |none=>trivial|dead=>trivial|cells ax n z ak u ee=>have⟨b,cm,c,ci,D,F,aq,aL,bO,cr,fK⟩:=r;exact⟨b,cm,c,ci,h _ _ D,(cw b cm rfl D).trans F,aq,aL,bO,cr.mono h,fK⟩|map es tp=>have⟨b,cm,c,D,F,aq⟩:=r;exact⟨b,cm,c,h _ _ D,(cw b cm rfl D).trans F,aq.mono h⟩
def nj.block(r:nj ae w a B)(Y:B.live):∃b cm,ae a=some (b,cm)/\b<w.heap.size:=by
 cases B with
 |none=>exact ci Y|dead=>exact ci Y|cells ax n z ak u ee=>have⟨b,cm,c,ci,D,F,_⟩:=r;grind|map es tp=>have⟨b,cm,c,D,F,_⟩:=r;grind
def Rel.Mp(R:Rel ae H w)(h:lk ae H b):b<w.heap.size:=by have⟨a,aC,Y,cm,ag⟩:=h;have⟨ep,gn,D,F⟩:=(R.obj a aC).block Y;simp_all
def Rel.drew(R:Rel ae H w):Rel ae H w.drew:=⟨R.next,R.p0,R.obj,R.inj⟩
def Step.drew(ae)(H)(w):Step ae H w ae H w.drew:=
 ⟨cX.le_refl ae,λ_ _=>rfl,fI _,fI _,λ_ _ _=>rfl,λ_ h=>.inr h,λ_ _ h=>h,rfl,rfl,rfl⟩
def cX.set(ae:cX)(a:Nat)(x:Nat×Nat):cX:=λbz=>if bz=a then some x else ae bz
def cX.Dl(ae:cX)(a)(x):ae.set a x a=some x:=by simp[cX.set]
def cX.rr{bz}(ae:cX)(x)(h:bz≠a):ae.set a x bz=ae bz:=by simp[cX.set,h]
def cX.EW{ae:cX}{a}(x)(h:ae a=none):ae.le (ae.set a x):=λbz y aE=>by
 by_cases e:bz=a
 .simp_all
 simp_all[cX.rr]
def CC(w:World)(B)(h:b<w.heap.size):(w.alloc B).heap[b]?=w.heap[b]?:=heap_alloc_old w B b h
def Kk(w:World)(B):(w.alloc B).heap[w.heap.size]?=some B:=heap_alloc_new w B
def rT(k):cv k<8:=by cases k<;>decide
def KJ(k):jS (cv k)=k:=by cases k<;>rfl
def x4(c):0<cF c:=by unfold cF;grind
def ud(h:c<8):(c=0/\cF c=256/\eK c=128)\/(c=1/\cF c=65536/\eK c=32768)\/(c=2/\cF c=4294967296/\eK c=2147483648)\/(c=3/\cF c=18446744073709551616/\eK c=9223372036854775808)\/(c=4/\cF c=256/\eK c=256)\/(c=5/\cF c=65536/\eK c=65536)\/(c=6/\cF c=4294967296/\eK c=4294967296)\/(c=7/\cF c=18446744073709551616/\eK c=18446744073709551616):=by
 match c,h with
 |0,_=>simp[cF,eK]|1,_=>simp[cF,eK]|2,_=>simp[cF,eK]|3,_=>simp[cF,eK]|4,_=>simp[cF,eK]|5,_=>simp[cF,eK]|6,_=>simp[cF,eK]|7,_=>simp[cF,eK]
def aqg(h:c<8)(x):(jS c).wrap x=eM c (x % (cF c)).toNat:=by
 have hI:∀c:Nat,c<8->c=0\/c=1\/c=2\/c=3\/c=4\/c=5\/c=6\/c=7:=I;rcases hI c h with rfl|rfl|rfl|rfl|rfl|rfl|rfl|rfl
 all_goals
  simp only[IntKind.wrap,jS,IntKind.bits,IntKind.signed,eM,cF,eK,Hg,WB,mz,Dy,sY,Nat.reduceSub]
  grind
def wh:eM c a % (cF c)=(a) % (cF c):=by
 grind[eM,Int.sub_emod_right]
def lH(h:a<eK c):eM c a=a:=ev h
def Qr(h:c<8):eK c<=cF c:=by rcases ud h with⟨_,D,F⟩|⟨_,D,F⟩|⟨_,D,F⟩|⟨_,D,F⟩|⟨_,D,F⟩|⟨_,D,F⟩|⟨_,D,F⟩|⟨_,D,F⟩<;>omega
def GO(h:c<8):2 ^ (jS c).bits=cF c:=by have hI:∀c:Nat,c<8->c=0\/c=1\/c=2\/c=3\/c=4\/c=5\/c=6\/c=7:=I;rcases hI c h with rfl|rfl|rfl|rfl|rfl|rfl|rfl|rfl<;>rfl
def tI{x}(h:c<8)(ag:r<cF c)(M:x % (cF c:Int)=r):(jS c).wrap x=eM c r:=by rw[aqg h,M];rfl
def oZ(h:c<8)(ag:r<cF c):bP ae (.int c r) (.int (jS c) (eM c r)):=by simp_all[bP]
def wS(ag:r<9223372036854775808):bP ae (.int 3 r) (.int .i64 r):=by have:=oZ (ae:=ae) (c:=3) (r:=r) af (by simp[cF];omega);rwa[lH (by simpa[eK]using ag)]at this
def kT(b):bP ae (.bool b) (.bool b):=by simp[bP]
def Fh:bP ae .undef Go.undef:=by simp[bP]
def Cr(V):bP ae .any V:=by simp[bP]
def ku(ae:cX)(k:bp->Bool)(s:Sem Value)(P:Program):Prop:=∃v V,k v=true/\bP ae v V/\∀w,s.run P w=.ok V w
def ku.mk{k s}(ar:k v)(aI:bP ae v V)(ap:∀w,s.run P w=.ok V w):ku ae k s P:=⟨v,V,ar,aI,ap⟩
def dg:Nat.blt a b=true↔a<b:=by simp_all
def dT{a b:Nat}:Nat.ble a b=true↔a<=b:=by simp
def P5(h:Nat.blt a b=false):b<=a:=by
 rcases m4 a b with cz|cz
 .rw[dg.2 cz]at h;cases h
 grind
def Sg{a b:Nat}(h:Nat.ble a b=false):b<a:=by
 rcases m4 b a with cz|cz
 .grind
 .rw[dT.2 cz]at h;cases h
def dA{a b:Nat}:Nat.beq a b=true↔a=b:=⟨Nat.eq_of_beq_eq_true,λh=>by simp_all⟩
def tC{a b:Nat}(h:Nat.beq a b=false):a≠b:=λe=>by simp_all
def fi{b x}(h:bd b x false):b/\x:=by
 rcases iE h with h|⟨_,h⟩
 .exact h
 simp_all
def C3{b x}(h:bd b false x):b=false/\x:=by
 rcases iE h with⟨_,h⟩|h
 all_goals simp_all
def Ti(aQ:c<8)(aC:a<cF c)(aB:b<cF c):(eM c a=eM c b)↔a=b:=by
 unfold eM;grind
def NC(aQ:c<8)(ap:eK c=cF c)(aC:a<cF c)(aB:b<cF c):(eM c a<eM c b)↔a<b:=by simp_all[lH]
def Me(aQ:c<8)(ap:eK c≠cF c)(aC:a<cF c)(aB:b<cF c):(eM c a<eM c b)↔(a+eK c) % cF c<(b+eK c) % cF c:=by
 unfold eM;rcases ud aQ with⟨_,D,F⟩|⟨_,D,F⟩|⟨_,D,F⟩|⟨_,D,F⟩|⟨_,D,F⟩|⟨_,D,F⟩|⟨_,D,F⟩|⟨_,D,F⟩<;>
  rw[D]at aC aB ap ⊢ <;>rw[F]at ap ⊢ <;>first|(exact absurd rfl ap)|omega
def oD(P:Program)(w:World)(t:TypeId)(op:BinOp)(c:Nat)(x y:Int)(D:op≠.shl)(F:op≠.shr):(binOp op t (.int (jS c) x) (.int (jS c) y)).run P w=(match op with
 |.add|.sub|.mul=>Op.intArith op (jS c) x y|.quo|.rem=>Op.intDiv op (jS c) x y|.and|.or|.xor|.andNot=>Op.intBits op (jS c) x y
 |_=>Op.intCmp op x y).run P w:=by
 cases op<;>first|(exact absurd rfl D)|(exact absurd rfl F)|(simp[binOp])
def D9(aQ:c<8)(aC:a<cF c):(BitVec.ofInt (jS c).bits (eM c a)).toNat=a:=by
 rw[BitVec.toNat_ofInt];have:((2 ^ (jS c).bits:Nat):Int)=(cF c:Int):=by rw[GO aQ]
 rw[this,wh];simp_all[u0]
def ara{op k}{t}(h:(nn op c (cF c) (eK c)).f a b k)(aQ:c<8)(aC:a<cF c)(aB:b<cF c):ku ae k (binOp op t (.int (jS c) (eM c a)) (.int (jS c) (eM c b))) P:=by
 have gU:=x4 c;cases op with
 |add=>simp only[nn,eN,k5]at h;refine .mk h (oZ aQ (mA _ gU)) λw=>?_;rw[oD _ _ _ _ _ _ _ (by simp) (by simp)];simp only[Op.intArith,kp];have e:(jS c).wrap (eM c a+eM c b)=eM c (Nat.mod (Nat.add a b) (cF c)):=tI aQ (mA _ gU) (by rw[Int.add_emod,wh,wh,<-Int.add_emod];show _=(((a+b) % cF c:Nat):Int);simp_all);rw[e]
 |sub=>simp only[nn,M8,k5]at h;refine .mk h (oZ aQ (mA _ gU)) λw=>?_;rw[oD _ _ _ _ _ _ _ (by simp) (by simp)];simp only[Op.intArith,kp];have e:(jS c).wrap (eM c a - eM c b)=eM c (Nat.mod (Nat.sub (Nat.add a (cF c)) b) (cF c)):=tI aQ (mA _ gU) (by rw[Int.sub_emod,wh,wh,<-Int.sub_emod];show _=(((a+cF c - b) % cF c:Nat):Int);rw[ME];have e:((a+cF c - b:Nat):Int)=((a:Int) - b)+cF c:=I;simp_all);rw[e]
 |mul=>simp only[nn,I1,k5]at h;refine .mk h (oZ aQ (mA _ gU)) λw=>?_;rw[oD _ _ _ _ _ _ _ (by simp) (by simp)];simp only[Op.intArith,kp];have e:(jS c).wrap (eM c a*eM c b)=eM c (Nat.mod (Nat.mul a b) (cF c)):=tI aQ (mA _ gU) (by rw[Int.mul_emod,wh,wh,<-Int.mul_emod];show _=(((a*b) % cF c:Nat):Int);simp_all);rw[e]
 |quo=>have⟨D,h⟩:=fi h;have⟨F,h⟩:=fi h;have⟨aq,h⟩:=C3 h;rw[dg]at D F;have aq:=tC aq;rw[k5]at h;have be:a / b<cF c:=vK (Nat.div_le_self a b) aC;refine .mk h (oZ aQ be) λw=>?_;rw[oD _ _ _ _ _ _ _ (by simp) (by simp)];rw[lH D,lH F];have:¬((b:Int)=0):=I;simp only[Op.intDiv,this];have e:(jS c).wrap ((a:Int).tdiv b)=eM c (a / b):=tI aQ be (by rw[<-Int.ofNat_tdiv];exact u0 (Int.natCast_nonneg _) (by grind));rw[e];rfl
 |rem=>have⟨D,h⟩:=fi h;have⟨F,h⟩:=fi h;have⟨aq,h⟩:=C3 h;rw[dg]at D F;have aq:=tC aq;rw[k5]at h;have be:a % b<cF c:=vK (Nat.mod_le a b) aC;refine .mk h (oZ aQ be) λw=>?_;rw[oD _ _ _ _ _ _ _ (by simp) (by simp)];have a0:Nat.mod a b<eK c:=vK (Nat.mod_le a b) D;rw[lH D,lH F,lH a0];have:¬((b:Int)=0):=I;simp only[Op.intDiv,this];rfl
 |and=>simp only[nn,k5]at h;have be:Nat.land a b<cF c:=vK (Nat.and_le_left) aC;refine .mk h (oZ aQ be) λw=>?_;rw[oD _ _ _ _ _ _ _ (by simp) (by simp)];simp only[Op.intBits,kp];rw[tI aQ be];rw[BitVec.toNat_and,D9 aQ aC,D9 aQ aB];simp_all[u0]
 |or=>
  simp only[nn,k5]at h;have be:Nat.lor a b<cF c:=by rw[<-GO aQ]at aC aB ⊢;simp_all[Nat.or_lt_two_pow]
  refine .mk h (oZ aQ be) λw=>?_;rw[oD _ _ _ _ _ _ _ (by simp) (by simp)];simp only[Op.intBits,kp];rw[tI aQ be];rw[BitVec.toNat_or,D9 aQ aC,D9 aQ aB];simp_all[u0]
 |xor=>
  simp only[nn,k5]at h;have be:Nat.xor a b<cF c:=by rw[<-GO aQ]at aC aB ⊢;simp_all[Nat.xor_lt_two_pow]
  refine .mk h (oZ aQ be) λw=>?_;rw[oD _ _ _ _ _ _ _ (by simp) (by simp)];simp only[Op.intBits,kp];rw[tI aQ be];rw[BitVec.toNat_xor,D9 aQ aC,D9 aQ aB];simp_all[u0]
 |shl=>simp_all[nn,LH]|shr=>simp_all[nn,LH]|andNot=>simp_all[nn,LH]
 |eql=>
  simp[nn]at h;refine .mk h (kT _) λw=>?_;rw[oD _ _ _ _ _ _ _ (by simp) (by simp)];simp[Op.intCmp];have:(eM c a==eM c b)=Nat.beq a b:=by rw[Bool.eq_iff_iff,p7,Ti aQ aC aB,dA]
  grind
 |neq=>
  have:(eM c a !=eM c b)= !Nat.beq a b:=by show(!(eM c a==eM c b))=_;congr 1;rw[Bool.eq_iff_iff,p7,Ti aQ aC aB,dA]
  rcases iE h with⟨D,h⟩|⟨D,h⟩
  .refine .mk h (kT _) λw=>?_;simp_all[oD,Op.intCmp]
  .refine .mk h (kT _) λw=>?_;simp_all[oD,Op.intCmp]
 |lss=>
  simp only[nn,HB]at h;split at h<;>(rename_i ap;simp only[Dq]at h)
  .refine .mk h (kT _) λw=>?_;rw[oD _ _ _ _ _ _ _ (by simp) (by simp)];have:decide (eM c a<eM c b)=Nat.blt a b:=by rw[Bool.eq_iff_iff,mz,dg,NC aQ (dA.1 ap) aC aB]
   simp_all[Op.intCmp]
  .refine .mk h (kT _) λw=>?_;rw[oD _ _ _ _ _ _ _ (by simp) (by simp)];have:decide (eM c a<eM c b)=Nat.blt (Nat.mod (Nat.add a (eK c)) (cF c)) (Nat.mod (Nat.add b (eK c)) (cF c)):=by rw[Bool.eq_iff_iff,mz,dg];exact Me aQ (tC ap) aC aB
   simp_all[Op.intCmp]
 |gtr=>
  simp only[nn,HB]at h;split at h<;>(rename_i ap;simp only[Dq]at h)
  .refine .mk h (kT _) λw=>?_;rw[oD _ _ _ _ _ _ _ (by simp) (by simp)];have:decide (eM c a>eM c b)=Nat.blt b a:=by rw[Bool.eq_iff_iff,mz,dg];simp_all[NC]
   simp_all[Op.intCmp]
  .refine .mk h (kT _) λw=>?_;rw[oD _ _ _ _ _ _ _ (by simp) (by simp)];have:decide (eM c a>eM c b)=Nat.blt (Nat.mod (Nat.add b (eK c)) (cF c)) (Nat.mod (Nat.add a (eK c)) (cF c)):=by rw[Bool.eq_iff_iff,mz,dg];exact Me aQ (tC ap) aB aC
   simp_all[Op.intCmp]
 |leq=>
  simp only[nn,HI]at h;split at h<;>(rename_i ap;simp only[Dq]at h)
  .refine .mk h (kT _) λw=>?_;rw[oD _ _ _ _ _ _ _ (by simp) (by simp)];have:decide (eM c a<=eM c b)=Nat.ble a b:=by rw[Bool.eq_iff_iff,mz,dT];have:=NC aQ (dA.1 ap) aB aC;omega
   simp_all[Op.intCmp]
  .refine .mk h (kT _) λw=>?_;rw[oD _ _ _ _ _ _ _ (by simp) (by simp)];have:decide (eM c a<=eM c b)=Nat.ble (Nat.mod (Nat.add a (eK c)) (cF c)) (Nat.mod (Nat.add b (eK c)) (cF c)):=by rw[Bool.eq_iff_iff,mz,dT];have D:(eM c b<eM c a)↔Nat.mod (Nat.add b (eK c)) (cF c)<Nat.mod (Nat.add a (eK c)) (cF c):=Me aQ (tC ap) aB aC;omega
   simp_all[Op.intCmp]
 |geq=>
  simp only[nn,HI]at h;split at h<;>(rename_i ap;simp only[Dq]at h)
  .refine .mk h (kT _) λw=>?_;rw[oD _ _ _ _ _ _ _ (by simp) (by simp)];have:decide (eM c a>=eM c b)=Nat.ble b a:=by rw[Bool.eq_iff_iff,mz,dT];have:=NC aQ (dA.1 ap) aC aB;omega
   simp_all[Op.intCmp]
  .refine .mk h (kT _) λw=>?_;rw[oD _ _ _ _ _ _ _ (by simp) (by simp)];have:decide (eM c a>=eM c b)=Nat.ble (Nat.mod (Nat.add b (eK c)) (cF c)) (Nat.mod (Nat.add a (eK c)) (cF c)):=by rw[Bool.eq_iff_iff,mz,dT];have D:(eM c a<eM c b)↔Nat.mod (Nat.add a (eK c)) (cF c)<Nat.mod (Nat.add b (eK c)) (cF c):=Me aQ (tC ap) aC aB;omega
   simp_all[Op.intCmp]
def aem:kt 0=1:=rfl
def NP(l):kt (l+1)=256*kt l:=by show 2 ^ (8*(l+1))=256*2 ^ (8*l);grind
def p5:∀(l n),(ez l n).length=l
 |0,_=>rfl
 |l+1,n=>by simp[ez,p5 l]
def V8:∀(l aK n cI),ez (l+aK) (n % kt l+cI*kt l)=ez l n++ez aK cI
 |0,aK,n,cI=>by simp_all[aem,Nat.mod_one,ez]
 |l+1,aK,n,cI=>by
  have D:l+1+aK=(l+aK)+1:=I;have F:(n % kt (l+1)+cI*kt (l+1)) % 256=n % 256:=by rw[NP,Nat.add_mod,<-Nat.mul_assoc,Nat.mul_comm cI 256,Nat.mul_assoc,Nat.mul_mod_right,Jv,Nat.mod_mod,Nat.mod_mul_right_mod]
  have aq:(n % kt (l+1)+cI*kt (l+1)) / 256=(n / 256) % kt l+cI*kt l:=by rw[NP,<-Nat.mul_assoc,Nat.mul_comm cI 256,Nat.mul_assoc,Nat.add_mul_div_left _ _ af,Nat.mod_mul_right_div_self]
  rw[D];simp[ez,F,aq,V8 l aK (n / 256) cI]
def PS:∀(i l n),i<=l->ez (l - i) (n>>>(8*i))=(ez l n).drop i
 |0,l,n,_=>by simp
 |i+1,0,n,h=>I
 |i+1,l+1,n,h=>by
  have D:l+1 - (i+1)=l - i:=I;have F:n>>>(8*(i+1))=(n / 256)>>>(8*i):=by rw[Qk,El,Nat.shiftRight_add];simp_all[Nat.shiftRight_eq_div_pow]
  rw[D,F,PS i l _ I];simp[ez]
def KG:∀(j l n),j<=l->ez j n=(ez l n).take j
 |0,l,n,_=>by simp[ez]
 |j+1,0,n,h=>I
 |j+1,l+1,n,h=>by simp[ez];rw[KG j l _ I]
def R4:∀(i l n),i<l->(ez l n)[i]?=some (UInt8.ofNat (Nat.land (Nat.shiftRight n (Nat.mul 8 i)) 255))
 |0,0,n,h=>I|i+1,0,n,h=>I
 |0,l+1,n,_=>by have:Nat.land (Nat.shiftRight n (Nat.mul 8 0)) 255=n % 256:=Nat.and_two_pow_sub_one_eq_mod n 8;simp only[ez,adv,this]
 |i+1,l+1,n,h=>by
  have F:Nat.shiftRight n (Nat.mul 8 (i+1))=Nat.shiftRight (n / 256) (Nat.mul 8 i):=by show n>>>(8*(i+1))=(n / 256)>>>(8*i);rw[Qk,El,Nat.shiftRight_add];simp_all[Nat.shiftRight_eq_div_pow]
  simp only[ez,RB];rw[R4 i l _ I,F]
def Iw:∀(l n cI),ez l n=ez l cI↔n % kt l=cI % kt l
 |0,n,cI=>by simp_all[ez,aem,Nat.mod_one]
 |l+1,n,cI=>by
  have aP:n % kt (l+1)=n % 256+256*(n / 256 % kt l):=by rw[NP,Nat.mod_mul]
  have a3:cI % kt (l+1)=cI % 256+256*(cI / 256 % kt l):=by rw[NP,Nat.mod_mul]
  have aB:UInt8.ofNat (n % 256)=UInt8.ofNat (cI % 256)↔n % 256=cI % 256:=by
   constructor
   .intro h;have:=fr UInt8.toNat h;simpa using this
   simp_all
  simp[ez,aB,Iw l];omega
def NV(l n aK cI):uD l n aK cI=true↔ez l n=ez aK cI:=by
 unfold uD;constructor
 .intro h;have⟨D,F⟩:=fi h;have e:=dA.1 D;subst e;exact(Iw l n cI).2 (dA.1 F)
 .intro h;have e:l=aK:=by have:=fr List.length h;simpa[p5]using this
  subst e;rw[dA.2 rfl,iG,dA];exact(Iw l n cI).1 h
def ofNat_lt{a b:Nat}(aC:a<256)(aB:b<256):UInt8.ofNat a<UInt8.ofNat b↔a<b:=by simp_all[UInt8.lt_iff_toNat_lt,qM]
def YC{a b:Nat}(aC:a<256)(aB:b<256):UInt8.ofNat a=UInt8.ofNat b↔a=b:=by
 constructor
 .intro h;have:=fr UInt8.toNat h;simpa[qM aC,qM aB]using this
 simp_all
def Ar:∀(l n aK cI),An l n aK cI=Op.bytesLess (ez l n) (ez aK cI)
 |0,_,0,_=>rfl|_+1,_,0,_=>rfl|0,_,_+1,_=>rfl
 |l+1,n,aK+1,cI=>by
  have er:n % 256<256:=mA _ af;have f8:cI % 256<256:=mA _ af;have bQ:=Ar l (n / 256) aK (cI / 256);show bd (Nat.blt (n % 256) (cI % 256)) true (bd (Nat.beq (n % 256) (cI % 256)) (An l (n / 256) aK (cI / 256)) false)=
   (decide (UInt8.ofNat (n % 256)<UInt8.ofNat (cI % 256))||(UInt8.ofNat (n % 256)==UInt8.ofNat (cI % 256)&&Op.bytesLess (ez l (n / 256)) (ez aK (cI / 256))))
  rw[bQ];have d1:decide (UInt8.ofNat (n % 256)<UInt8.ofNat (cI % 256))=Nat.blt (n % 256) (cI % 256):=by rw[Bool.eq_iff_iff,mz,ofNat_lt er f8,dg]
  have d2:(UInt8.ofNat (n % 256)==UInt8.ofNat (cI % 256))=Nat.beq (n % 256) (cI % 256):=by rw[Bool.eq_iff_iff,p7,YC er f8,dA]
  rw[d1,d2];cases Nat.blt (n % 256) (cI % 256)<;>cases Nat.beq (n % 256) (cI % 256)<;>simp
def Ut:∀(l),ez l.length (yt l)=l
 |[]=>rfl
 |b::l=>by have aB:b.toNat<256:=b.toNat_lt;have F:(b.toNat+256*yt l) / 256=yt l:=I;simp only[lM,yt,ez,F,Ut l];simp
def Vy{v}(h:Ks v=some x):bP ae x v/\x.lQ:=by
 unfold Ks at h;split at h
 .cases h;exact⟨by simp[bP],rfl⟩
 .rename_i k n;split at h
  .rename_i ap;cases h;refine⟨?_,rfl⟩;have be:q9 (cv k) n<cF (cv k):=by unfold q9;have:=Pn n (show(0:Int)<cF (cv k) by simp_all[x4]);have:=R3 n (show(cF (cv k):Int)≠0 by have:=x4 (cv k);omega);omega
   have:=oZ (ae:=ae) (rT k) be;rwa[KJ,ap]at this
  grind
 .split at h
  .rename_i Y;cases h;refine⟨?_,rfl⟩;exact⟨dT.1 Y,by rw[Ut]⟩
  grind
 all_goals first|(cases h;exact⟨by simp only[bP,iS],rfl⟩)|grind
def VC{ae}:∀{l}{x},K9 l=some x->dh ae x l/\(∀y∈x,y.lQ)
 |[],x,h=>by cases h;exact⟨dh.nil,by simp⟩
 |v::l,x,h=>by
  unfold K9 at h;split at h
  .rename_i y aE;split at h
   .rename_i z cA;cases h;have⟨D,F⟩:=Vy (ae:=ae) aE;have⟨aq,aL⟩:=VC (ae:=ae) cA;simp_all[dh.cons]
   grind
  grind
def OO{v}(h:mP v=some x):bP ae x v:=by
 unfold mP at h;split at h
 .rename_i eU;split at h
  .rename_i l Y;cases h;have⟨D,F⟩:=VC (ae:=ae) Y;simp only[bP];grind
  grind
 .rename_i eU;split at h
  .rename_i Y;cases h;simp_all[bP,Go.undef]
  grind
 .exact(Vy h).1
def PY{v}(h:mP v=some x)(hu:x≠.undef):∃L,v.cells=List.toArray L/\dh ae x.cells L/\∀y∈x.cells,y.lQ:=by
 unfold mP at h;split at h
 .rename_i eU;split at h
  .rename_i l Y;cases h;have⟨D,F⟩:=VC (ae:=ae) Y;exact⟨eU.toList,by simp[Value.cells],D,F⟩
  grind
 .grind
 .have⟨D,F⟩:=Vy (ae:=ae) h;have aq:=(D.OD F).2;have aQ:x.cells=[x]:=by cases x<;>first|rfl|(exact ci F)
  simp_all[dh.cons,dh.nil]
end Go.Ev
