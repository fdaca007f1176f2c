/- Part of the proof of PrinterLines. -/
import Derived.KernelRfl
import Derived.Laws.Append
import Derived.Laws.CopyRow
import Derived.Laws.Sem
import Derived.Laws.World
import Derived.Orders
import Derived.Calls
set_option linter.all false
namespace Go
theorem Y{N : Prop}(h : N := by omega) : N := h
theorem ag{N : Prop}(h : N := by decide) : N := h
theorem pu{N : Prop}(h : N := by simp only [List.length_append, List.length_cons, List.length_nil]; omega) : N := h
theorem bW{α : Type _}{gd : Type _}{f : α → gd}{l : List α} : (l.map f).length = l.length := List.length_map ..
theorem bS{N : Prop}(h : false = true) : N := absurd h Bool.false_ne_true
end Go
namespace Go
theorem os{N:Prop}(h:N:=by simp):N:=h
theorem aqP{N:Prop}(h:N:=by kernel_rfl):N:=h
end Go
namespace Go
abbrev dt := @List.length_map
abbrev gP := @List.length_append
abbrev nD := @List.length_cons
abbrev c6 := @Bool.and_eq_true
abbrev r8 := @List.length_nil
abbrev ff := @Go.Result.andThen_ok
abbrev iF := @List.mem_singleton
abbrev jb := @List.getElem?_eq_some_iff
abbrev eB := @Go.Sem.run_pure
abbrev f0 := @List.all_eq_true
abbrev EQ := @List.length_singleton
abbrev fA := @List.map_cons
abbrev ez := @Nat.le_refl
abbrev eU := @Go.Sem.run_bind
abbrev fS := @List.mem_cons
abbrev qn := @List.map_append
abbrev jD := @List.mem_append
abbrev na := @List.getElem?_eq_getElem
abbrev jF := @List.cons_append
abbrev jC := @List.length_take
abbrev je := @List.map_nil
abbrev iX := @decide_eq_true
abbrev oE := @List.getD_eq_getElem?_getD
abbrev kv := @List.nil_append
abbrev p0 := @Nat.mul_le_mul_right
abbrev y6 := @List.map_singleton
abbrev k5 := @Bool.or_false
abbrev mZ := @Nat.mod_eq_of_lt
abbrev kf := @List.mem_filter
abbrev lu := @List.length_drop
abbrev tX := @List.mem_cons_of_mem
abbrev nV := @Nat.lt_of_lt_of_le
abbrev qg := @List.mem_cons_self
abbrev mN := @List.size_toArray
abbrev jq := @Nat.zero_add
abbrev mz := @Nat.zero_le
abbrev n1 := @Bool.false_eq_true
abbrev qU := @List.getElem?_eq_none
abbrev l7 := @Nat.lt_or_ge
abbrev oI := @decide_eq_true_eq
abbrev pC := @of_decide_eq_true
abbrev t3 := @Nat.lt_of_le_of_lt
abbrev xH := @List.length_eq_zero_iff
abbrev s1 := @List.getElem?_cons_succ
abbrev mq := @Nat.le_trans
abbrev wb := @List.getElem?_append_right
abbrev Bj := @Array.getElem?_eq_some_iff
abbrev oK := @List.append_nil
abbrev uX := @List.getElem?_append_left
abbrev y9 := @List.drop_eq_getElem_cons
abbrev wi := @List.getElem?_toArray
abbrev b3 := @if_pos
abbrev bA := @if_neg
abbrev lE := @Nat.add_mul
abbrev qO := @decide_eq_false
abbrev uo := @List.mem_of_getElem?
abbrev vW := @List.length_replicate
abbrev qC := @Bool.or_eq_true
abbrev nb := @Nat.mod_lt
abbrev zn := @Array.getD_eq_getD_getElem?
abbrev x4 := @Bool.false_ne_true
abbrev x3 := @Array.getElem?_toList
abbrev t7 := @List.getElem?_map
abbrev qX := @Bool.true_and
abbrev t8 := @Nat.add_comm
abbrev JT := @List.take_append_drop
abbrev AC := @List.not_mem_nil
abbrev uP := @Int.emod_eq_of_lt
abbrev Cd := @Bool.or_eq_false_iff
abbrev re := @List.mem_map
abbrev ws := @Nat.min_eq_left
abbrev sr := @Bool.and_true
abbrev sb := @Nat.add_zero
abbrev wK := @List.flatten_cons
abbrev BH := @List.append_assoc
abbrev t5 := @Bool.false_and
abbrev md := @if_false
abbrev tI := @Nat.add_assoc
abbrev NT := @List.getElem?_cons_zero
abbrev GA := @List.mem_of_mem_drop
abbrev S4 := @List.take_succ_eq_append_getElem
abbrev mJ := @congrArg
abbrev CO := @Array.getElem?_eq_none
abbrev uW := @Bool.and_false
abbrev AX := @UInt8.toNat_ofNat'
abbrev Aa := @List.getElem?_drop
abbrev B9 := @Int.natCast_emod
abbrev uu := @Go.mem_ready
abbrev xe := @beq_iff_eq
abbrev zr := @Int.toNat_natCast
abbrev AP := @Bool.not_eq_true'
abbrev x1 := @List.foldl_cons
abbrev nI := @if_true
abbrev Ig := @Array.getElem?_append_left
abbrev FU := @List.mem_append_right
abbrev xp := @Bool.not_true
abbrev Mh := @List.mem_of_mem_take
abbrev EB := @List.mem_append_left
abbrev A5 := @Option.map_some
abbrev H5 := @List.take_length
abbrev Jn := @List.getElem_mem
abbrev CE := @List.flatMap_nil
abbrev Aq := @Bool.not_false
abbrev Uh := @List.take_of_length_le
abbrev uj := @funext
abbrev FX := @decide_eq_true_iff
abbrev IE := @Int.emod_lt_of_pos
abbrev Er := @Option.some.inj
abbrev Kl := @List.cons_prefix_cons
abbrev zT := @Go.getD_set_true
abbrev An := @List.all_cons
abbrev OE := @Array.getElem?_eq_getElem
abbrev HS := @Go.getD_set_ne
abbrev Pc := @Nat.mul_le_mul_left
abbrev Kx := @Array.toList_append
abbrev JP := @Array.length_toList
abbrev Aw := @Nat.zero_mul
abbrev zz := @Nat.succ_pos
abbrev Zq := @Nat.succ_mul
abbrev IF := @Int.emod_nonneg
abbrev DJ := @Nat.mul_one
abbrev IL := @List.ext_getElem?
abbrev Kj := @Array.size_append
abbrev Mz := @Nat.le_of_ble_eq_true
abbrev EK := @Nat.lt_irrefl
abbrev Gc := @Bool.false_or
abbrev MM := @Go.run_firstCells_some
abbrev HN := @UInt8.toNat_inj
abbrev Ia := @Nat.mul_add
abbrev Ro := @List.take_succ_cons
abbrev HE := @List.length_set
abbrev LY := @List.getElem_of_mem
abbrev Dx := @or_false
abbrev NW := @Go.run_storeCells_at
abbrev Bh := @Nat.blt_eq
abbrev NU := @Function.comp_def
abbrev Mb := @Go.World.size_alloc
abbrev O9 := @List.filter_cons
abbrev HF := @List.all_map
abbrev JV := @Bool.true_or
end Go
namespace Go.Ev
open Go
structure cS(α:Type) where
 mk::
 a0:α
 bN:α
 a2:α
 a3:α
 a4:α
 a5:α
 dR:α
 en:α
inductive C6 where
 |d0|d1|d2|d3|d4|d5|d6|d7
 deriving DecidableEq
def dG(n:Nat):C6:=
 match n with
 |0=>.d0|1=>.d1|2=>.d2|3=>.d3|4=>.d4|5=>.d5|6=>.d6|_=>.d7
def cS.get{α}(t:cS α)(d:C6):α:=
 match d with
 |.d0=>t.a0|.d1=>t.bN|.d2=>t.a2|.d3=>t.a3|.d4=>t.a4|.d5=>t.a5|.d6=>t.dR|.d7=>t.en
def cS.set{α}(t:cS α)(d:C6)(v:α):cS α:=
 match d with
 |.d0=>⟨v,t.bN,t.a2,t.a3,t.a4,t.a5,t.dR,t.en⟩|.d1=>⟨t.a0,v,t.a2,t.a3,t.a4,t.a5,t.dR,t.en⟩
 |.d2=>⟨t.a0,t.bN,v,t.a3,t.a4,t.a5,t.dR,t.en⟩|.d3=>⟨t.a0,t.bN,t.a2,v,t.a4,t.a5,t.dR,t.en⟩
 |.d4=>⟨t.a0,t.bN,t.a2,t.a3,v,t.a5,t.dR,t.en⟩|.d5=>⟨t.a0,t.bN,t.a2,t.a3,t.a4,v,t.dR,t.en⟩
 |.d6=>⟨t.a0,t.bN,t.a2,t.a3,t.a4,t.a5,v,t.en⟩|.d7=>⟨t.a0,t.bN,t.a2,t.a3,t.a4,t.a5,t.dR,v⟩
def cS.amr{α}(t:cS α)(d jx)(v):(t.set d v).get jx=if jx=d then v else t.get jx:=by cases d<;>cases jx<;>rfl
def cS.all{α}(v:α):cS α:=⟨v,v,v,v,v,v,v,v⟩
def cS.Zh{α}(v:α)(d):(cS.all v).get d=v:=by cases d<;>rfl
structure vj(α:Type) where
 s:cS α->α
 u:cS α->(α->(α->Bool)->Bool)->(cS α->Bool)->Bool
inductive oJ where
 |N|s|m|f|i
 deriving DecidableEq
inductive bl where
 |undef
 |bool (b:Bool)
 |int (c n:Nat)
 |str (l n:Nat)
 |nil (c:oJ)
 |ptr (a r s z:Nat)
 |slice (a i l c:Nat) (u:Bool) (z:Nat)
 |map (a:Nat)
 |fn (f:Nat) (x y:List bl)
 |iface (t:Nat) (v:bl)
 |agg (n:Nat) (l:List bl)
 |eJ (l:List bl)
 |any
 |p1 (c m r:Nat)
 |pw (V:Value)
 deriving Inhabited
structure Ly where
 f:Nat
 args:List bl
 cap:List bl
structure b4 where
 mk::
 n5:cS bl
 cw:cS bl
 c7:cS bl
 fu:cS bl
 fh:cS bl
 hC:cS bl
 j9:cS bl
 nL:cS bl
 ae:List Ly
structure SD where
 s:b4->cS bl
 u:b4->(cS bl->(cS bl->Bool)->Bool)->(b4->Bool)->Bool
inductive Rows where
 |fG (r:List bl)
 |dc (t:cS (List bl))
 |cl (t:cS (cS (List bl)))
 |hD (t:cS (cS (cS (List bl))))
 |j3 (g:Nat->List bl) (c:Nat)
inductive gB where
 |none
 |dead
 |cells (am:Rows) (n z:Nat) (el:Nat) (u dK:Bool)
 |map (es:List (bl×bl×Nat)) (sI:Nat)
abbrev xg:=cS (cS (cS (cS (cS gB))))
structure te where
 mk::
 t:xg
 f:Nat->gB
structure bd where
 next:Nat
 t:te
inductive r9 where
 |val (v:bl)
 |nv (v:bl)
inductive X where
 |exit (id:Nat)
 |ret
 |panic (v:bl)
inductive dU where
 |ret
 |nv (v:bl) (r:Bool)
def yl(b:Bool):Bool:=b
def x5(b:Bool):Bool:=yl b
def kL(b:Bool):Bool:=x5 b
noncomputable def bQ{α}(d:C6):vj α:=
 match d with
 |.d0=>⟨λt=>t.a0,λt f k=>cS.rec (motive:=λ_=>Bool) (λa0 bN a2 a3 a4 a5 dR en=>f a0 λv=>k ⟨v,bN,a2,a3,a4,a5,dR,en⟩) t⟩
 |.d1=>⟨λt=>t.bN,λt f k=>cS.rec (motive:=λ_=>Bool) (λa0 bN a2 a3 a4 a5 dR en=>f bN λv=>k ⟨a0,v,a2,a3,a4,a5,dR,en⟩) t⟩
 |.d2=>⟨λt=>t.a2,λt f k=>cS.rec (motive:=λ_=>Bool) (λa0 bN a2 a3 a4 a5 dR en=>f a2 λv=>k ⟨a0,bN,v,a3,a4,a5,dR,en⟩) t⟩
 |.d3=>⟨λt=>t.a3,λt f k=>cS.rec (motive:=λ_=>Bool) (λa0 bN a2 a3 a4 a5 dR en=>f a3 λv=>k ⟨a0,bN,a2,v,a4,a5,dR,en⟩) t⟩
 |.d4=>⟨λt=>t.a4,λt f k=>cS.rec (motive:=λ_=>Bool) (λa0 bN a2 a3 a4 a5 dR en=>f a4 λv=>k ⟨a0,bN,a2,a3,v,a5,dR,en⟩) t⟩
 |.d5=>⟨λt=>t.a5,λt f k=>cS.rec (motive:=λ_=>Bool) (λa0 bN a2 a3 a4 a5 dR en=>f a5 λv=>k ⟨a0,bN,a2,a3,a4,v,dR,en⟩) t⟩
 |.d6=>⟨λt=>t.dR,λt f k=>cS.rec (motive:=λ_=>Bool) (λa0 bN a2 a3 a4 a5 dR en=>f dR λv=>k ⟨a0,bN,a2,a3,a4,a5,v,en⟩) t⟩
 |.d7=>⟨λt=>t.en,λt f k=>cS.rec (motive:=λ_=>Bool) (λa0 bN a2 a3 a4 a5 dR en=>f en λv=>k ⟨a0,bN,a2,a3,a4,a5,dR,v⟩) t⟩
def oN{α}(d)(t:cS α):(bQ d).s t=t.get d:=by cases d<;>rfl
def z8{α}(d)(t:cS α)(f)(k:cS α->Bool):(bQ d).u t f k=f (t.get d) λv=>k (t.set d v):=by cases d<;>rfl
noncomputable def slt(d:C6):SD:=
 match d with
 |.d0=>⟨λt=>t.n5,λt f k=>b4.rec (motive:=λ_=>Bool) (λa0 bN a2 a3 a4 a5 dR en ae=>f a0 λv=>k ⟨v,bN,a2,a3,a4,a5,dR,en,ae⟩) t⟩
 |.d1=>⟨λt=>t.cw,λt f k=>b4.rec (motive:=λ_=>Bool) (λa0 bN a2 a3 a4 a5 dR en ae=>f bN λv=>k ⟨a0,v,a2,a3,a4,a5,dR,en,ae⟩) t⟩
 |.d2=>⟨λt=>t.c7,λt f k=>b4.rec (motive:=λ_=>Bool) (λa0 bN a2 a3 a4 a5 dR en ae=>f a2 λv=>k ⟨a0,bN,v,a3,a4,a5,dR,en,ae⟩) t⟩
 |.d3=>⟨λt=>t.fu,λt f k=>b4.rec (motive:=λ_=>Bool) (λa0 bN a2 a3 a4 a5 dR en ae=>f a3 λv=>k ⟨a0,bN,a2,v,a4,a5,dR,en,ae⟩) t⟩
 |.d4=>⟨λt=>t.fh,λt f k=>b4.rec (motive:=λ_=>Bool) (λa0 bN a2 a3 a4 a5 dR en ae=>f a4 λv=>k ⟨a0,bN,a2,a3,v,a5,dR,en,ae⟩) t⟩
 |.d5=>⟨λt=>t.hC,λt f k=>b4.rec (motive:=λ_=>Bool) (λa0 bN a2 a3 a4 a5 dR en ae=>f a5 λv=>k ⟨a0,bN,a2,a3,a4,v,dR,en,ae⟩) t⟩
 |.d6=>⟨λt=>t.j9,λt f k=>b4.rec (motive:=λ_=>Bool) (λa0 bN a2 a3 a4 a5 dR en ae=>f dR λv=>k ⟨a0,bN,a2,a3,a4,a5,v,en,ae⟩) t⟩
 |.d7=>⟨λt=>t.nL,λt f k=>b4.rec (motive:=λ_=>Bool) (λa0 bN a2 a3 a4 a5 dR en ae=>f en λv=>k ⟨a0,bN,a2,a3,a4,a5,dR,v,ae⟩) t⟩
noncomputable def e5(n:Nat)(k:Nat->Bool):Bool:=Nat.rec (motive:=λ_=>Bool) (k 0) (λm _=>k (Nat.succ m)) n
@[simp] def gT(n)(k):e5 n k=k n:=by cases n<;>rfl
noncomputable def a7(b x y:Bool):Bool:=match b with | true => x | false => y
@[simp] def fz(x y):a7 true x y=x:=rfl
@[simp] def mF(x y):a7 false x y=y:=rfl
variable{k:Nat->Nat->Bool}{gX nE oU:Bool}{v:bl}
def ic{b x y}(h:a7 b x y):(b/\x)\/(b=false/\y):=by cases b<;>simp_all
noncomputable def lX(b:Bool)(k:Bool->Bool):Bool:=Bool.rec (motive:=λ_=>Bool) (k false) (k true) b
@[simp] def ri(b)(k):lX b k=k b:=by cases b<;>rfl
noncomputable def aJ(l:List bl):bl:=List.rec (motive:=λ_=>bl) .any (λa _ _=>a) l
@[simp] def asd(a)(l):aJ (a::l)=a:=rfl
@[simp] def asu:aJ []=.any:=rfl
noncomputable def oa(l:List bl):List bl:=List.rec (motive:=λ_=>List bl) [] (λ_ l _=>l) l
@[simp] def aqF(a)(l):oa (a::l)=l:=rfl
@[simp] def arl:oa []=[]:=rfl
noncomputable def yb(t:Nat)(l:List Nat):Nat->Option Nat:=List.rec (motive:=λ_=>Nat->Option Nat) (λ_=>none) (λa _ bB i=>Bool.rec (motive:=λ_=>Option Nat) (bB (Nat.succ i)) (some i) (Nat.beq a t)) l
def ahj(t i):yb t [] i=none:=rfl
def akS{t a:Nat}(l)(i)(h:Nat.beq a t):yb t (a::l) i=some i:=by simp only[yb,h]
def amH{t a:Nat}(l)(i)(h:Nat.beq a t=false):yb t (a::l) i=yb t l (Nat.succ i):=by simp only[yb,h]
noncomputable def kg{α:Type}(l:List α)(e:Bool)(k:α->List α->Bool):Bool:=match l with | a :: l => k a l | [] => e
@[simp] def aqK{α}(a)(l:List α)(e)(k:α->List α->Bool):kg (a::l) e k=k a l:=rfl
@[simp] def asn{α}(e)(k:α->List α->Bool):kg [] e k=e:=rfl
noncomputable def LJ(c:oJ)(k:Bool):Bool:=match c with | .N => k | _ => false
noncomputable def En(c:oJ)(k:Bool):Bool:=match c with | .s => k | _ => false
noncomputable def KX(c:oJ)(k:Bool):Bool:=match c with | .m => k | _ => false
noncomputable def Nw(c:oJ)(k:Bool):Bool:=match c with | .f => k | _ => false
noncomputable def Ee(c:oJ)(k:Bool):Bool:=match c with | .i => k | _ => false
noncomputable def gy(v:bl)(k:Nat->Nat->Bool):Bool:=kL (match v with | .int c n => k c n | _ => false)
def n9(h:gy v k):∃c n,v=.int c n/\k c n:=by cases v<;>first|(exact bS h)|(simp [gy,kL,x5,yl] at h ⊢;done)|(first|exact⟨_,rfl,h⟩|exact⟨_,_,rfl,h⟩|exact⟨_,_,_,_,rfl,h⟩|exact⟨_,_,_,_,_,_,rfl,h⟩|exact⟨_,_,_,rfl,h⟩)
noncomputable def AS(v:bl)(k:Nat->Nat->Bool)(pY:Nat->Nat->Nat->Bool):Bool:=kL (match v with | .int c n => k c n | .p1 c m r => pY c m r | _ => false)
def Vn{pY}(h:AS v k pY):(∃c n,v=.int c n/\k c n)\/(∃c m r,v=.p1 c m r/\pY c m r):=by cases v<;>first|(exact bS h)|exact .inl ⟨_,_,rfl,h⟩|exact .inr ⟨_,_,_,rfl,h⟩
noncomputable def mi(v:bl)(k:Bool->Bool):Bool:=kL (match v with | .bool b => k b | _ => false)
def Ak{k}(h:mi v k):∃b,v=.bool b/\k b:=by cases v<;>first|(exact bS h)|(simp [mi,kL,x5,yl] at h ⊢;done)|(first|exact⟨_,rfl,h⟩|exact⟨_,_,rfl,h⟩|exact⟨_,_,_,_,rfl,h⟩|exact⟨_,_,_,_,_,_,rfl,h⟩|exact⟨_,_,_,rfl,h⟩)
noncomputable def hK(v:bl)(k:Nat->Nat->Bool):Bool:=kL (match v with | .str l n => k l n | _ => false)
def uC(h:hK v k):∃l n,v=.str l n/\k l n:=by cases v<;>first|(exact bS h)|(simp [hK,kL,x5,yl] at h ⊢;done)|(first|exact⟨_,rfl,h⟩|exact⟨_,_,rfl,h⟩|exact⟨_,_,_,_,rfl,h⟩|exact⟨_,_,_,_,_,_,rfl,h⟩|exact⟨_,_,_,rfl,h⟩)
noncomputable def sA(v:bl)(k:Nat->Nat->Nat->Nat->Bool):Bool:=kL (match v with | .ptr a r s z => k a r s z | _ => false)
def NO{k}(h:sA v k):∃a r s z,v=.ptr a r s z/\k a r s z:=by cases v<;>first|(exact bS h)|(simp [sA,kL,x5,yl] at h ⊢;done)|(first|exact⟨_,rfl,h⟩|exact⟨_,_,rfl,h⟩|exact⟨_,_,_,_,rfl,h⟩|exact⟨_,_,_,_,_,_,rfl,h⟩|exact⟨_,_,_,rfl,h⟩)
noncomputable def Ab(v:bl)(k:Nat->Nat->Nat->Nat->Bool->Nat->Bool):Bool:=kL (match v with | .slice a i l c u z => k a i l c u z | _ => false)
def ad6{k}(h:Ab v k):∃a i l c u z,v=.slice a i l c u z/\k a i l c u z:=by cases v<;>first|(exact bS h)|(simp [Ab,kL,x5,yl] at h ⊢;done)|(first|exact⟨_,rfl,h⟩|exact⟨_,_,rfl,h⟩|exact⟨_,_,_,_,rfl,h⟩|exact⟨_,_,_,_,_,_,rfl,h⟩|exact⟨_,_,_,rfl,h⟩)
noncomputable def tw(v:bl)(gX:Bool)(k:Nat->Nat->Nat->Nat->Bool->Nat->Bool):Bool:=kL (match v with | .slice a i l c u z => k a i l c u z | .nil c => En c gX | _ => false)
def Le{k}(h:tw v gX k):(v=.nil .s/\gX)\/(∃a i l c u z,v=.slice a i l c u z/\k a i l c u z):=by cases v<;>first|(exact bS h)|(rename_i c;cases c<;>first|(exact bS h)|exact .inl ⟨rfl,h⟩)|exact .inr ⟨_,_,_,_,_,_,rfl,h⟩
noncomputable def ako(v:bl)(k:Nat->Bool):Bool:=kL (match v with | .map a => k a | _ => false)
noncomputable def BK(v:bl)(k:Nat->List bl->List bl->Bool):Bool:=kL (match v with | .fn f x y => k f x y | _ => false)
def adu{k}(h:BK v k=true):∃f x y,v=.fn f x y/\k f x y=true:=by cases v<;>first|(exact bS h)|(simp [BK,kL,x5,yl] at h ⊢;done)|(first|exact⟨_,rfl,h⟩|exact⟨_,_,rfl,h⟩|exact⟨_,_,_,_,rfl,h⟩|exact⟨_,_,_,_,_,_,rfl,h⟩|exact⟨_,_,_,rfl,h⟩)
noncomputable def Gn(v:bl)(k:Nat->bl->Bool):Bool:=kL (match v with | .iface t v => k t v | _ => false)
def aet{k}(h:Gn v k=true):∃t x,v=.iface t x/\k t x=true:=by cases v<;>first|(exact bS h)|exact⟨_,_,rfl,h⟩
noncomputable def HC(v:bl)(gX:Bool)(k:Nat->bl->Bool):Bool:=kL (match v with | .iface t v => k t v | .nil c => Ee c gX | _ => false)
def anN{k}(h:HC v gX k=true):(v=.nil .i/\gX=true)\/(∃t x,v=.iface t x/\k t x=true):=by cases v<;>first|(exact bS h)|(rename_i c;cases c<;>first|(exact bS h)|exact .inl ⟨rfl,h⟩)|exact .inr ⟨_,_,rfl,h⟩
noncomputable def vA(v:bl)(k:Nat->List bl->Bool):Bool:=kL (match v with | .agg n l => k n l | _ => false)
def aah{k}(h:vA v k=true):∃n l,v=.agg n l/\k n l=true:=by cases v<;>first|(exact bS h)|(simp [vA,kL,x5,yl] at h ⊢;done)|(first|exact⟨_,rfl,h⟩|exact⟨_,_,rfl,h⟩|exact⟨_,_,_,_,rfl,h⟩|exact⟨_,_,_,_,_,_,rfl,h⟩|exact⟨_,_,_,rfl,h⟩)
noncomputable def Bt(v:bl)(k:List bl->Bool):Bool:=kL (match v with | .eJ l => k l | _ => false)
def ang{k}(h:Bt v k=true):∃l,v=.eJ l/\k l=true:=by cases v<;>first|(exact bS h)|(simp [Bt,kL,x5,yl] at h ⊢;done)|(first|exact⟨_,rfl,h⟩|exact⟨_,_,rfl,h⟩|exact⟨_,_,_,_,rfl,h⟩|exact⟨_,_,_,_,_,_,rfl,h⟩|exact⟨_,_,_,rfl,h⟩)
noncomputable def q6(v:bl)(cq:Bool)(jL:Nat->List bl->Bool):Bool:=kL (match v with | .bool b => cq | .int c n => cq | .str l n => cq | .nil c => cq | .ptr a r s z => cq | .slice a i l c u z => cq | .map a => cq | .fn f x y => cq | .iface t v => cq | .pw V => cq | .agg n l => jL n l | _ => false)
def bl.lw:bl->Bool
 |.agg _ _|.eJ _|.undef|.any|.p1 _ _ _=>false
 |_=>true
def W8{cq jL}(h:q6 v cq jL=true):(v.lw=true/\cq=true)\/(∃n l,v=.agg n l/\jL n l=true):=by cases v<;>first|(exact bS h)|exact .inl ⟨rfl,h⟩|exact .inr ⟨_,_,rfl,h⟩
noncomputable def HP(v:bl)(ta:Bool->Bool)(xI:Bool):Bool:=kL (match v with | .bool b => ta b | .undef  => xI | _ => false)
def E3{ta xI}(h:HP v ta xI=true):(∃b,v=.bool b/\ta b=true)\/(v=.undef/\xI=true):=by cases v<;>first|(exact bS h)|exact .inl ⟨_,rfl,h⟩|exact .inr ⟨rfl,h⟩
noncomputable def Fu(v:bl)(oU nE:Bool):Bool:=kL (match v with | .nil c => LJ c oU | .ptr a r s z => nE | _ => false)
def acW(h:Fu v oU nE=true):(v=.nil .N/\oU=true)\/((∃oF dS fw lB,v=.ptr oF dS fw lB)/\nE=true):=by cases v<;>first|(exact bS h)|(rename_i c;cases c<;>first|(exact bS h)|exact .inl ⟨rfl,h⟩)|exact .inr ⟨⟨_,_,_,_,rfl⟩,h⟩
noncomputable def FE(v:bl)(oU nE:Bool):Bool:=kL (match v with | .nil c => En c oU | .slice a i l c u z => nE | _ => false)
def ZO(h:FE v oU nE=true):(v=.nil .s/\oU=true)\/((∃oF dS fw lB pZ KA,v=.slice oF dS fw lB pZ KA)/\nE=true):=by cases v<;>first|(exact bS h)|(rename_i c;cases c<;>first|(exact bS h)|exact .inl ⟨rfl,h⟩)|exact .inr ⟨⟨_,_,_,_,_,_,rfl⟩,h⟩
noncomputable def FQ(v:bl)(oU nE:Bool):Bool:=kL (match v with | .nil c => KX c oU | .map a => nE | _ => false)
def Y9(h:FQ v oU nE=true):(v=.nil .m/\oU=true)\/((∃oF,v=.map oF)/\nE=true):=by cases v<;>first|(exact bS h)|(rename_i c;cases c<;>first|(exact bS h)|exact .inl ⟨rfl,h⟩)|exact .inr ⟨⟨_,rfl⟩,h⟩
noncomputable def Fw(v:bl)(oU nE:Bool):Bool:=kL (match v with | .nil c => Nw c oU | .fn f x y => nE | _ => false)
def WG(h:Fw v oU nE=true):(v=.nil .f/\oU=true)\/((∃oF dS fw,v=.fn oF dS fw)/\nE=true):=by cases v<;>first|(exact bS h)|(rename_i c;cases c<;>first|(exact bS h)|exact .inl ⟨rfl,h⟩)|exact .inr ⟨⟨_,_,_,rfl⟩,h⟩
noncomputable def D4(v:bl)(oU nE:Bool):Bool:=kL (match v with | .nil c => Ee c oU | .iface t v => nE | _ => false)
def YT(h:D4 v oU nE=true):(v=.nil .i/\oU=true)\/((∃oF dS,v=.iface oF dS)/\nE=true):=by cases v<;>first|(exact bS h)|(rename_i c;cases c<;>first|(exact bS h)|exact .inl ⟨rfl,h⟩)|exact .inr ⟨⟨_,_,rfl⟩,h⟩
noncomputable def BY(v:bl)(k:Bool):Bool:=kL (match v with | .ptr a r s z => k | .fn f x y => k | _ => false)
def ahc{k}(h:BY v k=true):((∃a r s z,v=.ptr a r s z)\/(∃f x y,v=.fn f x y))/\k=true:=by cases v<;>first|(exact bS h)|exact⟨.inl ⟨_,_,_,_,rfl⟩,h⟩|exact⟨.inr ⟨_,_,_,rfl⟩,h⟩
noncomputable def yq(D:gB)(k:Rows->Nat->Nat->Nat->Bool->Bool->Bool):Bool:=gB.rec (motive:=λ_=>Bool) false false (λam n z el u dK=>k am n z el u dK) (λ_ _=>false) D
def J8{D k}(h:yq D k=true):∃am n z el u dK,D=.cells am n z el u dK/\k am n z el u dK=true:=by cases D<;>first|(exact bS h)|exact⟨_,_,_,_,_,_,rfl,h⟩
noncomputable def ahv(D:gB)(k:List (bl×bl×Nat)->Nat->Bool):Bool:=gB.rec (motive:=λ_=>Bool) false false (λ_ _ _ _ _ _=>false) (λes sI=>k es sI) D
noncomputable def Tv(am:Rows)(gX:List bl->Bool)(dr:cS (List bl)->Bool)(c3:cS (cS (List bl))->Bool)(dY:cS (cS (cS (List bl)))->Bool)(nE:(Nat->List bl)->Nat->Bool):Bool:=Rows.rec (motive:=λ_=>Bool) gX dr c3 dY nE am
noncomputable def Ec(H:bd)(k:Nat->te->Bool):Bool:=bd.rec (motive:=λ_=>Bool) k H
@[simp] def Hz(H:bd)(k:Nat->te->Bool):Ec H k=k H.next H.t:=rfl
noncomputable def Ac(r:r9)(Fr aU:bl->Bool):Bool:=r9.rec (motive:=λ_=>Bool) Fr aU r
@[simp] def ar3(v:bl)(Fr aU:bl->Bool):Ac (.val v) Fr aU=Fr v:=rfl
@[simp] def aqR(v:bl)(Fr aU:bl->Bool):Ac (.nv v) Fr aU=aU v:=rfl
noncomputable def A4(x:X)(AF:Nat->Bool)(pY:Bool)(aU:bl->Bool):Bool:=match x with | .exit i => AF i | .ret => pY | .panic v => aU v
@[simp] def aeS(i:Nat)(AF:Nat->Bool)(pY:Bool)(aU:bl->Bool):A4 (.exit i) AF pY aU=AF i:=rfl
@[simp] def asG(AF:Nat->Bool)(pY:Bool)(aU:bl->Bool):A4 .ret AF pY aU=pY:=rfl
@[simp] def asb(v:bl)(AF:Nat->Bool)(pY:Bool)(aU:bl->Bool):A4 (.panic v) AF pY aU=aU v:=rfl
noncomputable def rN{α:Type}(l:List α):Nat->(List α->Bool)->Bool:=
 List.rec (motive:=λ_=>Nat->(List α->Bool)->Bool) (λn k=>Nat.rec (motive:=λ_=>Bool) (k []) (λ_ _=>false) n)
  (λa _ bB n k=>Nat.rec (motive:=λ_=>Bool) (k []) (λn _=>bB n λr=>k (a::r)) n) l
noncomputable def pc{α:Type}(l:List α):Nat->(List α->Bool)->Bool:=
 List.rec (motive:=λ_=>Nat->(List α->Bool)->Bool) (λn k=>Nat.rec (motive:=λ_=>Bool) (k []) (λ_ _=>false) n)
  (λa l bB n k=>Nat.rec (motive:=λ_=>Bool) (k (a::l)) (λn _=>bB n k) n) l
noncomputable def KC{α:Type}(l:List α):Nat->Bool->Bool:=
 List.rec (motive:=λ_=>Nat->Bool->Bool) (λn k=>Nat.rec (motive:=λ_=>Bool) k (λ_ _=>false) n)
  (λ_ _ bB n k=>Nat.rec (motive:=λ_=>Bool) false (λn _=>bB n k) n) l
noncomputable def nx{α:Type}(l:List α):List α->(List α->Bool)->Bool:=
 List.rec (motive:=λ_=>List α->(List α->Bool)->Bool) (λm k=>k m) (λa _ bB m k=>bB m λr=>k (a::r)) l
noncomputable def EP(b:(b4->bd->Bool)->b4->bd->Bool)(n:Nat):b4->bd->Bool:=
 Nat.rec (motive:=λ_=>b4->bd->Bool) (λ_ _=>false) (λ_ bB=>b bB) n
noncomputable def NC(aX:Nat->(Nat->List bl->bd->(r9->bd->Bool)->Bool)->Nat->List bl->bd->(r9->bd->Bool)->Bool)(n:Nat):Nat->List bl->bd->(r9->bd->Bool)->Bool:=
 Nat.rec (motive:=λ_=>Nat->List bl->bd->(r9->bd->Bool)->Bool) (λ_ _ _ _=>false) (λn bB=>aX n bB) n
def Iq{α:Type}:∀{l:List α}{n:Nat}{k:List α->Bool},rN l n k=true->n<=l.length/\k (l.take n)=true
 |[],0,_,h=>⟨ez _,h⟩
 |[],_+1,_,h=>bS h
 |a::l,0,_,h=>⟨mz _,h⟩
 |a::l,n+1,k,h=>by have⟨B,F⟩:=Iq (l:=l) (n:=n) (k:=λr=>k (a::r)) h;exact⟨by simpa using B,by simpa using F⟩
def Bz{α:Type}:∀{l:List α}{n:Nat}{k:List α->Bool},pc l n k=true->n<=l.length/\k (l.drop n)=true
 |[],0,_,h=>⟨ez _,h⟩
 |[],_+1,_,h=>bS h
 |a::l,0,_,h=>⟨mz _,h⟩
 |a::l,n+1,k,h=>by have⟨B,F⟩:=Bz (l:=l) (n:=n) (k:=k) h;exact⟨by simpa using B,by simpa using F⟩
def T0{α:Type}:∀{l:List α}{n:Nat}{k:Bool},KC l n k=true->l.length=n/\k=true
 |[],0,_,h=>⟨rfl,h⟩
 |[],_+1,_,h=>bS h
 |_::_,0,_,h=>bS h
 |_::l,n+1,k,h=>by have⟨B,F⟩:=T0 (l:=l) (n:=n) (k:=k) h;exact⟨by simp [B],F⟩
def qM{α:Type}:∀(l m:List α)(k:List α->Bool),nx l m k=k (l++m)
 |[],_,_=>rfl
 |a::l,m,k=>by have:=qM l m (λr=>k (a::r));exact this
def apd(b:(b4->bd->Bool)->b4->bd->Bool)(T:b4)(H:bd):EP b 0 T H=false:=rfl
def Qe(b:(b4->bd->Bool)->b4->bd->Bool)(n:Nat)(T:b4)(H:bd):EP b (n+1) T H=b (EP b n) T H:=rfl
def OT(aX:Nat->(Nat->List bl->bd->(r9->bd->Bool)->Bool)->Nat->List bl->bd->(r9->bd->Bool)->Bool)(n:Nat):NC aX (n+1)=aX n (NC aX n):=rfl
structure WX where
 g1:cS (List bl)->List bl
 g2:cS (cS (List bl))->List bl
 g3:cS (cS (cS (List bl)))->List bl
 tv:cS (List bl)->List bl->(cS (List bl)->Bool)->Bool
 vI:cS (cS (List bl))->List bl->(cS (cS (List bl))->Bool)->Bool
 AH:cS (cS (cS (List bl)))->List bl->(cS (cS (cS (List bl)))->Bool)->Bool
def aqp(a bF:vj (List bl))(b dA:vj (cS (List bl)))(c:vj (cS (cS (List bl)))):WX:=
 match a,b,dA,c with
 |⟨da,B8⟩,⟨cC,rF⟩,⟨_,_⟩,⟨d8,U1⟩=>
  ⟨λt=>da t,λt=>da (cC t),λt=>da (cC (d8 t)),λt v k=>B8 t (λ_ k=>k v) k,λt v k=>rF t (λt k=>B8 t (λ_ k=>k v) k) k,
   λt v k=>U1 t (λt k=>rF t (λt k=>B8 t (λ_ k=>k v) k) k) k⟩
noncomputable def n0(i:Nat):WX:=aqp (bQ (dG (i % 8))) (bQ (dG (i % 8))) (bQ (dG (i / 8 % 8))) (bQ (dG (i / 8 % 8))) (bQ (dG (i / 64 % 8)))
noncomputable def Po(h:te)(k:xg->(Nat->gB)->gB):gB:=te.rec (motive:=λ_=>gB) (λt f=>k t f) h
noncomputable def Uu(h:te)(k:xg->(Nat->gB)->Bool):Bool:=te.rec (motive:=λ_=>Bool) (λt f=>k t f) h
@[simp] def arP(t:xg)(f:Nat->gB)(k:xg->(Nat->gB)->gB):Po ⟨t,f⟩ k=k t f:=rfl
@[simp] def arm(t:xg)(f:Nat->gB)(k:xg->(Nat->gB)->Bool):Uu ⟨t,f⟩ k=k t f:=rfl
structure SN where
 g:te->gB
 u:te->gB->(te->Bool)->Bool
noncomputable def akA(a:vj gB)(b:vj (cS gB))(c:vj (cS (cS gB)))(d:vj (cS (cS (cS gB))))(e:vj (cS (cS (cS (cS gB))))):SN:=
 match a,b,c,d,e with
 |⟨da,B8⟩,⟨cC,rF⟩,⟨d8,U1⟩,⟨ae,ap7⟩,⟨es,agu⟩=>⟨λh=>Po h λt _=>da (cC (d8 (ae (es t)))),λh v k=>Uu h λt f=>agu t (λt k=>ap7 t (λt k=>U1 t (λt k=>rF t (λt k=>B8 t (λ_ k=>k v) k) k) k) k) λt=>k ⟨t,f⟩⟩
noncomputable def apu(i:Nat):SN:=⟨λh=>Po h λ_ f=>f i,λh v k=>Uu h λt f=>k ⟨t,λM=>match Nat.beq M i with|true=>v|false=>f M⟩⟩
noncomputable def hp(i:Nat):SN:=match Nat.blt i 32768 with
 |true=>akA (bQ (dG (i % 8))) (bQ (dG (i / 8 % 8))) (bQ (dG (i / 64 % 8))) (bQ (dG (i / 512 % 8))) (bQ (dG (i / 4096 % 8)))
 |false=>apu i
noncomputable def rowAt(am:Rows)(i:Nat)(k:List bl->Bool):Bool:=
 Tv am (λr=>a7 (Nat.beq i 0) (k r) false) (λt=>k ((n0 i).g1 t)) (λt=>k ((n0 i).g2 t)) (λt=>k ((n0 i).g3 t)) (λg _=>k (g i))
noncomputable def setRow(am:Rows)(i:Nat)(r:List bl)(k:Rows->Bool):Bool:=
 Tv am (λ_=>k (.fG r)) (λt=>(n0 i).tv t r λt=>k (.dc t)) (λt=>(n0 i).vI t r λt=>k (.cl t)) (λt=>(n0 i).AH t r λt=>k (.hD t)) (λg c=>k (.j3 (λM=>match Nat.beq M i with|true=>r|false=>g M) c))
noncomputable def ya(am:Rows)(m:Nat):Nat->(List (List bl)->Bool)->Bool:=
 Nat.rec (motive:=λ_=>Nat->(List (List bl)->Bool)->Bool) (λ_ k=>k []) (λ_ bB i k=>rowAt am i λr=>bB (Nat.succ i) λl=>k (r::l)) m
noncomputable def uB(l:List (List bl)):Rows->Nat->(Rows->Bool)->Bool:=
 List.rec (motive:=λ_=>Rows->Nat->(Rows->Bool)->Bool) (λam _ k=>k am) (λr _ bB am i k=>setRow am i r λam=>bB am (Nat.succ i) k) l
def aew(am:Rows)(m i:Nat)(k:List (List bl)->Bool):ya am (m+1) i k=rowAt am i λr=>ya am m (Nat.succ i) λl=>k (r::l):=rfl
def amY(r:List bl)(l:List (List bl))(am:Rows)(i:Nat)(k:Rows->Bool):uB (r::l) am i k=setRow am i r λam=>uB l am (Nat.succ i) k:=rfl
end Go.Ev
namespace Go
abbrev aO := List Nat
abbrev dv := List (Option Nat)
abbrev jo := Option Nat
abbrev k9 := List UInt8
abbrev lh := List Value
abbrev uQ := List (List Value)
abbrev gu := List Oper
abbrev cv := List Ev.bl
abbrev ql := List (List Ev.bl)
end Go
