/- A part. -/
import Derived.Laws.Append
import Derived.Laws.CopyRow
import Derived.Laws.Sem
import Derived.Laws.World
import Derived.Orders
import Derived.Calls
set_option linter.all false
namespace Go
theorem I{p : Prop}(h : p := by omega) : p := h
theorem af{p : Prop}(h : p := by decide) : p := h
theorem y5{p : Prop}(h : p := by simp only [List.length_append, List.length_cons, List.length_nil]; omega) : p := h
theorem bW{α : Type _}{fH : Type _}{f : α → fH}{l : List α} : (l.map f).length = l.length := List.length_map ..
theorem ci{p : Prop}(h : false = true) : p := absurd h Bool.false_ne_true
end Go
namespace Go
abbrev ex := @List.length_map
abbrev fP := @List.length_append
abbrev lM := @List.length_cons
abbrev ig := @Bool.and_eq_true
abbrev md := @List.length_nil
abbrev jt := @Go.Result.andThen_ok
abbrev ji := @List.mem_singleton
abbrev oo := @List.getElem?_eq_some_iff
abbrev kp := @Go.Sem.run_pure
abbrev ub := @List.all_eq_true
abbrev IA := @List.length_singleton
abbrev gg := @List.map_cons
abbrev fI := @Nat.le_refl
abbrev jm := @Go.Sem.run_bind
abbrev hS := @List.mem_cons
abbrev jj := @List.map_append
abbrev l8 := @List.mem_append
abbrev lX := @List.getElem?_eq_getElem
abbrev lJ := @List.cons_append
abbrev rR := @List.length_take
abbrev hq := @List.map_nil
abbrev r7 := @decide_eq_true
abbrev s5 := @List.getD_eq_getElem?_getD
abbrev ps := @List.nil_append
abbrev q4 := @Nat.mul_le_mul_right
abbrev x5 := @List.map_singleton
abbrev oi := @Bool.or_false
abbrev qM := @Nat.mod_eq_of_lt
abbrev l6 := @List.mem_filter
abbrev qK := @List.length_drop
abbrev tD := @List.mem_cons_of_mem
abbrev pD := @Nat.lt_of_lt_of_le
abbrev ua := @List.mem_cons_self
abbrev Je := @List.size_toArray
abbrev pW := @Nat.zero_add
abbrev qG := @Nat.zero_le
abbrev Dy := @Bool.false_eq_true
abbrev tY := @List.getElem?_eq_none
abbrev m4 := @Nat.lt_or_ge
abbrev mz := @decide_eq_true_eq
abbrev sw := @of_decide_eq_true
abbrev vK := @Nat.lt_of_le_of_lt
abbrev HY := @List.length_eq_zero_iff
abbrev RB := @List.getElem?_cons_succ
abbrev nR := @Nat.le_trans
abbrev Ff := @List.getElem?_append_right
abbrev arS := @Array.getElem?_eq_some_iff
abbrev kE := @List.append_nil
abbrev DB := @List.getElem?_append_left
abbrev Be := @List.drop_eq_getElem_cons
abbrev Ht := @List.getElem?_toArray
abbrev ev := @if_pos
abbrev cO := @if_neg
abbrev zO := @Nat.add_mul
abbrev pU := @decide_eq_false
abbrev Kg := @List.mem_of_getElem?
abbrev AW := @List.length_replicate
abbrev arC := @Bool.or_eq_true
abbrev mA := @Nat.mod_lt
abbrev UR := @Array.getD_eq_getD_getElem?
abbrev Se := @Bool.false_ne_true
abbrev BT := @Array.getElem?_toList
abbrev yR := @List.getElem?_map
abbrev Hg := @Bool.true_and
abbrev El := @Nat.add_comm
abbrev Bj := @List.take_append_drop
abbrev Ax := @List.not_mem_nil
abbrev u0 := @Int.emod_eq_of_lt
abbrev H8 := @Bool.or_eq_false_iff
abbrev ya := @List.mem_map
abbrev DE := @Nat.min_eq_left
abbrev adg := @Bool.and_true
abbrev Jv := @Nat.add_zero
abbrev NQ := @List.flatten_cons
abbrev k9 := @List.append_assoc
abbrev WB := @Bool.false_and
abbrev sY := @if_false
abbrev GM := @Nat.add_assoc
abbrev adv := @List.getElem?_cons_zero
abbrev Ay := @List.mem_of_mem_drop
abbrev Rr := @List.take_succ_eq_append_getElem
abbrev fr := @congrArg
abbrev X1 := @Array.getElem?_eq_none
abbrev abq := @Bool.and_false
abbrev Lj := @UInt8.toNat_ofNat'
abbrev Nc := @List.getElem?_drop
abbrev ME := @Int.natCast_emod
abbrev uw := @Go.mem_ready
abbrev p7 := @beq_iff_eq
abbrev Ol := @Int.toNat_natCast
abbrev U9 := @Bool.not_eq_true'
abbrev zt := @List.foldl_cons
abbrev Dh := @if_true
abbrev acg := @Array.getElem?_append_left
abbrev acu := @List.mem_append_right
abbrev Mc := @Bool.not_true
abbrev Ep := @List.mem_of_mem_take
abbrev N0 := @List.mem_append_left
abbrev asH := @Option.map_some
abbrev LF := @List.take_length
abbrev fQ := @List.getElem_mem
abbrev Nf := @Bool.not_false
abbrev Dx := @List.take_of_length_le
abbrev tZ := @funext
abbrev Kf := @decide_eq_true_iff
abbrev Pn := @Int.emod_lt_of_pos
abbrev E2 := @Option.some.inj
abbrev AF := @Go.getD_set_true
abbrev IW := @List.all_cons
abbrev UX := @Array.getElem?_eq_getElem
abbrev SW := @Go.getD_set_ne
abbrev aeV := @Nat.mul_le_mul_left
abbrev auI := @Array.toList_append
abbrev ale := @Array.length_toList
abbrev JT := @Nat.zero_mul
abbrev wm := @Nat.succ_pos
abbrev Z8 := @Nat.succ_mul
abbrev R3 := @Int.emod_nonneg
abbrev asZ := @Nat.mul_one
abbrev He := @List.ext_getElem?
abbrev YH := @Array.size_append
abbrev La := @Nat.le_of_ble_eq_true
abbrev MV := @Nat.lt_irrefl
abbrev agP := @Bool.false_or
abbrev MF := @Go.run_firstCells_some
abbrev PI := @UInt8.toNat_inj
abbrev Qk := @Nat.mul_add
abbrev asl := @List.take_succ_cons
abbrev kg := @List.length_set
abbrev ajk := @List.getElem_of_mem
abbrev Cm := @or_false
abbrev Nn := @Go.run_storeCells_at
abbrev Gq := @Nat.blt_eq
abbrev atp := @Function.comp_def
abbrev aje := @Go.World.size_alloc
abbrev TC := @List.filter_cons
abbrev Uu := @List.all_map
abbrev aqL := @Bool.true_or
end Go
namespace Go.Ev
open Go
structure db(α:Type) where
 mk::
 dS:α
 bk:α
 bu:α
 b1:α
 cP:α
 dO:α
 eb:α
 eY:α
inductive CO where
 |d0|d1|d2|d3|d4|d5|d6|d7
 deriving DecidableEq
def ea(n:Nat):CO:=
 match n with
 |0=>.d0|1=>.d1|2=>.d2|3=>.d3|4=>.d4|5=>.d5|6=>.d6|_=>.d7
def db.get{α}(t:db α)(d:CO):α:=
 match d with
 |.d0=>t.dS|.d1=>t.bk|.d2=>t.bu|.d3=>t.b1|.d4=>t.cP|.d5=>t.dO|.d6=>t.eb|.d7=>t.eY
def db.set{α}(t:db α)(d:CO)(v:α):db α:=
 match d with
 |.d0=>⟨v,t.bk,t.bu,t.b1,t.cP,t.dO,t.eb,t.eY⟩|.d1=>⟨t.dS,v,t.bu,t.b1,t.cP,t.dO,t.eb,t.eY⟩|.d2=>⟨t.dS,t.bk,v,t.b1,t.cP,t.dO,t.eb,t.eY⟩|.d3=>⟨t.dS,t.bk,t.bu,v,t.cP,t.dO,t.eb,t.eY⟩|.d4=>⟨t.dS,t.bk,t.bu,t.b1,v,t.dO,t.eb,t.eY⟩|.d5=>⟨t.dS,t.bk,t.bu,t.b1,t.cP,v,t.eb,t.eY⟩|.d6=>⟨t.dS,t.bk,t.bu,t.b1,t.cP,t.dO,v,t.eY⟩|.d7=>⟨t.dS,t.bk,t.bu,t.b1,t.cP,t.dO,t.eb,v⟩
def db.amk{α}(t:db α)(d cC)(v):(t.set d v).get cC=if cC=d then v else t.get cC:=by cases d<;>cases cC<;>rfl
def db.all{α}(v:α):db α:=⟨v,v,v,v,v,v,v,v⟩
def db.ab9{α}(v:α)(d):(db.all v).get d=v:=by cases d<;>rfl
structure wa(α:Type) where
 s:db α->α
 u:db α->(α->(α->Bool)->Bool)->(db α->Bool)->Bool
inductive oK where
 |p|s|m|f|i
 deriving DecidableEq
inductive bp where
 |undef
 |bool (b:Bool)
 |int (c n:Nat)
 |str (l n:Nat)
 |nil (c:oK)
 |ptr (a r s z:Nat)
 |slice (a i l c:Nat) (u:Bool) (z:Nat)
 |map (a:Nat)
 |fn (f:Nat) (x y:List bp)
 |iface (t:Nat) (v:bp)
 |agg (n:Nat) (l:List bp)
 |gy (l:List bp)
 |any
 |q9 (c m r:Nat)
 |pJ (V:Value)
 deriving Inhabited
structure Lg where
 f:Nat
 args:List bp
 cap:List bp
structure ca where
 mk::
 mL:db bp
 cD:db bp
 dp:db bp
 ga:db bp
 fX:db bp
 hO:db bp
 kd:db bp
 nE:db bp
 ah:List Lg
structure TN where
 s:ca->db bp
 u:ca->(db bp->(db bp->Bool)->Bool)->(ca->Bool)->Bool
inductive Rows where
 |fC (r:List bp)
 |dC (t:db (List bp))
 |b3 (t:db (db (List bp)))
 |iQ (t:db (db (db (List bp))))
 |nM (g:Nat->List bp) (c:Nat)
inductive gW where
 |none
 |dead
 |cells (ax:Rows) (n z:Nat) (ak:Nat) (u ee:Bool)
 |map (es:List (bp×bp×Nat)) (tp:Nat)
abbrev xE:=db (db (db (db (db gW))))
structure tb where
 mk::
 t:xE
 f:Nat->gW
structure bg where
 next:Nat
 t:tb
inductive r6 where
 |val (v:bp)
 |nu (v:bp)
inductive X where
 |exit (id:Nat)
 |ret
 |panic (v:bp)
inductive e7 where
 |ret
 |nu (v:bp) (r:Bool)
def zg(b:Bool):Bool:=b
def yv(b:Bool):Bool:=zg b
def lu(b:Bool):Bool:=yv b
noncomputable def bD{α}(d:CO):wa α:=
 match d with
 |.d0=>⟨λt=>t.dS,λt f k=>db.rec (motive:=λ_=>Bool) (λdS bk bu b1 cP dO eb eY=>f dS λv=>k ⟨v,bk,bu,b1,cP,dO,eb,eY⟩) t⟩|.d1=>⟨λt=>t.bk,λt f k=>db.rec (motive:=λ_=>Bool) (λdS bk bu b1 cP dO eb eY=>f bk λv=>k ⟨dS,v,bu,b1,cP,dO,eb,eY⟩) t⟩|.d2=>⟨λt=>t.bu,λt f k=>db.rec (motive:=λ_=>Bool) (λdS bk bu b1 cP dO eb eY=>f bu λv=>k ⟨dS,bk,v,b1,cP,dO,eb,eY⟩) t⟩|.d3=>⟨λt=>t.b1,λt f k=>db.rec (motive:=λ_=>Bool) (λdS bk bu b1 cP dO eb eY=>f b1 λv=>k ⟨dS,bk,bu,v,cP,dO,eb,eY⟩) t⟩|.d4=>⟨λt=>t.cP,λt f k=>db.rec (motive:=λ_=>Bool) (λdS bk bu b1 cP dO eb eY=>f cP λv=>k ⟨dS,bk,bu,b1,v,dO,eb,eY⟩) t⟩|.d5=>⟨λt=>t.dO,λt f k=>db.rec (motive:=λ_=>Bool) (λdS bk bu b1 cP dO eb eY=>f dO λv=>k ⟨dS,bk,bu,b1,cP,v,eb,eY⟩) t⟩|.d6=>⟨λt=>t.eb,λt f k=>db.rec (motive:=λ_=>Bool) (λdS bk bu b1 cP dO eb eY=>f eb λv=>k ⟨dS,bk,bu,b1,cP,dO,v,eY⟩) t⟩|.d7=>⟨λt=>t.eY,λt f k=>db.rec (motive:=λ_=>Bool) (λdS bk bu b1 cP dO eb eY=>f eY λv=>k ⟨dS,bk,bu,b1,cP,dO,eb,v⟩) t⟩
def oQ{α}(d)(t:db α):(bD d).s t=t.get d:=by cases d<;>rfl
def AY{α}(d)(t:db α)(f)(k:db α->Bool):(bD d).u t f k=f (t.get d) λv=>k (t.set d v):=by cases d<;>rfl
noncomputable def slt(d:CO):TN:=
 match d with
 |.d0=>⟨λt=>t.mL,λt f k=>ca.rec (motive:=λ_=>Bool) (λdS bk bu b1 cP dO eb eY ah=>f dS λv=>k ⟨v,bk,bu,b1,cP,dO,eb,eY,ah⟩) t⟩|.d1=>⟨λt=>t.cD,λt f k=>ca.rec (motive:=λ_=>Bool) (λdS bk bu b1 cP dO eb eY ah=>f bk λv=>k ⟨dS,v,bu,b1,cP,dO,eb,eY,ah⟩) t⟩|.d2=>⟨λt=>t.dp,λt f k=>ca.rec (motive:=λ_=>Bool) (λdS bk bu b1 cP dO eb eY ah=>f bu λv=>k ⟨dS,bk,v,b1,cP,dO,eb,eY,ah⟩) t⟩|.d3=>⟨λt=>t.ga,λt f k=>ca.rec (motive:=λ_=>Bool) (λdS bk bu b1 cP dO eb eY ah=>f b1 λv=>k ⟨dS,bk,bu,v,cP,dO,eb,eY,ah⟩) t⟩|.d4=>⟨λt=>t.fX,λt f k=>ca.rec (motive:=λ_=>Bool) (λdS bk bu b1 cP dO eb eY ah=>f cP λv=>k ⟨dS,bk,bu,b1,v,dO,eb,eY,ah⟩) t⟩|.d5=>⟨λt=>t.hO,λt f k=>ca.rec (motive:=λ_=>Bool) (λdS bk bu b1 cP dO eb eY ah=>f dO λv=>k ⟨dS,bk,bu,b1,cP,v,eb,eY,ah⟩) t⟩|.d6=>⟨λt=>t.kd,λt f k=>ca.rec (motive:=λ_=>Bool) (λdS bk bu b1 cP dO eb eY ah=>f eb λv=>k ⟨dS,bk,bu,b1,cP,dO,v,eY,ah⟩) t⟩|.d7=>⟨λt=>t.nE,λt f k=>ca.rec (motive:=λ_=>Bool) (λdS bk bu b1 cP dO eb eY ah=>f eY λv=>k ⟨dS,bk,bu,b1,cP,dO,eb,v,ah⟩) t⟩
noncomputable def gr(n:Nat)(k:Nat->Bool):Bool:=Nat.rec (motive:=λ_=>Bool) (k 0) (λm _=>k (Nat.succ m)) n
@[simp] def k5(n)(k):gr n k=k n:=by cases n<;>rfl
noncomputable def bd(b x y:Bool):Bool:=match b with | true => x | false => y
@[simp] def iG(x y):bd true x y=x:=rfl
@[simp] def o9(x y):bd false x y=y:=rfl
variable{k:Nat->Nat->Bool}{e5 nK oG:Bool}{v:bp}
def iE{b x y}(h:bd b x y):(b/\x)\/(b=false/\y):=by cases b<;>simp_all
noncomputable def mJ(b:Bool)(k:Bool->Bool):Bool:=Bool.rec (motive:=λ_=>Bool) (k false) (k true) b
@[simp] def Dq(b)(k):mJ b k=k b:=by cases b<;>rfl
noncomputable def aY(l:List bp):bp:=List.rec (motive:=λ_=>bp) .any (λa _ _=>a) l
@[simp] def asR(a)(l):aY (a::l)=a:=rfl
@[simp] def auQ:aY []=.any:=rfl
noncomputable def o2(l:List bp):List bp:=List.rec (motive:=λ_=>List bp) [] (λ_ l _=>l) l
@[simp] def asr(a)(l):o2 (a::l)=l:=rfl
@[simp] def atu:o2 []=[]:=rfl
noncomputable def yF(t:Nat)(l:List Nat):Nat->Option Nat:=List.rec (motive:=λ_=>Nat->Option Nat) (λ_=>none) (λa _ bQ i=>Bool.rec (motive:=λ_=>Option Nat) (bQ (Nat.succ i)) (some i) (Nat.beq a t)) l
def as5(t i):yF t [] i=none:=rfl
def air{t a:Nat}(l)(i)(h:Nat.beq a t):yF t (a::l) i=some i:=by simp[yF,h]
def aki{t a:Nat}(l)(i)(h:Nat.beq a t=false):yF t (a::l) i=yF t l (Nat.succ i):=by simp[yF,h]
noncomputable def kM{α:Type}(l:List α)(e:Bool)(k:α->List α->Bool):Bool:=match l with | a :: l => k a l | [] => e
@[simp] def atc{α}(a)(l:List α)(e)(k:α->List α->Bool):kM (a::l) e k=k a l:=rfl
@[simp] def as7{α}(e)(k:α->List α->Bool):kM [] e k=e:=rfl
noncomputable def O6(c:oK)(k:Bool):Bool:=match c with | .p => k | _ => false
noncomputable def Fp(c:oK)(k:Bool):Bool:=match c with | .s => k | _ => false
noncomputable def Nm(c:oK)(k:Bool):Bool:=match c with | .m => k | _ => false
noncomputable def NT(c:oK)(k:Bool):Bool:=match c with | .f => k | _ => false
noncomputable def FP(c:oK)(k:Bool):Bool:=match c with | .i => k | _ => false
noncomputable def gN(v:bp)(k:Nat->Nat->Bool):Bool:=lu (match v with | .int c n => k c n | _ => false)
def m6(h:gN v k):∃c n,v=.int c n/\k c n:=by cases v<;>first|(exact ci h)|grind[gN,lu,yv,zg]|(first|exact⟨_,rfl,h⟩|exact⟨_,_,rfl,h⟩|exact⟨_,_,_,_,rfl,h⟩|exact⟨_,_,_,_,_,_,rfl,h⟩|exact⟨_,_,_,rfl,h⟩)
noncomputable def zZ(v:bp)(k:Nat->Nat->Bool)(p3:Nat->Nat->Nat->Bool):Bool:=lu (match v with | .int c n => k c n | .q9 c m r => p3 c m r | _ => false)
def Qu{p3}(h:zZ v k p3):(∃c n,v=.int c n/\k c n)\/(∃c m r,v=.q9 c m r/\p3 c m r):=by cases v<;>first|(exact ci h)|exact .inl ⟨_,_,rfl,h⟩|exact .inr ⟨_,_,_,rfl,h⟩
noncomputable def ni(v:bp)(k:Bool->Bool):Bool:=lu (match v with | .bool b => k b | _ => false)
def AC{k}(h:ni v k):∃b,v=.bool b/\k b:=by cases v<;>first|(exact ci h)|simp_all[ni,lu,yv,zg]|(first|exact⟨_,rfl,h⟩|exact⟨_,_,rfl,h⟩|exact⟨_,_,_,_,rfl,h⟩|exact⟨_,_,_,_,_,_,rfl,h⟩|exact⟨_,_,_,rfl,h⟩)
noncomputable def hE(v:bp)(k:Nat->Nat->Bool):Bool:=lu (match v with | .str l n => k l n | _ => false)
def sL(h:hE v k):∃l n,v=.str l n/\k l n:=by cases v<;>first|(exact ci h)|grind[hE,lu,yv,zg]|(first|exact⟨_,rfl,h⟩|exact⟨_,_,rfl,h⟩|exact⟨_,_,_,_,rfl,h⟩|exact⟨_,_,_,_,_,_,rfl,h⟩|exact⟨_,_,_,rfl,h⟩)
noncomputable def sx(v:bp)(k:Nat->Nat->Nat->Nat->Bool):Bool:=lu (match v with | .ptr a r s z => k a r s z | _ => false)
def L6{k}(h:sx v k):∃a r s z,v=.ptr a r s z/\k a r s z:=by cases v<;>first|(exact ci h)|grind[sx,lu,yv,zg]|(first|exact⟨_,rfl,h⟩|exact⟨_,_,rfl,h⟩|exact⟨_,_,_,_,rfl,h⟩|exact⟨_,_,_,_,_,_,rfl,h⟩|exact⟨_,_,_,rfl,h⟩)
noncomputable def zV(v:bp)(k:Nat->Nat->Nat->Nat->Bool->Nat->Bool):Bool:=lu (match v with | .slice a i l c u z => k a i l c u z | _ => false)
def afc{k}(h:zV v k):∃a i l c u z,v=.slice a i l c u z/\k a i l c u z:=by cases v<;>first|(exact ci h)|grind[zV,lu,yv,zg]|(first|exact⟨_,rfl,h⟩|exact⟨_,_,rfl,h⟩|exact⟨_,_,_,_,rfl,h⟩|exact⟨_,_,_,_,_,_,rfl,h⟩|exact⟨_,_,_,rfl,h⟩)
noncomputable def ts(v:bp)(e5:Bool)(k:Nat->Nat->Nat->Nat->Bool->Nat->Bool):Bool:=lu (match v with | .slice a i l c u z => k a i l c u z | .nil c => Fp c e5 | _ => false)
def Ob{k}(h:ts v e5 k):(v=.nil .s/\e5)\/(∃a i l c u z,v=.slice a i l c u z/\k a i l c u z):=by cases v<;>first|(exact ci h)|(rename_i c;cases c<;>first|(exact ci h)|exact .inl ⟨rfl,h⟩)|exact .inr ⟨_,_,_,_,_,_,rfl,h⟩
noncomputable def agT(v:bp)(k:Nat->Bool):Bool:=lu (match v with | .map a => k a | _ => false)
noncomputable def C5(v:bp)(k:Nat->List bp->List bp->Bool):Bool:=lu (match v with | .fn f x y => k f x y | _ => false)
def ad1{k}(h:C5 v k=true):∃f x y,v=.fn f x y/\k f x y=true:=by cases v<;>first|(exact ci h)|grind[C5,lu,yv,zg]|(first|exact⟨_,rfl,h⟩|exact⟨_,_,rfl,h⟩|exact⟨_,_,_,_,rfl,h⟩|exact⟨_,_,_,_,_,_,rfl,h⟩|exact⟨_,_,_,rfl,h⟩)
noncomputable def Ea(v:bp)(k:Nat->bp->Bool):Bool:=lu (match v with | .iface t v => k t v | _ => false)
def aea{k}(h:Ea v k=true):∃t x,v=.iface t x/\k t x=true:=by cases v<;>first|(exact ci h)|exact⟨_,_,rfl,h⟩
noncomputable def KR(v:bp)(e5:Bool)(k:Nat->bp->Bool):Bool:=lu (match v with | .iface t v => k t v | .nil c => FP c e5 | _ => false)
def ahh{k}(h:KR v e5 k=true):(v=.nil .i/\e5=true)\/(∃t x,v=.iface t x/\k t x=true):=by cases v<;>first|(exact ci h)|(rename_i c;cases c<;>first|(exact ci h)|exact .inl ⟨rfl,h⟩)|exact .inr ⟨_,_,rfl,h⟩
noncomputable def rt(v:bp)(k:Nat->List bp->Bool):Bool:=lu (match v with | .agg n l => k n l | _ => false)
def LM{k}(h:rt v k=true):∃n l,v=.agg n l/\k n l=true:=by cases v<;>first|(exact ci h)|grind[rt,lu,yv,zg]|(first|exact⟨_,rfl,h⟩|exact⟨_,_,rfl,h⟩|exact⟨_,_,_,_,rfl,h⟩|exact⟨_,_,_,_,_,_,rfl,h⟩|exact⟨_,_,_,rfl,h⟩)
noncomputable def Cz(v:bp)(k:List bp->Bool):Bool:=lu (match v with | .gy l => k l | _ => false)
def al0{k}(h:Cz v k=true):∃l,v=.gy l/\k l=true:=by cases v<;>first|(exact ci h)|simp_all[Cz,lu,yv,zg]|(first|exact⟨_,rfl,h⟩|exact⟨_,_,rfl,h⟩|exact⟨_,_,_,_,rfl,h⟩|exact⟨_,_,_,_,_,_,rfl,h⟩|exact⟨_,_,_,rfl,h⟩)
noncomputable def rc(v:bp)(cv:Bool)(dW:Nat->List bp->Bool):Bool:=lu (match v with | .bool b => cv | .int c n => cv | .str l n => cv | .nil c => cv | .ptr a r s z => cv | .slice a i l c u z => cv | .map a => cv | .fn f x y => cv | .iface t v => cv | .pJ V => cv | .agg n l => dW n l | _ => false)
def bp.lQ:bp->Bool
 |.agg _ _|.gy _|.undef|.any|.q9 _ _ _=>false|_=>true
def aeU{cv dW}(h:rc v cv dW=true):(v.lQ=true/\cv=true)\/(∃n l,v=.agg n l/\dW n l=true):=by cases v<;>first|(exact ci h)|exact .inl ⟨rfl,h⟩|exact .inr ⟨_,_,rfl,h⟩
noncomputable def KP(v:bp)(zq:Bool->Bool)(zh:Bool):Bool:=lu (match v with | .bool b => zq b | .undef  => zh | _ => false)
def FN{zq zh}(h:KP v zq zh=true):(∃b,v=.bool b/\zq b=true)\/(v=.undef/\zh=true):=by cases v<;>first|(exact ci h)|exact .inl ⟨_,rfl,h⟩|exact .inr ⟨rfl,h⟩
noncomputable def Fs(v:bp)(oG nK:Bool):Bool:=lu (match v with | .nil c => O6 c oG | .ptr a r s z => nK | _ => false)
def XJ(h:Fs v oG nK=true):(v=.nil .p/\oG=true)\/((∃nF fc gv n5,v=.ptr nF fc gv n5)/\nK=true):=by cases v<;>first|(exact ci h)|(rename_i c;cases c<;>first|(exact ci h)|exact .inl ⟨rfl,h⟩)|exact .inr ⟨⟨_,_,_,_,rfl⟩,h⟩
noncomputable def Ei(v:bp)(oG nK:Bool):Bool:=lu (match v with | .nil c => Fp c oG | .slice a i l c u z => nK | _ => false)
def aaV(h:Ei v oG nK=true):(v=.nil .s/\oG=true)\/((∃nF fc gv n5 xq Sm,v=.slice nF fc gv n5 xq Sm)/\nK=true):=by cases v<;>first|(exact ci h)|(rename_i c;cases c<;>first|(exact ci h)|exact .inl ⟨rfl,h⟩)|exact .inr ⟨⟨_,_,_,_,_,_,rfl⟩,h⟩
noncomputable def E4(v:bp)(oG nK:Bool):Bool:=lu (match v with | .nil c => Nm c oG | .map a => nK | _ => false)
def acY(h:E4 v oG nK=true):(v=.nil .m/\oG=true)\/((∃nF,v=.map nF)/\nK=true):=by cases v<;>first|(exact ci h)|(rename_i c;cases c<;>first|(exact ci h)|exact .inl ⟨rfl,h⟩)|exact .inr ⟨⟨_,rfl⟩,h⟩
noncomputable def DS(v:bp)(oG nK:Bool):Bool:=lu (match v with | .nil c => NT c oG | .fn f x y => nK | _ => false)
def aeS(h:DS v oG nK=true):(v=.nil .f/\oG=true)\/((∃nF fc gv,v=.fn nF fc gv)/\nK=true):=by cases v<;>first|(exact ci h)|(rename_i c;cases c<;>first|(exact ci h)|exact .inl ⟨rfl,h⟩)|exact .inr ⟨⟨_,_,_,rfl⟩,h⟩
noncomputable def Eb(v:bp)(oG nK:Bool):Bool:=lu (match v with | .nil c => FP c oG | .iface t v => nK | _ => false)
def aeN(h:Eb v oG nK=true):(v=.nil .i/\oG=true)\/((∃nF fc,v=.iface nF fc)/\nK=true):=by cases v<;>first|(exact ci h)|(rename_i c;cases c<;>first|(exact ci h)|exact .inl ⟨rfl,h⟩)|exact .inr ⟨⟨_,_,rfl⟩,h⟩
noncomputable def C4(v:bp)(k:Bool):Bool:=lu (match v with | .ptr a r s z => k | .fn f x y => k | _ => false)
def afp{k}(h:C4 v k=true):((∃a r s z,v=.ptr a r s z)\/(∃f x y,v=.fn f x y))/\k=true:=by cases v<;>first|(exact ci h)|exact⟨.inl ⟨_,_,_,_,rfl⟩,h⟩|exact⟨.inr ⟨_,_,_,rfl⟩,h⟩
noncomputable def yG(B:gW)(k:Rows->Nat->Nat->Nat->Bool->Bool->Bool):Bool:=gW.rec (motive:=λ_=>Bool) false false (λax n z ak u ee=>k ax n z ak u ee) (λ_ _=>false) B
def Hi{B k}(h:yG B k=true):∃ax n z ak u ee,B=.cells ax n z ak u ee/\k ax n z ak u ee=true:=by cases B<;>first|(exact ci h)|exact⟨_,_,_,_,_,_,rfl,h⟩
noncomputable def apX(B:gW)(k:List (bp×bp×Nat)->Nat->Bool):Bool:=gW.rec (motive:=λ_=>Bool) false false (λ_ _ _ _ _ _=>false) (λes tp=>k es tp) B
noncomputable def SA(ax:Rows)(e5:List bp->Bool)(cT:db (List bp)->Bool)(cN:db (db (List bp))->Bool)(el:db (db (db (List bp)))->Bool)(nK:(Nat->List bp)->Nat->Bool):Bool:=Rows.rec (motive:=λ_=>Bool) e5 cT cN el nK ax
noncomputable def D0(H:bg)(k:Nat->tb->Bool):Bool:=bg.rec (motive:=λ_=>Bool) k H
@[simp] def asX(H:bg)(k:Nat->tb->Bool):D0 H k=k H.next H.t:=rfl
noncomputable def zM(r:r6)(FD a8:bp->Bool):Bool:=r6.rec (motive:=λ_=>Bool) FD a8 r
@[simp] def asS(v:bp)(FD a8:bp->Bool):zM (.val v) FD a8=FD v:=rfl
@[simp] def asC(v:bp)(FD a8:bp->Bool):zM (.nu v) FD a8=a8 v:=rfl
noncomputable def z3(x:X)(AD:Nat->Bool)(p3:Bool)(a8:bp->Bool):Bool:=match x with | .exit i => AD i | .ret => p3 | .panic v => a8 v
@[simp] def ath(i:Nat)(AD:Nat->Bool)(p3:Bool)(a8:bp->Bool):z3 (.exit i) AD p3 a8=AD i:=rfl
@[simp] def asG(AD:Nat->Bool)(p3:Bool)(a8:bp->Bool):z3 .ret AD p3 a8=p3:=rfl
@[simp] def auG(v:bp)(AD:Nat->Bool)(p3:Bool)(a8:bp->Bool):z3 (.panic v) AD p3 a8=a8 v:=rfl
noncomputable def rn{α:Type}(l:List α):Nat->(List α->Bool)->Bool:=
 List.rec (motive:=λ_=>Nat->(List α->Bool)->Bool) (λn k=>Nat.rec (motive:=λ_=>Bool) (k []) (λ_ _=>false) n)
  (λa _ bQ n k=>Nat.rec (motive:=λ_=>Bool) (k []) (λn _=>bQ n λr=>k (a::r)) n) l
noncomputable def o8{α:Type}(l:List α):Nat->(List α->Bool)->Bool:=
 List.rec (motive:=λ_=>Nat->(List α->Bool)->Bool) (λn k=>Nat.rec (motive:=λ_=>Bool) (k []) (λ_ _=>false) n)
  (λa l bQ n k=>Nat.rec (motive:=λ_=>Bool) (k (a::l)) (λn _=>bQ n k) n) l
noncomputable def L9{α:Type}(l:List α):Nat->Bool->Bool:=
 List.rec (motive:=λ_=>Nat->Bool->Bool) (λn k=>Nat.rec (motive:=λ_=>Bool) k (λ_ _=>false) n)
  (λ_ _ bQ n k=>Nat.rec (motive:=λ_=>Bool) false (λn _=>bQ n k) n) l
noncomputable def nL{α:Type}(l:List α):List α->(List α->Bool)->Bool:=
 List.rec (motive:=λ_=>List α->(List α->Bool)->Bool) (λm k=>k m) (λa _ bQ m k=>bQ m λr=>k (a::r)) l
noncomputable def GD(b:(ca->bg->Bool)->ca->bg->Bool)(n:Nat):ca->bg->Bool:=
 Nat.rec (motive:=λ_=>ca->bg->Bool) (λ_ _=>false) (λ_ bQ=>b bQ) n
noncomputable def MK(aU:Nat->(Nat->List bp->bg->(r6->bg->Bool)->Bool)->Nat->List bp->bg->(r6->bg->Bool)->Bool)(n:Nat):Nat->List bp->bg->(r6->bg->Bool)->Bool:=
 Nat.rec (motive:=λ_=>Nat->List bp->bg->(r6->bg->Bool)->Bool) (λ_ _ _ _=>false) (λn bQ=>aU n bQ) n
def HR{α:Type}:∀{l:List α}{n:Nat}{k:List α->Bool},rn l n k=true->n<=l.length/\k (l.take n)=true
 |[],0,_,h=>⟨fI _,h⟩|[],_+1,_,h=>ci h|a::l,0,_,h=>⟨qG _,h⟩
 |a::l,n+1,k,h=>by have⟨D,F⟩:=HR (l:=l) (n:=n) (k:=λr=>k (a::r)) h;simp_all
def C2{α:Type}:∀{l:List α}{n:Nat}{k:List α->Bool},o8 l n k=true->n<=l.length/\k (l.drop n)=true
 |[],0,_,h=>⟨fI _,h⟩|[],_+1,_,h=>ci h|a::l,0,_,h=>⟨qG _,h⟩
 |a::l,n+1,k,h=>by have⟨D,F⟩:=C2 (l:=l) (n:=n) (k:=k) h;simp_all
def SX{α:Type}:∀{l:List α}{n:Nat}{k:Bool},L9 l n k=true->l.length=n/\k=true
 |[],0,_,h=>⟨rfl,h⟩|[],_+1,_,h=>ci h|_::_,0,_,h=>ci h
 |_::l,n+1,k,h=>by have⟨D,F⟩:=SX (l:=l) (n:=n) (k:=k) h;simp_all
def q8{α:Type}:∀(l m:List α)(k:List α->Bool),nL l m k=k (l++m)
 |[],_,_=>rfl
 |a::l,m,k=>by have:=q8 l m (λr=>k (a::r));exact this
def ahX(b:(ca->bg->Bool)->ca->bg->Bool)(T:ca)(H:bg):GD b 0 T H=false:=rfl
def aaZ(b:(ca->bg->Bool)->ca->bg->Bool)(n:Nat)(T:ca)(H:bg):GD b (n+1) T H=b (GD b n) T H:=rfl
def L0(aU:Nat->(Nat->List bp->bg->(r6->bg->Bool)->Bool)->Nat->List bp->bg->(r6->bg->Bool)->Bool)(n:Nat):MK aU (n+1)=aU n (MK aU n):=rfl
structure Yq where
 aj:db (List bp)->List bp
 an:db (db (List bp))->List bp
 aM:db (db (db (List bp)))->List bp
 rv:db (List bp)->List bp->(db (List bp)->Bool)->Bool
 vl:db (db (List bp))->List bp->(db (db (List bp))->Bool)->Bool
 wN:db (db (db (List bp)))->List bp->(db (db (db (List bp)))->Bool)->Bool
def ap2(a bz:wa (List bp))(b ep:wa (db (List bp)))(c:wa (db (db (List bp)))):Yq:=
 match a,b,ep,c with
 |⟨dw,Dp⟩,⟨cQ,rG⟩,⟨_,_⟩,⟨eU,Vr⟩=>
  ⟨λt=>dw t,λt=>dw (cQ t),λt=>dw (cQ (eU t)),λt v k=>Dp t (λ_ k=>k v) k,λt v k=>rG t (λt k=>Dp t (λ_ k=>k v) k) k,
   λt v k=>Vr t (λt k=>rG t (λt k=>Dp t (λ_ k=>k v) k) k) k⟩
noncomputable def pP(i:Nat):Yq:=ap2 (bD (ea (i % 8))) (bD (ea (i % 8))) (bD (ea (i / 8 % 8))) (bD (ea (i / 8 % 8))) (bD (ea (i / 64 % 8)))
noncomputable def Tg(h:tb)(k:xE->(Nat->gW)->gW):gW:=tb.rec (motive:=λ_=>gW) (λt f=>k t f) h
noncomputable def UF(h:tb)(k:xE->(Nat->gW)->Bool):Bool:=tb.rec (motive:=λ_=>Bool) (λt f=>k t f) h
@[simp] def auP(t:xE)(f:Nat->gW)(k:xE->(Nat->gW)->gW):Tg ⟨t,f⟩ k=k t f:=rfl
@[simp] def auV(t:xE)(f:Nat->gW)(k:xE->(Nat->gW)->Bool):UF ⟨t,f⟩ k=k t f:=rfl
structure Pj where
 g:tb->gW
 u:tb->gW->(tb->Bool)->Bool
noncomputable def asc(a:wa gW)(b:wa (db gW))(c:wa (db (db gW)))(d:wa (db (db (db gW))))(e:wa (db (db (db (db gW))))):Pj:=
 match a,b,c,d,e with
 |⟨dw,Dp⟩,⟨cQ,rG⟩,⟨eU,Vr⟩,⟨ah,anN⟩,⟨es,aoY⟩=>⟨λh=>Tg h λt _=>dw (cQ (eU (ah (es t)))),λh v k=>UF h λt f=>aoY t (λt k=>anN t (λt k=>Vr t (λt k=>rG t (λt k=>Dp t (λ_ k=>k v) k) k) k) k) λt=>k ⟨t,f⟩⟩
noncomputable def apd(i:Nat):Pj:=⟨λh=>Tg h λ_ f=>f i,λh v k=>UF h λt f=>k ⟨t,λj=>match Nat.beq j i with|true=>v|false=>f j⟩⟩
noncomputable def bq(i:Nat):Pj:=match Nat.blt i 32768 with
 |true=>asc (bD (ea (i % 8))) (bD (ea (i / 8 % 8))) (bD (ea (i / 64 % 8))) (bD (ea (i / 512 % 8))) (bD (ea (i / 4096 % 8)))|false=>apd i
noncomputable def rowAt(ax:Rows)(i:Nat)(k:List bp->Bool):Bool:=
 SA ax (λr=>bd (Nat.beq i 0) (k r) false) (λt=>k ((pP i).aj t)) (λt=>k ((pP i).an t)) (λt=>k ((pP i).aM t)) (λg _=>k (g i))
noncomputable def setRow(ax:Rows)(i:Nat)(r:List bp)(k:Rows->Bool):Bool:=
 SA ax (λ_=>k (.fC r)) (λt=>(pP i).rv t r λt=>k (.dC t)) (λt=>(pP i).vl t r λt=>k (.b3 t)) (λt=>(pP i).wN t r λt=>k (.iQ t)) (λg c=>k (.nM (λj=>match Nat.beq j i with|true=>r|false=>g j) c))
noncomputable def y4(ax:Rows)(m:Nat):Nat->(List (List bp)->Bool)->Bool:=
 Nat.rec (motive:=λ_=>Nat->(List (List bp)->Bool)->Bool) (λ_ k=>k []) (λ_ bQ i k=>rowAt ax i λr=>bQ (Nat.succ i) λl=>k (r::l)) m
noncomputable def uI(l:List (List bp)):Rows->Nat->(Rows->Bool)->Bool:=
 List.rec (motive:=λ_=>Rows->Nat->(Rows->Bool)->Bool) (λax _ k=>k ax) (λr _ bQ ax i k=>setRow ax i r λax=>bQ ax (Nat.succ i) k) l
def ap4(ax:Rows)(m i:Nat)(k:List (List bp)->Bool):y4 ax (m+1) i k=rowAt ax i λr=>y4 ax m (Nat.succ i) λl=>k (r::l):=rfl
def arr(r:List bp)(l:List (List bp))(ax:Rows)(i:Nat)(k:Rows->Bool):uI (r::l) ax i k=setRow ax i r λax=>uI l ax (Nat.succ i) k:=rfl
end Go.Ev
namespace Go
abbrev aO := List Nat
abbrev dM := List (Option Nat)
abbrev jX := Option Nat
abbrev lS := List UInt8
abbrev lE := List Value
abbrev vR := List (List Value)
abbrev gT := List Oper
abbrev cx := List Ev.bp
abbrev p9 := List (List Ev.bp)
end Go
