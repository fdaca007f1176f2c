/- Part of the proof of PrinterLines. -/
import Derived.Test.YtddaefckjmdfoaaGreatDoorProg
import Derived.WalkKit
import Derived.ProofKit
import Derived.WalkMore
import Derived.ScopeJumps
import Derived.RegionTactic
import Derived.ChangeAlike
import Derived.Deep.RegionWith
import Derived.Deep.TreeCalls
import Derived.Deep.QuietTactic
import Derived.BigQuiet
import Derived.Below
import Derived.OneCell
import Derived.Test.YtddaefckjmdfoaaGreatDoorShelf
import Derived.Test.YtddaefckjmdfoaaGreatDoorW1
import Derived.Test.YtddaefckjmdfoaaGreatDoorE10
set_option linter.all false
namespace Go.Tx
open Go Go.Ev Go.ChangeShapes Go.WideShapes Go.ChangeAt Go.RowKit Go.Deep Go.Proofs
theorem drew_below(w:World)(n:Nat):Below w.heap.size w (w.drewN n):=⟨rfl,rfl,rfl,Nat.le_refl _,λ_ _=>rfl⟩
theorem mod_walk(x m:Int)(w:World)(hm:0<m)(hm2:m<9223372036854775808):
 Calls Tryz.prog 20 #[.int .i64 x,.int .i64 m] w λe w'=>e=.returned (.int .i64 (x % m))/\w'=w:=by
 go_enter Tryz.func20,Tryz.ntmps20
 go_wp2
 .have h:Int.tmod x m<0:=by assumption
  have e:=tmod_neg h hm
  have h0:=Int.emod_nonneg x (by omega:m≠0)
  have h1:=Int.emod_lt_of_pos x hm
  have ew:wrap64 (Int.tmod x m+m)=x % m:=by rw[e];unfold wrap64;omega
  rw[ew]
  go_ret
  exact⟨rfl,rfl⟩
 .have h:0<=Int.tmod x m:=by assumption
  rw[aqO (by omega) hm]
  go_ret
  exact⟨rfl,rfl⟩
theorem light_walk(ao:Option Addr)(len cap:Nat)(w:World):
 Calls Tryz.prog 4 #[.slice ao len cap] w λe w'=>e=.returned (.bool (decide ((len:Int)<=700)))/\w'=w:=by
 go_enter Tryz.func4,Tryz.ntmps4
 go_wp2
 go_ret
 exact⟨rfl,rfl⟩
set_option maxHeartbeats 1600000 in
set_option maxRecDepth 1000000 in
theorem left_walk(b:Nat)(ao:Option Addr)(len cap:Nat)(i:Int)(w:World)(h0:w.cell? ⟨b,0,none⟩=some (.slice ao len cap))(h1:w.cell? ⟨b,1,none⟩=some (.int .i64 i)):
 Calls Tryz.prog 19 #[.pointer (some ⟨b,0,none⟩)] w λe w'=>e=.returned (.bool (decide (i<(len:Int))))/\∃n,w'=w.drewN n:=by
 go_enter Tryz.func19,Tryz.ntmps19
 go_wp2_with fail
 go_quiet (fail)
 go_wp2_with fail
 go_ret
 exact⟨rfl,nq,rfl⟩
set_option maxHeartbeats 1600000 in
set_option maxRecDepth 1000000 in
theorem next_end(b:Nat)(ao:Option Addr)(len cap:Nat)(i n:Int)(w:World)(h0:w.cell? ⟨b,0,none⟩=some (.slice ao len cap))(h1:w.cell? ⟨b,1,none⟩=some (.int .i64 i))(aH:(len:Int)<=i):
 Calls Tryz.prog 8 #[.pointer (some ⟨b,0,none⟩),.int .i64 n] w λe w'=>e=.returned (.int .i64 0)/\∃n,w'=w.drewN n:=by
 have hl:=left_walk b ao len cap i w h0 h1
 rw[decide_eq_false (by omega)] at hl
 go_enter Tryz.func8,Tryz.ntmps8
 go_wp2_with (go_at_call 19;refine hl.mono ?_;rintro e dg ⟨rfl,nq,rfl⟩)
 go_ret
 exact⟨rfl,nq,rfl⟩
set_option maxHeartbeats 1600000 in
set_option maxRecDepth 1000000 in
theorem next_mid(b:Nat)(a:Addr)(len cap:Nat)(i n x:Int)(w:World)(h0:w.cell? ⟨b,0,none⟩=some (.slice (some a) len cap))(h1:w.cell? ⟨b,1,none⟩=some (.int .i64 i))(hfr:w.frozen? ⟨b,1,none⟩=false)(hab:a.block≠b)(hx:w.cell? (a.add i.toNat)=some (.int .i64 x))(hi0:0<=i)(aH:i<(len:Int))(hl:(len:Int)<=100000)(hn:0<n)(hn2:n<9223372036854775808):
 Calls Tryz.prog 8 #[.pointer (some ⟨b,0,none⟩),.int .i64 n] w λe w'=>e=.returned (.int .i64 (x % n))/\∃k k',w'=((w.drewN k).setCell ⟨b,1,none⟩ (.int .i64 (i+1))).drewN k':=by
 have hleft:=left_walk b (some a) len cap i w h0 h1
 rw[decide_eq_true aH] at hleft
 go_enter Tryz.func8,Tryz.ntmps8
 go_wp2_with (first|(go_at_call 19;refine hleft.mono ?_;rintro e dg ⟨rfl,nq,rfl⟩)|fail)
 have hP:∀w':World,w'=((w.drewN nq).setCell ⟨b,1,none⟩ (.int .i64 (i+1)))->w'.cell? ⟨b,0,none⟩=some (.slice (some a) len cap)/\w'.cell? ⟨b,1,none⟩=some (.int .i64 (i+1))/\w'.cell? (a.add i.toNat)=some (.int .i64 x):=by
  rintro w' rfl
  refine⟨?_,?_,?_⟩
  .exact(World.cell?_setCell_other _ _ _ _ (by intro e;cases e)).trans h0
  .exact World.cell?_setCell_same _ _ _ (show(w.drewN nq).cell? ⟨b,1,none⟩=some (.int .i64 i) from h1)
  .have c9:(a.add i.toNat).block=a.block:=by unfold Addr.add;split<;>rfl
   have e4:(⟨b,1,none⟩:Addr)≠a.add i.toNat:=λe=>hab (by rw[<-c9,<-e])
   exact(World.cell?_setCell_other _ _ _ _ e4).trans hx
 generalize hW:(w.drewN nq).setCell ⟨b,1,none⟩ (.int .i64 (i+1))=W1 at*
 obtain⟨c0,c1,c2⟩:=hP W1 rfl
 obtain⟨k0,hk0⟩:∃k0,(w.drewN k0).setCell ⟨b,1,none⟩ (.int .i64 (i+1))=W1:=⟨_,hW⟩
 have hi2:(0:Int)<=i+1 - 1:=by omega
 have hi3:i+1 - 1<(len:Int):=by omega
 go_quiet ((go_at_call 20;refine Calls.quiet_of_same (mod_walk _ n _ hn hn2)))
 go_wp2
 go_ret
 exact⟨rfl,k0,nq,by rw[hk0]⟩
theorem fmt_walk(n:Int)(w:World)(h0: -9223372036854775808<=n)(h1:n<=9223372036854775807)(htab:Lib.TabIs Tryz.prog w "internal/strconv.uint64pow10" .u64 Lib.pow10Tab):
 Calls Tryz.prog 97 #[.int .i64 n,.int .i64 10] w λe w'=>e=.returned (.string ⟨(Lib.itoa n).toArray⟩)/\∃k os,w'=Go.Sort.grow (w.drewN k) os:=by
 go_enter Tryz.func97,Tryz.ntmps97
 go_wp2_with (go_at_call 211;refine(Tryz.internal_strconv_FormatInt_10 n h0 h1 _ htab).mono ?_;rintro e w' ⟨rfl,k,os,rfl⟩)
 go_ret
 exact⟨rfl,k,os,rfl⟩
set_option maxHeartbeats 2000000 in
set_option maxRecDepth 100000 in
theorem str_walk(b g cap:Nat)(N:Value)(l:List UInt8)(cur:Array Value)(w:World)(hbk:w.heap[b]?=some (.cells #[N,.slice (some ⟨g,0,none⟩) l.length cap] 210 (0,0)))(hg:w.heap[g]?=some (.cells cur 5 (0,0)))(h0:l≠[])(hnc:l.length<=cap)(hcm:l.length<=2147483647)(hcs:cur.size=cap)(htake:∀(M:Nat) x,l[M]?=some x->cur[M]?=some (.int .u8 x.toNat)):
 Calls Tryz.prog 178 #[.pointer (some ⟨b,0,none⟩)] w λe w'=>e=.returned (.string ⟨l.toArray⟩)/\∃k,w'=(w.drewN k).freeze ⟨g,0,none⟩ l.length:=by
 have hl0:l.length≠0:=by simpa using h0
 have c1:w.drew.cell? ⟨b,1,none⟩=some (.slice (some ⟨g,0,none⟩) l.length cap):=by
  have:w.drew.heap[b]?=some (.cells #[N,.slice (some ⟨g,0,none⟩) l.length cap] 210 (0,0)):=hbk
  rw[Lib.cell_of_heap this];rfl
 have hSD:(Builtin.unsafeSliceData_ #[162] 256 #[.slice (some ⟨g,0,none⟩) l.length cap]).run Tryz.prog w.drew=.ok (.pointer (some ⟨g,0,none⟩)) w.drew:=
  Lib.run_unsafeSliceData_row _ _ _ _ _ _ (by omega)
 have hUS:(Builtin.unsafeString_ #[256,3] 9 #[.pointer (some ⟨g,0,none⟩),.int .i64 l.length]).run Tryz.prog w.drew=.ok (.string ⟨l.toArray⟩) (w.drew.freeze ⟨g,0,none⟩ l.length):=by
  refine Lib.run_unsafeString_row w.drew 256 3 9 5 Tryz.underlying256 (by kernel_rfl) g cur.size (by have hg':w.drew.heap[g]?=some (.cells cur 5 (0,0)):=hg;simp [World.shape?,hg']) l h0 (by omega) (by omega) ?_
  intro M x hx
  have hg':w.drew.heap[g]?=some (.cells cur 5 (0,0)):=hg
  have e:(⟨g,0,none⟩:Addr).add M=⟨g,M,none⟩:=by unfold Addr.add;simp;omega
  rw[e,Lib.cell_of_heap hg']
  exact htake M x hx
 have mixed:Tryz.prog.follows .mixedOrders=true:=by kernel_rfl
 go_enter Tryz.func178,Tryz.ntmps178
 go_wp2
 go_region_o
 all_goals(go_wp2;go_ret;exact⟨rfl,1,rfl⟩)
set_option maxHeartbeats 2000000 in
set_option maxRecDepth 100000 in
theorem str_walk0(b:Nat)(N:Value)(w:World)(hbk:w.heap[b]?=some (.cells #[N,.slice none 0 0] 210 (0,0))):
 Calls Tryz.prog 178 #[.pointer (some ⟨b,0,none⟩)] w λe w'=>e=.returned (.string ⟨#[]⟩)/\∃k,w'=w.drewN k:=by
 have c1:w.drew.cell? ⟨b,1,none⟩=some (.slice none 0 0):=by
  have:w.drew.heap[b]?=some (.cells #[N,.slice none 0 0] 210 (0,0)):=hbk
  rw[Lib.cell_of_heap this];rfl
 have hSD:(Builtin.unsafeSliceData_ #[162] 256 #[.slice none 0 0]).run Tryz.prog w.drew=.ok (.pointer none) w.drew:=rfl
 have hUS:∀(W:World)(q:Option Addr),(Builtin.unsafeString_ #[256,3] 9 #[.pointer q,.int .i64 0]).run Tryz.prog W=.ok (.string .empty) W:=λW q=>Lib.run_unsafeString_none W _ _ _ q
 have mixed:Tryz.prog.follows .mixedOrders=true:=by kernel_rfl
 go_enter Tryz.func178,Tryz.ntmps178
 go_wp2
 go_region_o
 all_goals(go_wp2;go_ret;exact⟨rfl,1,rfl⟩)
end Go.Tx
