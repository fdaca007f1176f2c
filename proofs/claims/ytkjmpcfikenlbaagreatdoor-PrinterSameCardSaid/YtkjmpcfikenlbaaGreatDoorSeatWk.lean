/- A part. -/
import Derived.Test.YtkjmpcfikenlbaaGreatDoorProg
import Derived.WalkKit
import Derived.ProofKit
import Derived.WalkMore
import Derived.ScopeJumps
import Derived.RegionTactic
import Derived.ChangeAlike
import Derived.Deep.RegionWith
import Derived.Deep.TreeCalls
import Derived.Deep.QuietTactic
import Derived.BigQuiet
import Derived.Below
import Derived.OneCell
import Derived.Test.YtkjmpcfikenlbaaGreatDoorE10
set_option linter.all false
namespace Go.Tx
open Go Go.Ev Go.ChangeShapes Go.WideShapes Go.ChangeAt Go.RowKit Go.Deep Go.Proofs
theorem drew_below(w:World)(n:Nat):Below w.heap.size w (w.drewN n):=⟨rfl,rfl,rfl,Nat.le_refl _,λ_ _=>rfl⟩
theorem mod_walk(x m:Int)(w:World)(hm:0<m)(Ig:m<9223372036854775808):
 Calls Tryz.prog 23 #[.int .i64 x,.int .i64 m] w λe w'=>e=.returned (.int .i64 (x % m))/\w'=w:=by
 go_enter Tryz.func23,Tryz.ntmps23
 go_wp2
 .have h:Int.tmod x m<0:=by assumption
  have e:=tmod_neg h hm
  have h0:=Int.emod_nonneg x (by omega:m≠0)
  have h1:=Int.emod_lt_of_pos x hm
  have ew:wrap64 (Int.tmod x m+m)=x % m:=by rw[e];unfold wrap64;omega
  rw[ew]
  go_ret
  exact⟨rfl,rfl⟩
 .have h:0<=Int.tmod x m:=by assumption
  rw[atE (by omega) hm]
  go_ret
  exact⟨rfl,rfl⟩
theorem light_walk(ao:Option Addr)(len cap:Nat)(w:World):
 Calls Tryz.prog 4 #[.slice ao len cap] w λe w'=>e=.returned (.bool (decide ((len:Int)<=700)))/\w'=w:=by
 go_enter Tryz.func4,Tryz.ntmps4
 go_wp2
 go_ret
 exact⟨rfl,rfl⟩
set_option maxHeartbeats 1600000 in
set_option maxRecDepth 1000000 in
theorem left_walk(b:Nat)(ao:Option Addr)(len cap:Nat)(i:Int)(w:World)(h0:w.cell? ⟨b,0,none⟩=some (.slice ao len cap))(h1:w.cell? ⟨b,1,none⟩=some (.int .i64 i)):
 Calls Tryz.prog 22 #[.pointer (some ⟨b,0,none⟩)] w λe w'=>e=.returned (.bool (decide (i<(len:Int))))/\∃n,w'=w.drewN n:=by
 go_enter Tryz.func22,Tryz.ntmps22
 go_wp2_with fail
 go_quiet (fail)
 go_wp2_with fail
 go_ret
 exact⟨rfl,nq,rfl⟩
set_option maxHeartbeats 1600000 in
set_option maxRecDepth 1000000 in
theorem next_end(b:Nat)(ao:Option Addr)(len cap:Nat)(i n:Int)(w:World)(h0:w.cell? ⟨b,0,none⟩=some (.slice ao len cap))(h1:w.cell? ⟨b,1,none⟩=some (.int .i64 i))(aN:(len:Int)<=i):
 Calls Tryz.prog 8 #[.pointer (some ⟨b,0,none⟩),.int .i64 n] w λe w'=>e=.returned (.int .i64 0)/\∃n,w'=w.drewN n:=by
 have hl:=left_walk b ao len cap i w h0 h1
 rw[decide_eq_false (by omega)]at hl
 go_enter Tryz.func8,Tryz.ntmps8
 go_wp2_with (go_at_call 22;refine hl.mono ?_;rintro e ef ⟨rfl,nq,rfl⟩)
 go_ret
 exact⟨rfl,nq,rfl⟩
set_option maxHeartbeats 1600000 in
set_option maxRecDepth 1000000 in
theorem next_mid(b:Nat)(a:Addr)(len cap:Nat)(i n x:Int)(w:World)(h0:w.cell? ⟨b,0,none⟩=some (.slice (some a) len cap))(h1:w.cell? ⟨b,1,none⟩=some (.int .i64 i))(hfr:w.frozen? ⟨b,1,none⟩=false)(hab:a.block≠b)(hx:w.cell? (a.add i.toNat)=some (.int .i64 x))(hi0:0<=i)(aN:i<(len:Int))(hl:(len:Int)<=100000)(hn:0<n)(hn2:n<9223372036854775808):
 Calls Tryz.prog 8 #[.pointer (some ⟨b,0,none⟩),.int .i64 n] w λe w'=>e=.returned (.int .i64 (x % n))/\∃k k',w'=((w.drewN k).setCell ⟨b,1,none⟩ (.int .i64 (i+1))).drewN k':=by
 have hleft:=left_walk b (some a) len cap i w h0 h1
 rw[decide_eq_true aN]at hleft
 go_enter Tryz.func8,Tryz.ntmps8
 go_wp2_with (first|(go_at_call 22;refine hleft.mono ?_;rintro e ef ⟨rfl,nq,rfl⟩)|fail)
 have hP:∀w':World,w'=((w.drewN nq).setCell ⟨b,1,none⟩ (.int .i64 (i+1)))->w'.cell? ⟨b,0,none⟩=some (.slice (some a) len cap)/\w'.cell? ⟨b,1,none⟩=some (.int .i64 (i+1))/\w'.cell? (a.add i.toNat)=some (.int .i64 x):=by
  rintro w' rfl
  refine⟨?_,?_,?_⟩
  .exact(World.cell?_setCell_other _ _ _ _ (by intro e;cases e)).trans h0
  .exact World.cell?_setCell_same _ _ _ (show(w.drewN nq).cell? ⟨b,1,none⟩=some (.int .i64 i)from h1)
  .have cW:(a.add i.toNat).block=a.block:=by unfold Addr.add;split<;>rfl
   have e4:(⟨b,1,none⟩:Addr)≠a.add i.toNat:=λe=>hab (by rw[<-cW,<-e])
   exact(World.cell?_setCell_other _ _ _ _ e4).trans hx
 generalize hW:(w.drewN nq).setCell ⟨b,1,none⟩ (.int .i64 (i+1))=W1 at*
 obtain⟨c0,c1,c2⟩:=hP W1 rfl
 obtain⟨k0,hk0⟩:∃k0,(w.drewN k0).setCell ⟨b,1,none⟩ (.int .i64 (i+1))=W1:=⟨_,hW⟩
 have hi2:(0:Int)<=i+1 - 1:=by omega
 have hi3:i+1 - 1<(len:Int):=by omega
 go_quiet ((go_at_call 23;refine Calls.quiet_of_same (mod_walk _ n _ hn hn2)))
 go_wp2
 go_ret
 exact⟨rfl,k0,nq,by rw[hk0]⟩
end Go.Tx
