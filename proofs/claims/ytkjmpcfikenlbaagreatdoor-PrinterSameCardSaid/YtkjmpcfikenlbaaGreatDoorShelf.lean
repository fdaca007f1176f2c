/- Contracts of the library at this program. -/
import Derived.Shelf.Strings.Builder1
import Derived.Shelf.Strings.Builder2
import Derived.Shelf.Small.Strs
import Derived.Shelf.Strconv.Itoa0
import Derived.Shelf.Strconv.Itoa1
import Derived.Shelf.LaysM
import Derived.Shelf.Strconv.Itoa2
import Derived.Shelf.Strconv.Itoa3
import Derived.Shelf.Strings.Search1
import Derived.Shelf.Strings.Search2
import Derived.Shelf.Strings.Search3
import Derived.Shelf.Strings.Cut
import Derived.Shelf.Strings.Shaped
import Derived.Test.YtkjmpcfikenlbaaGreatDoorProg
namespace Go.Proofs
open Tryz
theorem cs{α:Type _}{a b:α}(h:a=b:=by kernel_rfl):some a=some b:=congrArg some h
open Go.Shelf
def Tryz.lays217_ren:Go.Shelf.Ren:=⟨fun|217=>276|266=>299|n=>n, fun|9=>9|5=>5|3=>3|n=>n, fun|n=>n⟩
theorem Tryz.lays217:Go.Proofs.Lays.n217 Tryz.prog Tryz.lays217_ren:={
 mixed:=by kernel_rfl
 f217 :=func276.trans cs
 f266 :=func299.trans cs
 t3 :=underlying3
 a3 :=isAgg3
 z3 :=sizeOf3
 v3 :=zeroValue3
 t5 :=underlying5
 a5 :=isAgg5
 z5 :=sizeOf5
 v5 :=zeroValue5
 t9 :=underlying9
 a9 :=isAgg9
 z9 :=sizeOf9
 v9 :=zeroValue9 }
open Go.RowKit Go.Lib in
theorem Tryz.stringslite_IndexByte (s:ByteArray) (c:Int) (w:World) :
  Calls Tryz.prog 276 #[.string s, .int .u8 c] w fun e w'=>e = .returned (.int .i64 (Lib.indexByte s.data.toList c.toNat.toUInt8))/\w' = w:=Any.stringslite_IndexByte Tryz.lays217 s c w
def Tryz.lays219_ren:Go.Shelf.Ren:=⟨fun|219=>290|217=>276|225=>307|224=>308|267=>309|266=>299|314=>315|n=>n, fun|9=>9|3=>3|4=>4|5=>5|46=>290|146=>304|51=>288|n=>n, fun|1=>1|n=>n⟩
theorem Tryz.lays219:Go.Proofs.Lays.n219 Tryz.prog Tryz.lays219_ren:={
 mixed:=by kernel_rfl
 f217 :=func276.trans cs
 f219 :=func290.trans cs
 f224 :=func308.trans cs
 f225 :=func307.trans cs
 f266 :=func299.trans cs
 f267 :=func309.trans cs
 f314 :=func315.trans cs
 t3 :=underlying3
 a3 :=isAgg3
 z3 :=sizeOf3
 v3 :=zeroValue3
 t4 :=underlying4
 a4 :=isAgg4
 z4 :=sizeOf4
 v4 :=zeroValue4
 t5 :=underlying5
 a5 :=isAgg5
 z5 :=sizeOf5
 v5 :=zeroValue5
 t9 :=underlying9
 a9 :=isAgg9
 z9 :=sizeOf9
 v9 :=zeroValue9
 t46 :=underlying290
 a46 :=isAgg290
 z46 :=sizeOf290
 v46 :=zeroValue290
 t51 :=underlying288
 a51 :=isAgg288
 z51 :=sizeOf288
 v51 :=zeroValue288
 t146 :=underlying304
 a146 :=isAgg304
 z146 :=sizeOf304
 v146 :=zeroValue304
 g1:=by kernel_rfl }
open Go.RowKit Go.Lib in
theorem Tryz.stringslite_Index (s sub:ByteArray) (m:Int) (w:World) (hs:s.size < 4294967281) (hm:w.cell? ⟨1, 0, none⟩ = some (.int .i64 m)) :
  Calls Tryz.prog 290 #[.string s, .string sub] w fun e w'=>e = .returned (.int .i64 (Lib.index s.data.toList sub.data.toList))/\w' = w:=Any.stringslite_Index Tryz.lays219 s sub m w hs hm
def Tryz.laysM219_ren:Go.Shelf.Ren:=⟨fun|219=>290|217=>276|225=>307|224=>308|267=>309|266=>299|314=>315|n=>n, fun|9=>9|3=>3|4=>4|5=>5|46=>290|146=>304|51=>288|n=>n, fun|1=>1|n=>n⟩
theorem Tryz.laysM219:Go.Proofs.LaysM.n219 Tryz.prog Tryz.laysM219_ren:={
 mixed:=by kernel_rfl
 f217 :=func276.trans cs
 f219 :=func290.trans cs
 f224 :=func308.trans cs
 f225 :=func307.trans cs
 f266 :=func299.trans cs
 f267 :=func309.trans cs
 f314 :=func315.trans cs
 t3 :=underlying3
 a3 :=isAgg3
 z3 :=sizeOf3
 v3 :=zeroValue3
 t4 :=underlying4
 a4 :=isAgg4
 z4 :=sizeOf4
 v4 :=zeroValue4
 t5 :=underlying5
 a5 :=isAgg5
 z5 :=sizeOf5
 v5 :=zeroValue5
 t9 :=underlying9
 a9 :=isAgg9
 z9 :=sizeOf9
 v9 :=zeroValue9
 t46 :=underlying290
 a46 :=isAgg290
 z46 :=sizeOf290
 v46 :=zeroValue290
 t51 :=underlying288
 a51 :=isAgg288
 z51 :=sizeOf288
 v51 :=zeroValue288
 t146 :=underlying304
 a146 :=isAgg304
 z146 :=sizeOf304
 v146 :=zeroValue304
 g1:=by kernel_rfl
 i3:=by kernel_rfl
 i4:=by kernel_rfl
 i5:=by kernel_rfl
 i9:=by kernel_rfl
 i46:=by kernel_rfl
 i51:=by kernel_rfl
 i146:=by kernel_rfl
 m1:=by kernel_rfl
 s1_3:=fun w h=>Go.Proofs.cell_of_shapedOpen_int (zero:=#[.int .i64 0]) (t:=3) h (of_decide_eq_true (by kernel_rfl)) (by kernel_rfl) rfl (by kernel_rfl) (by kernel_rfl) Tryz.underlying3 }
end Go.Proofs
