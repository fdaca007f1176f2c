/- Contracts of the library at this program. -/
import Derived.Shelf.Strings.Builder1
import Derived.Shelf.Strings.Builder2
import Derived.Shelf.Strings.OnBuilder
import Derived.Shelf.Small.Strs
import Derived.Shelf.Strconv.Itoa0
import Derived.Shelf.Strconv.Itoa1
import Derived.Shelf.LaysM
import Derived.Shelf.Strconv.Itoa2
import Derived.Shelf.Strconv.Itoa3
import Derived.Shelf.Strconv.Itoa4
import Derived.Shelf.Strings.Search1
import Derived.Shelf.Strings.Search2
import Derived.Shelf.Strings.Search3
import Derived.Shelf.Strings.Cut
import Derived.Shelf.Strings.Shaped
import Derived.Test.YtddaefckjmdfoaaGreatDoorProg
namespace Go.Proofs
open Tryz
theorem cs{α:Type _}{a b:α}(h:a=b:=by kernel_rfl):some a=some b:=congrArg some h
open Go.Shelf
def Tryz.lays156_ren:Go.Shelf.Ren:=⟨fun|156=>214|165=>280|166=>177|169=>178|240=>261|241=>312|276=>303|277=>327|n=>n,fun|31=>41|9=>9|3=>3|4=>4|0=>0|20=>20|72=>210|76=>213|70=>208|37=>162|75=>212|127=>256|164=>293|5=>5|80=>150|n=>n,fun|n=>n⟩
theorem Tryz.lays156:Go.Proofs.Lays.n156 Tryz.prog Tryz.lays156_ren:={
 mixed:=by kernel_rfl
 f156:=func214.trans cs
 f165:=func280.trans cs
 f166:=func177.trans cs
 f169:=func178.trans cs
 f240:=func261.trans cs
 f241:=func312.trans cs
 f276:=func303.trans cs
 f277:=func327.trans cs
 t0:=underlying0
 a0:=isAgg0
 z0:=sizeOf0
 v0:=zeroValue0
 t3:=underlying3
 a3:=isAgg3
 z3:=sizeOf3
 v3:=zeroValue3
 t4:=underlying4
 a4:=isAgg4
 z4:=sizeOf4
 v4:=zeroValue4
 t9:=underlying9
 a9:=isAgg9
 z9:=sizeOf9
 v9:=zeroValue9
 t20:=underlying20
 a20:=isAgg20
 z20:=sizeOf20
 v20:=zeroValue20
 t31:=underlying41
 a31:=isAgg41
 z31:=sizeOf41
 v31:=zeroValue41
 t37:=underlying162
 a37:=isAgg162
 z37:=sizeOf162
 v37:=zeroValue162
 t70:=underlying208
 a70:=isAgg208
 z70:=sizeOf208
 v70:=zeroValue208
 t72:=underlying210
 a72:=isAgg210
 z72:=sizeOf210
 v72:=zeroValue210
 t75:=underlying212
 a75:=isAgg212
 z75:=sizeOf212
 v75:=zeroValue212
 t76:=underlying213
 a76:=isAgg213
 z76:=sizeOf213
 v76:=zeroValue213
 t127:=underlying256
 a127:=isAgg256
 z127:=sizeOf256
 v127:=zeroValue256
 t164:=underlying293
 a164:=isAgg293
 z164:=sizeOf293
 v164:=zeroValue293}
theorem Tryz.Builder_Extra_156:Builder.Extra Tryz.prog Tryz.lays156_ren:={
 sizeBuilder:=by kernel_rfl
 liesBuilder:=by kernel_rfl
 t5:=underlying5
 a5:=isAgg5
 z5:=sizeOf5
 v5:=zeroValue5
 infoByte:=by kernel_rfl
 cellsByte:=by kernel_rfl
 sizeByte:=by kernel_rfl
 neB5:=by decide}
open Go.RowKit in
theorem Tryz.strings_Join_none (a:Option Addr) (c:Nat) (sep:ByteArray) (w:World):
 Calls Tryz.prog 214 #[.slice a 0 c,.string sep] w fun e w'=>e=.returned (.string ⟨#[]⟩)/\w'=w:=Any.strings_Join_none Tryz.lays156 Tryz.Builder_Extra_156 a c sep w
open Go.RowKit in
theorem Tryz.strings_Join (bk o c:Nat) (xs:List ByteArray) (sep:ByteArray) (w:World) (hcells:∀(j:Nat) x,xs[j]?=some x->w.cell? ⟨bk,o+j,none⟩=some (.string x)) (hbk:bk<w.heap.size) (hN:xs.length<=140737488355328) (hcap:xs.length<=c) (hlen:(Lib.join (xs.map (·.data.toList)) sep.data.toList).length<=140737488355328):
 Calls Tryz.prog 214 #[.slice (some ⟨bk,o,none⟩) xs.length c,.string sep] w fun e w'=>e=.returned (.string ⟨(Lib.join (xs.map (·.data.toList)) sep.data.toList).toArray⟩)/\Below w.heap.size w w':=Any.strings_Join Tryz.lays156 Tryz.Builder_Extra_156 bk o c xs sep w hcells hbk hN hcap hlen
def Tryz.laysM246_ren:Go.Shelf.Ren:=⟨fun|246=>211|283=>276|284=>277|285=>278|286=>279|129=>308|317=>307|318=>309|319=>310|320=>311|337=>325|338=>326|n=>n,fun|2=>2|3=>3|9=>9|4=>4|171=>263|0=>0|53=>264|37=>162|5=>5|173=>267|212=>297|51=>298|20=>20|213=>299|46=>300|232=>310|233=>311|n=>n,fun|17=>0|18=>2|19=>3|n=>n⟩
theorem Tryz.laysM246:Go.Proofs.LaysM.n246 Tryz.prog Tryz.laysM246_ren:={
 mixed:=by kernel_rfl
 f129:=func308.trans cs
 f246:=func211.trans cs
 f283:=func276.trans cs
 f284:=func277.trans cs
 f285:=func278.trans cs
 f286:=func279.trans cs
 f317:=func307.trans cs
 f318:=func309.trans cs
 f319:=func310.trans cs
 f320:=func311.trans cs
 f337:=func325.trans cs
 f338:=func326.trans cs
 t0:=underlying0
 a0:=isAgg0
 z0:=sizeOf0
 v0:=zeroValue0
 t2:=underlying2
 a2:=isAgg2
 z2:=sizeOf2
 v2:=zeroValue2
 t3:=underlying3
 a3:=isAgg3
 z3:=sizeOf3
 v3:=zeroValue3
 t4:=underlying4
 a4:=isAgg4
 z4:=sizeOf4
 v4:=zeroValue4
 t5:=underlying5
 a5:=isAgg5
 z5:=sizeOf5
 v5:=zeroValue5
 t9:=underlying9
 a9:=isAgg9
 z9:=sizeOf9
 v9:=zeroValue9
 t20:=underlying20
 a20:=isAgg20
 z20:=sizeOf20
 v20:=zeroValue20
 t37:=underlying162
 a37:=isAgg162
 z37:=sizeOf162
 v37:=zeroValue162
 t46:=underlying300
 a46:=isAgg300
 z46:=sizeOf300
 v46:=zeroValue300
 t51:=underlying298
 a51:=isAgg298
 z51:=sizeOf298
 v51:=zeroValue298
 t53:=underlying264
 a53:=isAgg264
 z53:=sizeOf264
 v53:=zeroValue264
 t171:=underlying263
 a171:=isAgg263
 z171:=sizeOf263
 v171:=zeroValue263
 t173:=underlying267
 a173:=isAgg267
 z173:=sizeOf267
 v173:=zeroValue267
 t212:=underlying297
 a212:=isAgg297
 z212:=sizeOf297
 v212:=zeroValue297
 t213:=underlying299
 a213:=isAgg299
 z213:=sizeOf299
 t232:=underlying310
 a232:=isAgg310
 z232:=sizeOf310
 v232:=zeroValue310
 t233:=underlying311
 a233:=isAgg311
 z233:=sizeOf311
 v233:=zeroValue311
 g17:=by kernel_rfl
 g18:=by kernel_rfl
 g19:=by kernel_rfl
 i0:=by kernel_rfl
 i2:=by kernel_rfl
 i3:=by kernel_rfl
 i4:=by kernel_rfl
 i5:=by kernel_rfl
 i9:=by kernel_rfl
 i20:=by kernel_rfl
 i37:=by kernel_rfl
 i46:=by kernel_rfl
 i51:=by kernel_rfl
 i53:=by kernel_rfl
 i171:=by kernel_rfl
 i173:=by kernel_rfl
 i212:=by kernel_rfl
 i232:=by kernel_rfl
 i233:=by kernel_rfl
 m17:=by kernel_rfl
 m18:=by kernel_rfl
 m19:=by kernel_rfl}
open Go.RowKit Go.Sort Go.Lib in
theorem Tryz.internal_strconv_FormatInt_10 (n:Int) (h0: -9223372036854775808<=n) (h1:n<=9223372036854775807) (w:World) (htab:Lib.TabIs Tryz.prog w "internal/strconv.uint64pow10" .u64 Lib.pow10Tab):
 Calls Tryz.prog 211 #[.int .i64 n,.int .i64 10] w fun e w'=>e=.returned (.string ⟨(Lib.itoa n).toArray⟩)/\∃k os,w'=grow (w.drewN k) os:=Any.internal_strconv_FormatInt_10 Tryz.laysM246 n h0 h1 w htab
def Tryz.laysM171_ren:Go.Shelf.Ren:=⟨fun|171=>58|243=>176|246=>211|283=>276|284=>277|285=>278|286=>279|129=>308|317=>307|318=>309|319=>310|320=>311|337=>325|338=>326|n=>n,fun|3=>3|9=>9|2=>2|4=>4|171=>263|0=>0|53=>264|37=>162|5=>5|173=>267|212=>297|51=>298|20=>20|213=>299|46=>300|232=>310|233=>311|n=>n,fun|17=>0|18=>2|19=>3|n=>n⟩
theorem Tryz.laysM171:Go.Proofs.LaysM.n171 Tryz.prog Tryz.laysM171_ren:={
 mixed:=by kernel_rfl
 f129:=func308.trans cs
 f171:=func58.trans cs
 f243:=func176.trans cs
 f246:=func211.trans cs
 f283:=func276.trans cs
 f284:=func277.trans cs
 f285:=func278.trans cs
 f286:=func279.trans cs
 f317:=func307.trans cs
 f318:=func309.trans cs
 f319:=func310.trans cs
 f320:=func311.trans cs
 f337:=func325.trans cs
 f338:=func326.trans cs
 t0:=underlying0
 a0:=isAgg0
 z0:=sizeOf0
 v0:=zeroValue0
 t2:=underlying2
 a2:=isAgg2
 z2:=sizeOf2
 v2:=zeroValue2
 t3:=underlying3
 a3:=isAgg3
 z3:=sizeOf3
 v3:=zeroValue3
 t4:=underlying4
 a4:=isAgg4
 z4:=sizeOf4
 v4:=zeroValue4
 t5:=underlying5
 a5:=isAgg5
 z5:=sizeOf5
 v5:=zeroValue5
 t9:=underlying9
 a9:=isAgg9
 z9:=sizeOf9
 v9:=zeroValue9
 t20:=underlying20
 a20:=isAgg20
 z20:=sizeOf20
 v20:=zeroValue20
 t37:=underlying162
 a37:=isAgg162
 z37:=sizeOf162
 v37:=zeroValue162
 t46:=underlying300
 a46:=isAgg300
 z46:=sizeOf300
 v46:=zeroValue300
 t51:=underlying298
 a51:=isAgg298
 z51:=sizeOf298
 v51:=zeroValue298
 t53:=underlying264
 a53:=isAgg264
 z53:=sizeOf264
 v53:=zeroValue264
 t171:=underlying263
 a171:=isAgg263
 z171:=sizeOf263
 v171:=zeroValue263
 t173:=underlying267
 a173:=isAgg267
 z173:=sizeOf267
 v173:=zeroValue267
 t212:=underlying297
 a212:=isAgg297
 z212:=sizeOf297
 v212:=zeroValue297
 t213:=underlying299
 a213:=isAgg299
 z213:=sizeOf299
 t232:=underlying310
 a232:=isAgg310
 z232:=sizeOf310
 v232:=zeroValue310
 t233:=underlying311
 a233:=isAgg311
 z233:=sizeOf311
 v233:=zeroValue311
 g17:=by kernel_rfl
 g18:=by kernel_rfl
 g19:=by kernel_rfl
 i0:=by kernel_rfl
 i2:=by kernel_rfl
 i3:=by kernel_rfl
 i4:=by kernel_rfl
 i5:=by kernel_rfl
 i9:=by kernel_rfl
 i20:=by kernel_rfl
 i37:=by kernel_rfl
 i46:=by kernel_rfl
 i51:=by kernel_rfl
 i53:=by kernel_rfl
 i171:=by kernel_rfl
 i173:=by kernel_rfl
 i212:=by kernel_rfl
 i232:=by kernel_rfl
 i233:=by kernel_rfl
 m17:=by kernel_rfl
 m18:=by kernel_rfl
 m19:=by kernel_rfl}
open Go.RowKit Go.Sort Go.Lib in
theorem Tryz.strconv_Itoa (n:Int) (h0: -9223372036854775808<=n) (h1:n<=9223372036854775807) (w:World) (htab:Lib.TabIs Tryz.prog w "internal/strconv.uint64pow10" .u64 Lib.pow10Tab):
 Calls Tryz.prog 58 #[.int .i64 n] w fun e w'=>e=.returned (.string ⟨(Lib.itoa n).toArray⟩)/\∃k os,w'=grow (w.drewN k) os:=Any.strconv_Itoa Tryz.laysM171 n h0 h1 w htab
def Tryz.lays217_ren:Go.Shelf.Ren:=⟨fun|217=>264|266=>304|n=>n,fun|9=>9|5=>5|3=>3|n=>n,fun|n=>n⟩
theorem Tryz.lays217:Go.Proofs.Lays.n217 Tryz.prog Tryz.lays217_ren:={
 mixed:=by kernel_rfl
 f217:=func264.trans cs
 f266:=func304.trans cs
 t3:=underlying3
 a3:=isAgg3
 z3:=sizeOf3
 v3:=zeroValue3
 t5:=underlying5
 a5:=isAgg5
 z5:=sizeOf5
 v5:=zeroValue5
 t9:=underlying9
 a9:=isAgg9
 z9:=sizeOf9
 v9:=zeroValue9}
open Go.RowKit Go.Lib in
theorem Tryz.stringslite_IndexByte (s:ByteArray) (c:Int) (w:World):
 Calls Tryz.prog 264 #[.string s,.int .u8 c] w fun e w'=>e=.returned (.int .i64 (Lib.indexByte s.data.toList c.toNat.toUInt8))/\w'=w:=Any.stringslite_IndexByte Tryz.lays217 s c w
def Tryz.lays219_ren:Go.Shelf.Ren:=⟨fun|219=>313|217=>264|225=>328|224=>329|267=>330|266=>304|314=>337|n=>n,fun|9=>9|3=>3|4=>4|5=>5|46=>300|146=>312|51=>298|n=>n,fun|1=>1|n=>n⟩
theorem Tryz.lays219:Go.Proofs.Lays.n219 Tryz.prog Tryz.lays219_ren:={
 mixed:=by kernel_rfl
 f217:=func264.trans cs
 f219:=func313.trans cs
 f224:=func329.trans cs
 f225:=func328.trans cs
 f266:=func304.trans cs
 f267:=func330.trans cs
 f314:=func337.trans cs
 t3:=underlying3
 a3:=isAgg3
 z3:=sizeOf3
 v3:=zeroValue3
 t4:=underlying4
 a4:=isAgg4
 z4:=sizeOf4
 v4:=zeroValue4
 t5:=underlying5
 a5:=isAgg5
 z5:=sizeOf5
 v5:=zeroValue5
 t9:=underlying9
 a9:=isAgg9
 z9:=sizeOf9
 v9:=zeroValue9
 t46:=underlying300
 a46:=isAgg300
 z46:=sizeOf300
 v46:=zeroValue300
 t51:=underlying298
 a51:=isAgg298
 z51:=sizeOf298
 v51:=zeroValue298
 t146:=underlying312
 a146:=isAgg312
 z146:=sizeOf312
 v146:=zeroValue312
 g1:=by kernel_rfl}
open Go.RowKit Go.Lib in
theorem Tryz.stringslite_Index (s sub:ByteArray) (m:Int) (w:World) (hs:s.size<4294967281) (hm:w.cell? ⟨1,0,none⟩=some (.int .i64 m)):
 Calls Tryz.prog 313 #[.string s,.string sub] w fun e w'=>e=.returned (.int .i64 (Lib.index s.data.toList sub.data.toList))/\w'=w:=Any.stringslite_Index Tryz.lays219 s sub m w hs hm
def Tryz.laysM219_ren:Go.Shelf.Ren:=⟨fun|219=>313|217=>264|225=>328|224=>329|267=>330|266=>304|314=>337|n=>n,fun|9=>9|3=>3|4=>4|5=>5|46=>300|146=>312|51=>298|n=>n,fun|1=>1|n=>n⟩
theorem Tryz.laysM219:Go.Proofs.LaysM.n219 Tryz.prog Tryz.laysM219_ren:={
 mixed:=by kernel_rfl
 f217:=func264.trans cs
 f219:=func313.trans cs
 f224:=func329.trans cs
 f225:=func328.trans cs
 f266:=func304.trans cs
 f267:=func330.trans cs
 f314:=func337.trans cs
 t3:=underlying3
 a3:=isAgg3
 z3:=sizeOf3
 v3:=zeroValue3
 t4:=underlying4
 a4:=isAgg4
 z4:=sizeOf4
 v4:=zeroValue4
 t5:=underlying5
 a5:=isAgg5
 z5:=sizeOf5
 v5:=zeroValue5
 t9:=underlying9
 a9:=isAgg9
 z9:=sizeOf9
 v9:=zeroValue9
 t46:=underlying300
 a46:=isAgg300
 z46:=sizeOf300
 v46:=zeroValue300
 t51:=underlying298
 a51:=isAgg298
 z51:=sizeOf298
 v51:=zeroValue298
 t146:=underlying312
 a146:=isAgg312
 z146:=sizeOf312
 v146:=zeroValue312
 g1:=by kernel_rfl
 i3:=by kernel_rfl
 i4:=by kernel_rfl
 i5:=by kernel_rfl
 i9:=by kernel_rfl
 i46:=by kernel_rfl
 i51:=by kernel_rfl
 i146:=by kernel_rfl
 m1:=by kernel_rfl
 s1_3:=fun w h=>Go.Proofs.cell_of_shapedOpen_int (zero:= #[.int .i64 0]) (t:=3) h (of_decide_eq_true (by kernel_rfl)) (by kernel_rfl) rfl (by kernel_rfl) (by kernel_rfl) Tryz.underlying3}
end Go.Proofs
