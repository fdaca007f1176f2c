/- Part of the proof of PrinterLines. -/
import Derived.Test.YtddaefckjmdfoaaGreatDoorCards
import Derived.SevenTiedAt
import Derived.KernelRfl
set_option linter.all false
namespace Go.Proofs.YtddaefckjmdfoaaGreatDoor
open Go
theorem goes_by:false=Rows.printerLinesRow.goesBy Tryz.pinned.checked.prog:=by kernel_rfl
end Go.Proofs.YtddaefckjmdfoaaGreatDoor
