/- Part of the proof of PrinterLines. -/
import Derived.Test.YtddaefckjmdfoaaGreatDoorProg
import Derived.Test.YtddaefckjmdfoaaGreatDoorT6
import Derived.Test.YtddaefckjmdfoaaGreatDoorE10
set_option linter.all false
namespace Go.Tx
open Go Go.Ev Go.Proofs
theorem mixed:Tryz.prog.follows .mixedOrders=true:=by kernel_rfl
theorem named:oV Tryz.prog:=are (by kernel_rfl)
theorem awake_run:UH (LA Tryz.prog) iZ (acT 264 313) 100000 5 [] yD (λr _=>Rr r)=true:=by kernel_rfl
end Go.Tx
