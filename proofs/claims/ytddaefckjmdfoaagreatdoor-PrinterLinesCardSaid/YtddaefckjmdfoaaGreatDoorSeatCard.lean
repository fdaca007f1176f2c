/- For every list of numbers PrinterLines returns true and leaves its argument as it was; the listed package variables start as the program text lays them. No condition. -/
import Derived.Test.YtddaefckjmdfoaaGreatDoorSeatProof
import Derived.Test.YtddaefckjmdfoaaGreatDoorSeatGo
set_option linter.all false
namespace Go.Proofs.YtddaefckjmdfoaaGreatDoor
open Go Go.Ev Go.Tx Go.ChangeShapes Go.WideShapes Go.ChangeAt Go.RowKit
theorem card_holds:Rows.PrinterLinesCardSaid:=
 Claim7.holds_tied_plain_at .later [] [.data,.data,.data,.sentinel,.sentinel] true Rows.printerLinesCard.stood.harness true
  row_holds (λ_ h=>by cases h) (by kernel_rfl) (λ_ h=>by cases h) printerLines_row_tie rfl ⟨rfl,rfl⟩ (by kernel_rfl) rfl
  (λf fn hf hfn=>by
   obtain rfl:f=3:=Option.some.inj ((show Tryz.prog.funcNamed Rows.printerLinesRow.func=some 3 by kernel_rfl).symm.trans hf)|>.symm
   obtain rfl:fn=Tryz.f3:=(Option.some.inj (Tryz.func3.symm.trans hfn)).symm
   exact⟨by kernel_rfl,λM t al=>by
    rw[Tryz.params3] at al
    have hm:t∈[22]:=by simpa using Array.mem_of_getElem? al
    have hall:([22].all λu=> !Tryz.prog.wantsStandIn u)=true:=by kernel_rfl
    exact(show Tryz.prog.wantsStandIn t=false by simpa using List.all_eq_true.1 hall t hm)⟩)
  goes_by
end Go.Proofs.YtddaefckjmdfoaaGreatDoor
