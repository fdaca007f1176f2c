/- PrinterSame is proved, in the strong form of its tied card, for every list of numbers and every position, without a condition. The other texts of this claim are its parts. -/
import Derived.Test.YtkjmpcfikenlbaaGreatDoorSeatProof
import Derived.Test.YtkjmpcfikenlbaaGreatDoorSeatGo
set_option linter.all false
namespace Go.Proofs.YtkjmpcfikenlbaaGreatDoor
open Go Go.Ev Go.Tx Go.ChangeShapes Go.WideShapes Go.ChangeAt Go.RowKit
theorem card_holds:Rows.PrinterSameCardSaid:=
 Claim7.holds_tied_plain_at .later [] [.data,.data,.data,.sentinel,.sentinel] true Rows.printerSameCard.stood.harness true
  row_holds (λ_ h=>by cases h) (by kernel_rfl) (λ_ h=>by cases h) printerSame_row_tie rfl ⟨rfl,rfl⟩ (by kernel_rfl) rfl
  (λf fn hf hfn=>by
   obtain rfl:f=3:=Option.some.inj ((show Tryz.prog.funcNamed Rows.printerSameRow.func=some 3 by kernel_rfl).symm.trans hf)|>.symm
   obtain rfl:fn=Tryz.f3:=(Option.some.inj (Tryz.func3.symm.trans hfn)).symm
   exact⟨by kernel_rfl,λj t au=>by
    rw[Tryz.params3]at au
    have hm:t∈[22,3]:=by simpa using Array.mem_of_getElem? au
    have hall:([22,3].all λu=> !Tryz.prog.wantsStandIn u)=true:=by kernel_rfl
    exact(show Tryz.prog.wantsStandIn t=false by simpa using List.all_eq_true.1 hall t hm)⟩)
  goes_by
end Go.Proofs.YtkjmpcfikenlbaaGreatDoor
