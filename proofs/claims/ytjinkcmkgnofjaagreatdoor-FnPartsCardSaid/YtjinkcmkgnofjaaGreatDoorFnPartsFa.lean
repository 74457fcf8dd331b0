/- The law FnParts: closed facts of its row. -/
import Derived.Test.YtjinkcmkgnofjaaGreatDoorRows
import Derived.WalkKit
import Derived.ProofKit
namespace Go.Proofs.YtjinkcmkgnofjaaGreatDoor.fnParts
open Go.ChangeShapes Go.WideShapes Go.ChangeAt Go.RowKit
set_option maxRecDepth 100000
theorem fact1 : Tryz.pinned.checked.prog.funcNamed Rows.fnPartsRow.func = some 4 := by kernel_rfl
theorem fact2 : joinedFacts Tryz.pinned.checked.prog 4 Tryz.f4 Rows.fnPartsSpec Rows.fnPartsRow = true := by kernel_rfl
theorem fact3 : Tryz.f4.isInstance Tryz.pinned.checked.prog Rows.fnPartsRow.origin Rows.fnPartsRow.targs := of_decide_eq_true (by kernel_rfl)
theorem fact4 : Tryz.f4.isWrapper Tryz.pinned.checked.prog Rows.fnPartsRow.wrapper Rows.fnPartsRow.mainSum := by unfold Func.isWrapper; first | (rw [if_pos (by decide +kernel)]; kernel_rfl) | (rw [if_neg (by decide +kernel)]; exact ⟨rfl, rfl⟩)
end Go.Proofs.YtjinkcmkgnofjaaGreatDoor.fnParts
