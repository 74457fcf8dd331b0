/- The law FnExactTaskNice: closed facts of its row. -/
import Derived.Test.YtjjdgognjpmipaaGreatDoorRows
import Derived.WalkKit
import Derived.ProofKit
namespace Go.Proofs.YtjjdgognjpmipaaGreatDoor.fnExactTaskNice
open Go.ChangeShapes Go.WideShapes Go.ChangeAt Go.RowKit
set_option maxRecDepth 100000
theorem fact1 : Tryz.pinned.checked.prog.funcNamed Rows.fnExactTaskNiceRow.func = some 4 := by kernel_rfl
theorem fact2 : joinedFacts Tryz.pinned.checked.prog 4 Tryz.f4 Rows.fnExactTaskNiceSpec Rows.fnExactTaskNiceRow = true := by kernel_rfl
theorem fact3 : Tryz.f4.isInstance Tryz.pinned.checked.prog Rows.fnExactTaskNiceRow.origin Rows.fnExactTaskNiceRow.targs := of_decide_eq_true (by kernel_rfl)
theorem fact4 : Tryz.f4.isWrapper Tryz.pinned.checked.prog Rows.fnExactTaskNiceRow.wrapper Rows.fnExactTaskNiceRow.mainSum := by unfold Func.isWrapper; first | (rw [if_pos (by decide +kernel)]; kernel_rfl) | (rw [if_neg (by decide +kernel)]; exact ⟨rfl, rfl⟩)
end Go.Proofs.YtjjdgognjpmipaaGreatDoor.fnExactTaskNice
