/- The law FnExactTaskFork: closed facts of its row. -/
import Derived.Test.YthhmnlcimojhlaaGreatDoorRows
import Derived.WalkKit
import Derived.ProofKit
namespace Go.Proofs.YthhmnlcimojhlaaGreatDoor.fnExactTaskFork
open Go.ChangeShapes Go.WideShapes Go.ChangeAt Go.RowKit
set_option maxRecDepth 100000
theorem fact1 : Tryz.pinned.checked.prog.funcNamed Rows.fnExactTaskForkRow.func = some 7 := by kernel_rfl
theorem fact2 : joinedFacts Tryz.pinned.checked.prog 7 Tryz.f7 Rows.fnExactTaskForkSpec Rows.fnExactTaskForkRow = true := by kernel_rfl
theorem fact3 : Tryz.f7.isInstance Tryz.pinned.checked.prog Rows.fnExactTaskForkRow.origin Rows.fnExactTaskForkRow.targs := of_decide_eq_true (by kernel_rfl)
theorem fact4 : Tryz.f7.isWrapper Tryz.pinned.checked.prog Rows.fnExactTaskForkRow.wrapper Rows.fnExactTaskForkRow.mainSum := by unfold Func.isWrapper; first | (rw [if_pos (by decide +kernel)]; kernel_rfl) | (rw [if_neg (by decide +kernel)]; exact ⟨rfl, rfl⟩)
end Go.Proofs.YthhmnlcimojhlaaGreatDoor.fnExactTaskFork
