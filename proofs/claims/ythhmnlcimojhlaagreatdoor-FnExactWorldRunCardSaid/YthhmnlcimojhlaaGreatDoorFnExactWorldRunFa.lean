/- The law FnExactWorldRun: closed facts of its row. -/
import Derived.Test.YthhmnlcimojhlaaGreatDoorRows
import Derived.WalkKit
import Derived.ProofKit
namespace Go.Proofs.YthhmnlcimojhlaaGreatDoor.fnExactWorldRun
open Go.ChangeShapes Go.WideShapes Go.ChangeAt Go.RowKit
set_option maxRecDepth 100000
theorem fact1 : Tryz.pinned.checked.prog.funcNamed Rows.fnExactWorldRunRow.func = some 10 := by kernel_rfl
theorem fact2 : joinedFacts Tryz.pinned.checked.prog 10 Tryz.f10 Rows.fnExactWorldRunSpec Rows.fnExactWorldRunRow = true := by kernel_rfl
theorem fact3 : Tryz.f10.isInstance Tryz.pinned.checked.prog Rows.fnExactWorldRunRow.origin Rows.fnExactWorldRunRow.targs := of_decide_eq_true (by kernel_rfl)
theorem fact4 : Tryz.f10.isWrapper Tryz.pinned.checked.prog Rows.fnExactWorldRunRow.wrapper Rows.fnExactWorldRunRow.mainSum := by unfold Func.isWrapper; first | (rw [if_pos (by decide +kernel)]; kernel_rfl) | (rw [if_neg (by decide +kernel)]; exact ⟨rfl, rfl⟩)
end Go.Proofs.YthhmnlcimojhlaaGreatDoor.fnExactWorldRun
