/- The law FnExactCpuOn: closed facts of its row. -/
import Derived.Test.YthhmnlcimojhlaaGreatDoorRows
import Derived.WalkKit
import Derived.ProofKit
namespace Go.Proofs.YthhmnlcimojhlaaGreatDoor.fnExactCpuOn
open Go.ChangeShapes Go.WideShapes Go.ChangeAt Go.RowKit
set_option maxRecDepth 100000
theorem fact1 : Tryz.pinned.checked.prog.funcNamed Rows.fnExactCpuOnRow.func = some 6 := by kernel_rfl
theorem fact2 : joinedFacts Tryz.pinned.checked.prog 6 Tryz.f6 Rows.fnExactCpuOnSpec Rows.fnExactCpuOnRow = true := by kernel_rfl
theorem fact3 : Tryz.f6.isInstance Tryz.pinned.checked.prog Rows.fnExactCpuOnRow.origin Rows.fnExactCpuOnRow.targs := of_decide_eq_true (by kernel_rfl)
theorem fact4 : Tryz.f6.isWrapper Tryz.pinned.checked.prog Rows.fnExactCpuOnRow.wrapper Rows.fnExactCpuOnRow.mainSum := by unfold Func.isWrapper; first | (rw [if_pos (by decide +kernel)]; kernel_rfl) | (rw [if_neg (by decide +kernel)]; exact ⟨rfl, rfl⟩)
end Go.Proofs.YthhmnlcimojhlaaGreatDoor.fnExactCpuOn
