/- The law FnFork: closed facts of its row. -/
import Derived.Test.YtnclplgaicdapaaGreatDoorRows
import Derived.WalkKit
import Derived.ProofKit
namespace Go.Proofs.YtnclplgaicdapaaGreatDoor.fnFork
open Go.ChangeShapes Go.WideShapes Go.ChangeAt Go.RowKit
set_option maxRecDepth 100000
theorem fact1 : Tryz.pinned.checked.prog.funcNamed Rows.fnForkRow.func = some 8 := by kernel_rfl
theorem fact2 : joinedFacts Tryz.pinned.checked.prog 8 Tryz.f8 Rows.fnForkSpec Rows.fnForkRow = true := by kernel_rfl
theorem fact3 : Tryz.f8.isInstance Tryz.pinned.checked.prog Rows.fnForkRow.origin Rows.fnForkRow.targs := of_decide_eq_true (by kernel_rfl)
theorem fact4 : Tryz.f8.isWrapper Tryz.pinned.checked.prog Rows.fnForkRow.wrapper Rows.fnForkRow.mainSum := by unfold Func.isWrapper; first | (rw [if_pos (by decide +kernel)]; kernel_rfl) | (rw [if_neg (by decide +kernel)]; exact ⟨rfl, rfl⟩)
end Go.Proofs.YtnclplgaicdapaaGreatDoor.fnFork
