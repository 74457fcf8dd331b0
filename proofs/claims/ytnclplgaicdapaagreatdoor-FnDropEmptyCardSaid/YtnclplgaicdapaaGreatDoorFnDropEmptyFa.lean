/- The law FnDropEmpty: closed facts of its row. -/
import Derived.Test.YtnclplgaicdapaaGreatDoorRows
import Derived.WalkKit
import Derived.ProofKit
namespace Go.Proofs.YtnclplgaicdapaaGreatDoor.fnDropEmpty
open Go.ChangeShapes Go.WideShapes Go.ChangeAt Go.RowKit
set_option maxRecDepth 100000
theorem fact1 : Tryz.pinned.checked.prog.funcNamed Rows.fnDropEmptyRow.func = some 5 := by kernel_rfl
theorem fact2 : joinedFacts Tryz.pinned.checked.prog 5 Tryz.f5 Rows.fnDropEmptySpec Rows.fnDropEmptyRow = true := by kernel_rfl
theorem fact3 : Tryz.f5.isInstance Tryz.pinned.checked.prog Rows.fnDropEmptyRow.origin Rows.fnDropEmptyRow.targs := of_decide_eq_true (by kernel_rfl)
theorem fact4 : Tryz.f5.isWrapper Tryz.pinned.checked.prog Rows.fnDropEmptyRow.wrapper Rows.fnDropEmptyRow.mainSum := by unfold Func.isWrapper; first | (rw [if_pos (by decide +kernel)]; kernel_rfl) | (rw [if_neg (by decide +kernel)]; exact ⟨rfl, rfl⟩)
end Go.Proofs.YtnclplgaicdapaaGreatDoor.fnDropEmpty
