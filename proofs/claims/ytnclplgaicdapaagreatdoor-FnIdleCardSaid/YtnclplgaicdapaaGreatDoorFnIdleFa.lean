/- The law FnIdle: closed facts of its row. -/
import Derived.Test.YtnclplgaicdapaaGreatDoorRows
import Derived.WalkKit
import Derived.ProofKit
namespace Go.Proofs.YtnclplgaicdapaaGreatDoor.fnIdle
open Go.ChangeShapes Go.WideShapes Go.ChangeAt Go.RowKit
set_option maxRecDepth 100000
theorem fact1 : Tryz.pinned.checked.prog.funcNamed Rows.fnIdleRow.func = some 9 := by kernel_rfl
theorem fact2 : joinedFacts Tryz.pinned.checked.prog 9 Tryz.f9 Rows.fnIdleSpec Rows.fnIdleRow = true := by kernel_rfl
theorem fact3 : Tryz.f9.isInstance Tryz.pinned.checked.prog Rows.fnIdleRow.origin Rows.fnIdleRow.targs := of_decide_eq_true (by kernel_rfl)
theorem fact4 : Tryz.f9.isWrapper Tryz.pinned.checked.prog Rows.fnIdleRow.wrapper Rows.fnIdleRow.mainSum := by unfold Func.isWrapper; first | (rw [if_pos (by decide +kernel)]; kernel_rfl) | (rw [if_neg (by decide +kernel)]; exact ⟨rfl, rfl⟩)
end Go.Proofs.YtnclplgaicdapaaGreatDoor.fnIdle
