/- The law FnWake: closed facts of its row. -/
import Derived.Test.YtnclplgaicdapaaGreatDoorRows
import Derived.WalkKit
import Derived.ProofKit
namespace Go.Proofs.YtnclplgaicdapaaGreatDoor.fnWake
open Go.ChangeShapes Go.WideShapes Go.ChangeAt Go.RowKit
set_option maxRecDepth 100000
theorem fact1 : Tryz.pinned.checked.prog.funcNamed Rows.fnWakeRow.func = some 7 := by kernel_rfl
theorem fact2 : joinedFacts Tryz.pinned.checked.prog 7 Tryz.f7 Rows.fnWakeSpec Rows.fnWakeRow = true := by kernel_rfl
theorem fact3 : Tryz.f7.isInstance Tryz.pinned.checked.prog Rows.fnWakeRow.origin Rows.fnWakeRow.targs := of_decide_eq_true (by kernel_rfl)
theorem fact4 : Tryz.f7.isWrapper Tryz.pinned.checked.prog Rows.fnWakeRow.wrapper Rows.fnWakeRow.mainSum := by unfold Func.isWrapper; first | (rw [if_pos (by decide +kernel)]; kernel_rfl) | (rw [if_neg (by decide +kernel)]; exact ⟨rfl, rfl⟩)
end Go.Proofs.YtnclplgaicdapaaGreatDoor.fnWake
