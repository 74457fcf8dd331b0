/- The law FnPlug: closed facts of its row. -/
import Derived.Test.YtnclplgaicdapaaGreatDoorRows
import Derived.WalkKit
import Derived.ProofKit
namespace Go.Proofs.YtnclplgaicdapaaGreatDoor.fnPlug
open Go.ChangeShapes Go.WideShapes Go.ChangeAt Go.RowKit
set_option maxRecDepth 100000
theorem fact1 : Tryz.pinned.checked.prog.funcNamed Rows.fnPlugRow.func = some 6 := by kernel_rfl
theorem fact2 : joinedFacts Tryz.pinned.checked.prog 6 Tryz.f6 Rows.fnPlugSpec Rows.fnPlugRow = true := by kernel_rfl
theorem fact3 : Tryz.f6.isInstance Tryz.pinned.checked.prog Rows.fnPlugRow.origin Rows.fnPlugRow.targs := of_decide_eq_true (by kernel_rfl)
theorem fact4 : Tryz.f6.isWrapper Tryz.pinned.checked.prog Rows.fnPlugRow.wrapper Rows.fnPlugRow.mainSum := by unfold Func.isWrapper; first | (rw [if_pos (by decide +kernel)]; kernel_rfl) | (rw [if_neg (by decide +kernel)]; exact ⟨rfl, rfl⟩)
end Go.Proofs.YtnclplgaicdapaaGreatDoor.fnPlug
