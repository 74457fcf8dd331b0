/- The law FnStay: closed facts of its row. -/
import Derived.Test.YtclpmgfpjeaibaaGreatDoorRows
import Derived.WalkKit
import Derived.ProofKit
namespace Go.Proofs.YtclpmgfpjeaibaaGreatDoor.fnStay
open Go.ChangeShapes Go.WideShapes Go.ChangeAt Go.RowKit
set_option maxRecDepth 100000
theorem fact1 : Tryz.pinned.checked.prog.funcNamed Rows.fnStayRow.func = some 4 := by kernel_rfl
theorem fact2 : joinedFacts Tryz.pinned.checked.prog 4 Tryz.f4 Rows.fnStaySpec Rows.fnStayRow = true := by kernel_rfl
theorem fact3 : Tryz.f4.isInstance Tryz.pinned.checked.prog Rows.fnStayRow.origin Rows.fnStayRow.targs := of_decide_eq_true (by kernel_rfl)
theorem fact4 : Tryz.f4.isWrapper Tryz.pinned.checked.prog Rows.fnStayRow.wrapper Rows.fnStayRow.mainSum := by unfold Func.isWrapper; first | (rw [if_pos (by decide +kernel)]; kernel_rfl) | (rw [if_neg (by decide +kernel)]; exact ⟨rfl, rfl⟩)
end Go.Proofs.YtclpmgfpjeaibaaGreatDoor.fnStay
