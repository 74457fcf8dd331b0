/- The law FnExactCpuOff: closed facts of its row. -/
import Derived.Test.YtajdcjidpolloaaGreatDoorRows
import Derived.WalkKit
import Derived.ProofKit
namespace Go.Proofs.YtajdcjidpolloaaGreatDoor.fnExactCpuOff
open Go.ChangeShapes Go.WideShapes Go.ChangeAt Go.RowKit
set_option maxRecDepth 100000
theorem fact1 : Tryz.pinned.checked.prog.funcNamed Rows.fnExactCpuOffRow.func = some 3 := by kernel_rfl
theorem fact2 : joinedFacts Tryz.pinned.checked.prog 3 Tryz.f3 Rows.fnExactCpuOffSpec Rows.fnExactCpuOffRow = true := by kernel_rfl
theorem fact3 : Tryz.f3.isInstance Tryz.pinned.checked.prog Rows.fnExactCpuOffRow.origin Rows.fnExactCpuOffRow.targs := of_decide_eq_true (by kernel_rfl)
theorem fact4 : Tryz.f3.isWrapper Tryz.pinned.checked.prog Rows.fnExactCpuOffRow.wrapper Rows.fnExactCpuOffRow.mainSum := by unfold Func.isWrapper; first | (rw [if_pos (by decide +kernel)]; kernel_rfl) | (rw [if_neg (by decide +kernel)]; exact ⟨rfl, rfl⟩)
end Go.Proofs.YtajdcjidpolloaaGreatDoor.fnExactCpuOff
