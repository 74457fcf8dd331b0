/- The law FnEither: closed facts of its row. -/
import Derived.Test.YtjinkcmkgnofjaaGreatDoorRows
import Derived.WalkKit
import Derived.ProofKit
namespace Go.Proofs.YtjinkcmkgnofjaaGreatDoor.fnEither
open Go.ChangeShapes Go.WideShapes Go.ChangeAt Go.RowKit
set_option maxRecDepth 100000
theorem fact1 : Tryz.pinned.checked.prog.funcNamed Rows.fnEitherRow.func = some 3 := by kernel_rfl
theorem fact2 : joinedFacts Tryz.pinned.checked.prog 3 Tryz.f3 Rows.fnEitherSpec Rows.fnEitherRow = true := by kernel_rfl
theorem fact3 : Tryz.f3.isInstance Tryz.pinned.checked.prog Rows.fnEitherRow.origin Rows.fnEitherRow.targs := of_decide_eq_true (by kernel_rfl)
theorem fact4 : Tryz.f3.isWrapper Tryz.pinned.checked.prog Rows.fnEitherRow.wrapper Rows.fnEitherRow.mainSum := by unfold Func.isWrapper; first | (rw [if_pos (by decide +kernel)]; kernel_rfl) | (rw [if_neg (by decide +kernel)]; exact ⟨rfl, rfl⟩)
end Go.Proofs.YtjinkcmkgnofjaaGreatDoor.fnEither
