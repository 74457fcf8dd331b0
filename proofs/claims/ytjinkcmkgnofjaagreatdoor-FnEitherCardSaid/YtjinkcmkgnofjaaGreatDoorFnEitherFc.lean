/- The law FnEither: closed facts of its card. -/
import Derived.Test.YtjinkcmkgnofjaaGreatDoorTie
import Derived.Test.YtjinkcmkgnofjaaGreatDoorCards
import Derived.SevenTiedAt
import Derived.WalkKit
import Derived.ProofKit
namespace Go.Proofs.YtjinkcmkgnofjaaGreatDoor.fnEither
open Go.ChangeShapes Go.WideShapes Go.ChangeAt Go.RowKit
set_option maxRecDepth 100000
theorem q1 : Rows.fnEitherRow.wfByText (OpenSpec.ofChange Rows.fnEitherSpec) = true := by kernel_rfl
theorem q2 : Tryz.pinned.checked.prog.mainIs = some (Rows.fnEitherCard.stood.harness.1, Rows.fnEitherCard.stood.harness.2.toList) := by kernel_rfl
theorem q3 : (!Rows.fnEitherCard.stood.harness.1 && Rows.fnEitherCard.stood.harness.2.isEmpty && !true) = false := by kernel_rfl
theorem q4 : Tryz.prog.funcNamed "loop.example/stint/laws.FnEither" = some 3 := by kernel_rfl
theorem q5 : true = Tryz.pinned.checked.prog.looks [] := by kernel_rfl
theorem q6 : false = Rows.fnEitherRow.goesBy Tryz.pinned.checked.prog := by kernel_rfl
theorem s22 : Tryz.prog.wantsStandIn 22 = false := by kernel_rfl
end Go.Proofs.YtjinkcmkgnofjaaGreatDoor.fnEither
