/- The law FnExactWorldRun: closed facts of its card. -/
import Derived.Test.YthhmnlcimojhlaaGreatDoorTie
import Derived.Test.YthhmnlcimojhlaaGreatDoorCards
import Derived.SevenTiedAt
import Derived.WalkKit
import Derived.ProofKit
namespace Go.Proofs.YthhmnlcimojhlaaGreatDoor.fnExactWorldRun
open Go.ChangeShapes Go.WideShapes Go.ChangeAt Go.RowKit
set_option maxRecDepth 100000
theorem q1 : Rows.fnExactWorldRunRow.wfByText (OpenSpec.ofChange Rows.fnExactWorldRunSpec) = true := by kernel_rfl
theorem q2 : Tryz.pinned.checked.prog.mainIs = some (Rows.fnExactWorldRunCard.stood.harness.1, Rows.fnExactWorldRunCard.stood.harness.2.toList) := by kernel_rfl
theorem q3 : (!Rows.fnExactWorldRunCard.stood.harness.1 && Rows.fnExactWorldRunCard.stood.harness.2.isEmpty && !true) = false := by kernel_rfl
theorem q4 : Tryz.prog.funcNamed "loop.example/stint/laws.FnExactWorldRun" = some 10 := by kernel_rfl
theorem q5 : true = Tryz.pinned.checked.prog.looks [] := by kernel_rfl
theorem q6 : false = Rows.fnExactWorldRunRow.goesBy Tryz.pinned.checked.prog := by kernel_rfl
theorem s3 : Tryz.prog.wantsStandIn 3 = false := by kernel_rfl
theorem s26 : Tryz.prog.wantsStandIn 26 = false := by kernel_rfl
end Go.Proofs.YthhmnlcimojhlaaGreatDoor.fnExactWorldRun
