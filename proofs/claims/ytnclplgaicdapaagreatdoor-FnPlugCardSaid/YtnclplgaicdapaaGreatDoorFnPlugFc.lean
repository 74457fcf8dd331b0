/- The law FnPlug: closed facts of its card. -/
import Derived.Test.YtnclplgaicdapaaGreatDoorTie
import Derived.Test.YtnclplgaicdapaaGreatDoorCards
import Derived.SevenTiedAt
import Derived.WalkKit
import Derived.ProofKit
namespace Go.Proofs.YtnclplgaicdapaaGreatDoor.fnPlug
open Go.ChangeShapes Go.WideShapes Go.ChangeAt Go.RowKit
set_option maxRecDepth 100000
theorem q1 : Rows.fnPlugRow.wfByText (OpenSpec.ofChange Rows.fnPlugSpec) = true := by kernel_rfl
theorem q2 : Tryz.pinned.checked.prog.mainIs = some (Rows.fnPlugCard.stood.harness.1, Rows.fnPlugCard.stood.harness.2.toList) := by kernel_rfl
theorem q3 : (!Rows.fnPlugCard.stood.harness.1 && Rows.fnPlugCard.stood.harness.2.isEmpty && !true) = false := by kernel_rfl
theorem q4 : Tryz.prog.funcNamed "loop.example/stint/laws.FnPlug" = some 6 := by kernel_rfl
theorem q5 : true = Tryz.pinned.checked.prog.looks [] := by kernel_rfl
theorem q6 : false = Rows.fnPlugRow.goesBy Tryz.pinned.checked.prog := by kernel_rfl
theorem s22 : Tryz.prog.wantsStandIn 22 = false := by kernel_rfl
end Go.Proofs.YtnclplgaicdapaaGreatDoor.fnPlug
