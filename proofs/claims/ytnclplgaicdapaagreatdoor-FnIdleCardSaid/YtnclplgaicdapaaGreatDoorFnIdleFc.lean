/- The law FnIdle: closed facts of its card. -/
import Derived.Test.YtnclplgaicdapaaGreatDoorTie
import Derived.Test.YtnclplgaicdapaaGreatDoorCards
import Derived.SevenTiedAt
import Derived.WalkKit
import Derived.ProofKit
namespace Go.Proofs.YtnclplgaicdapaaGreatDoor.fnIdle
open Go.ChangeShapes Go.WideShapes Go.ChangeAt Go.RowKit
set_option maxRecDepth 100000
theorem q1 : Rows.fnIdleRow.wfByText (OpenSpec.ofChange Rows.fnIdleSpec) = true := by kernel_rfl
theorem q2 : Tryz.pinned.checked.prog.mainIs = some (Rows.fnIdleCard.stood.harness.1, Rows.fnIdleCard.stood.harness.2.toList) := by kernel_rfl
theorem q3 : (!Rows.fnIdleCard.stood.harness.1 && Rows.fnIdleCard.stood.harness.2.isEmpty && !true) = false := by kernel_rfl
theorem q4 : Tryz.prog.funcNamed "loop.example/stint/laws.FnIdle" = some 9 := by kernel_rfl
theorem q5 : true = Tryz.pinned.checked.prog.looks [] := by kernel_rfl
theorem q6 : false = Rows.fnIdleRow.goesBy Tryz.pinned.checked.prog := by kernel_rfl
theorem s22 : Tryz.prog.wantsStandIn 22 = false := by kernel_rfl
end Go.Proofs.YtnclplgaicdapaaGreatDoor.fnIdle
