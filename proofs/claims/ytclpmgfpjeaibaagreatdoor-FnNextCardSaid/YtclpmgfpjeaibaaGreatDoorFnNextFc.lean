/- The law FnNext: closed facts of its card. -/
import Derived.Test.YtclpmgfpjeaibaaGreatDoorTie
import Derived.Test.YtclpmgfpjeaibaaGreatDoorCards
import Derived.SevenTiedAt
import Derived.WalkKit
import Derived.ProofKit
namespace Go.Proofs.YtclpmgfpjeaibaaGreatDoor.fnNext
open Go.ChangeShapes Go.WideShapes Go.ChangeAt Go.RowKit
set_option maxRecDepth 100000
theorem q1 : Rows.fnNextRow.wfByText (OpenSpec.ofChange Rows.fnNextSpec) = true := by kernel_rfl
theorem q2 : Tryz.pinned.checked.prog.mainIs = some (Rows.fnNextCard.stood.harness.1, Rows.fnNextCard.stood.harness.2.toList) := by kernel_rfl
theorem q3 : (!Rows.fnNextCard.stood.harness.1 && Rows.fnNextCard.stood.harness.2.isEmpty && !true) = false := by kernel_rfl
theorem q4 : Tryz.prog.funcNamed "loop.example/stint/laws.FnNext" = some 3 := by kernel_rfl
theorem q5 : true = Tryz.pinned.checked.prog.looks [] := by kernel_rfl
theorem q6 : false = Rows.fnNextRow.goesBy Tryz.pinned.checked.prog := by kernel_rfl
theorem s22 : Tryz.prog.wantsStandIn 22 = false := by kernel_rfl
end Go.Proofs.YtclpmgfpjeaibaaGreatDoor.fnNext
