/- The law FnStay: closed facts of its card. -/
import Derived.Test.YtclpmgfpjeaibaaGreatDoorTie
import Derived.Test.YtclpmgfpjeaibaaGreatDoorCards
import Derived.SevenTiedAt
import Derived.WalkKit
import Derived.ProofKit
namespace Go.Proofs.YtclpmgfpjeaibaaGreatDoor.fnStay
open Go.ChangeShapes Go.WideShapes Go.ChangeAt Go.RowKit
set_option maxRecDepth 100000
theorem q1 : Rows.fnStayRow.wfByText (OpenSpec.ofChange Rows.fnStaySpec) = true := by kernel_rfl
theorem q2 : Tryz.pinned.checked.prog.mainIs = some (Rows.fnStayCard.stood.harness.1, Rows.fnStayCard.stood.harness.2.toList) := by kernel_rfl
theorem q3 : (!Rows.fnStayCard.stood.harness.1 && Rows.fnStayCard.stood.harness.2.isEmpty && !true) = false := by kernel_rfl
theorem q4 : Tryz.prog.funcNamed "loop.example/stint/laws.FnStay" = some 4 := by kernel_rfl
theorem q5 : true = Tryz.pinned.checked.prog.looks [] := by kernel_rfl
theorem q6 : false = Rows.fnStayRow.goesBy Tryz.pinned.checked.prog := by kernel_rfl
theorem s22 : Tryz.prog.wantsStandIn 22 = false := by kernel_rfl
end Go.Proofs.YtclpmgfpjeaibaaGreatDoor.fnStay
