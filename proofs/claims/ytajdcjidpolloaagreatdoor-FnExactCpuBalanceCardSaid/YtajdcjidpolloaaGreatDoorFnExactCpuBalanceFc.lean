/- The law FnExactCpuBalance: closed facts of its card. -/
import Derived.Test.YtajdcjidpolloaaGreatDoorTie
import Derived.Test.YtajdcjidpolloaaGreatDoorCards
import Derived.SevenTiedAt
import Derived.WalkKit
import Derived.ProofKit
namespace Go.Proofs.YtajdcjidpolloaaGreatDoor.fnExactCpuBalance
open Go.ChangeShapes Go.WideShapes Go.ChangeAt Go.RowKit
set_option maxRecDepth 100000
theorem q1 : Rows.fnExactCpuBalanceRow.wfByText (OpenSpec.ofChange Rows.fnExactCpuBalanceSpec) = true := by kernel_rfl
theorem q2 : Tryz.pinned.checked.prog.mainIs = some (Rows.fnExactCpuBalanceCard.stood.harness.1, Rows.fnExactCpuBalanceCard.stood.harness.2.toList) := by kernel_rfl
theorem q3 : (!Rows.fnExactCpuBalanceCard.stood.harness.1 && Rows.fnExactCpuBalanceCard.stood.harness.2.isEmpty && !true) = false := by kernel_rfl
theorem q4 : Tryz.prog.funcNamed "loop.example/stint/laws.FnExactCpuBalance" = some 5 := by kernel_rfl
theorem q5 : true = Tryz.pinned.checked.prog.looks [] := by kernel_rfl
theorem q6 : false = Rows.fnExactCpuBalanceRow.goesBy Tryz.pinned.checked.prog := by kernel_rfl
theorem s3 : Tryz.prog.wantsStandIn 3 = false := by kernel_rfl
theorem s26 : Tryz.prog.wantsStandIn 26 = false := by kernel_rfl
end Go.Proofs.YtajdcjidpolloaaGreatDoor.fnExactCpuBalance
