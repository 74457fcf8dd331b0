/- The law FnParts: closed facts of its card. -/
import Derived.Test.YtjinkcmkgnofjaaGreatDoorTie
import Derived.Test.YtjinkcmkgnofjaaGreatDoorCards
import Derived.SevenTiedAt
import Derived.WalkKit
import Derived.ProofKit
namespace Go.Proofs.YtjinkcmkgnofjaaGreatDoor.fnParts
open Go.ChangeShapes Go.WideShapes Go.ChangeAt Go.RowKit
set_option maxRecDepth 100000
theorem q1 : Rows.fnPartsRow.wfByText (OpenSpec.ofChange Rows.fnPartsSpec) = true := by kernel_rfl
theorem q2 : Tryz.pinned.checked.prog.mainIs = some (Rows.fnPartsCard.stood.harness.1, Rows.fnPartsCard.stood.harness.2.toList) := by kernel_rfl
theorem q3 : (!Rows.fnPartsCard.stood.harness.1 && Rows.fnPartsCard.stood.harness.2.isEmpty && !true) = false := by kernel_rfl
theorem q4 : Tryz.prog.funcNamed "loop.example/stint/laws.FnParts" = some 4 := by kernel_rfl
theorem q5 : true = Tryz.pinned.checked.prog.looks [] := by kernel_rfl
theorem q6 : false = Rows.fnPartsRow.goesBy Tryz.pinned.checked.prog := by kernel_rfl
theorem s22 : Tryz.prog.wantsStandIn 22 = false := by kernel_rfl
end Go.Proofs.YtjinkcmkgnofjaaGreatDoor.fnParts
