/-
  DERIVED. GIVEN WITH THE SEED: THE CARDS: each row of YthhmnlcimojhlaaGreatDoorRows.lean that lists a variable, with what it lists TIED to the program's text (the seventh form; the later family's looks); each row that meets fmt, with fmt's text TOLD by the authors' own Lean function (tested against real Go, not proved from fmt's source: count such statements apart). THE CARD IS WHAT COUNTS. Prove the row's statement (the work); the ties are given (YthhmnlcimojhlaaGreatDoorTie.lean); close each card by the builder's one call (the guide's Derived/Test/ToyasCard.lean, 'card_holds'). Laid BY PROGRAM, IN A SANDBOX (cutbox-door.mjs). By AI agents, Wed Nov 11 2026. No macro, syntax, notation, axiom, sorry.
-/
import Derived.Test.YthhmnlcimojhlaaGreatDoorRows
import GoSem.ClaimSeven
namespace Go.Proofs.YthhmnlcimojhlaaGreatDoor
namespace Rows

/-- THE TIED CARD OF 'laws.FnExactGroupWeigh'. -/
def fnExactGroupWeighCard : Claim7 := { stood := { row := fnExactGroupWeighRow, standIns := [], harness := (true, "6eff6b13c2ec1d1867ab1a7360a9740c3d79cc20e44bd8104b68c52b9a427ec9"), looks := true }, kinds := [], alts := [], laidByText := true, laidKinds := [.handle], laidTests := true, laidLooks := .later }
def FnExactGroupWeighCardSaid : Prop := Claim7.holds Tryz.pinned (.plain (OpenSpec.ofChange fnExactGroupWeighSpec)) fnExactGroupWeighCard

/-- THE TIED CARD OF 'laws.FnExactTaskPin'. -/
def fnExactTaskPinCard : Claim7 := { stood := { row := fnExactTaskPinRow, standIns := [], harness := (true, "6eff6b13c2ec1d1867ab1a7360a9740c3d79cc20e44bd8104b68c52b9a427ec9"), looks := true }, kinds := [], alts := [], laidByText := true, laidKinds := [.handle], laidTests := true, laidLooks := .later }
def FnExactTaskPinCardSaid : Prop := Claim7.holds Tryz.pinned (.plain (OpenSpec.ofChange fnExactTaskPinSpec)) fnExactTaskPinCard

/-- THE TIED CARD OF 'laws.FnExactGroupPin'. -/
def fnExactGroupPinCard : Claim7 := { stood := { row := fnExactGroupPinRow, standIns := [], harness := (true, "6eff6b13c2ec1d1867ab1a7360a9740c3d79cc20e44bd8104b68c52b9a427ec9"), looks := true }, kinds := [], alts := [], laidByText := true, laidKinds := [.handle], laidTests := true, laidLooks := .later }
def FnExactGroupPinCardSaid : Prop := Claim7.holds Tryz.pinned (.plain (OpenSpec.ofChange fnExactGroupPinSpec)) fnExactGroupPinCard

/-- THE TIED CARD OF 'laws.FnExactCpuOn'. -/
def fnExactCpuOnCard : Claim7 := { stood := { row := fnExactCpuOnRow, standIns := [], harness := (true, "6eff6b13c2ec1d1867ab1a7360a9740c3d79cc20e44bd8104b68c52b9a427ec9"), looks := true }, kinds := [], alts := [], laidByText := true, laidKinds := [.handle], laidTests := true, laidLooks := .later }
def FnExactCpuOnCardSaid : Prop := Claim7.holds Tryz.pinned (.plain (OpenSpec.ofChange fnExactCpuOnSpec)) fnExactCpuOnCard

/-- THE TIED CARD OF 'laws.FnExactTaskFork'. -/
def fnExactTaskForkCard : Claim7 := { stood := { row := fnExactTaskForkRow, standIns := [], harness := (true, "6eff6b13c2ec1d1867ab1a7360a9740c3d79cc20e44bd8104b68c52b9a427ec9"), looks := true }, kinds := [], alts := [], laidByText := true, laidKinds := [.handle], laidTests := true, laidLooks := .later }
def FnExactTaskForkCardSaid : Prop := Claim7.holds Tryz.pinned (.plain (OpenSpec.ofChange fnExactTaskForkSpec)) fnExactTaskForkCard

/-- THE TIED CARD OF 'laws.FnExactCpuOff'. -/
def fnExactCpuOffCard : Claim7 := { stood := { row := fnExactCpuOffRow, standIns := [], harness := (true, "6eff6b13c2ec1d1867ab1a7360a9740c3d79cc20e44bd8104b68c52b9a427ec9"), looks := true }, kinds := [], alts := [], laidByText := true, laidKinds := [.handle], laidTests := true, laidLooks := .later }
def FnExactCpuOffCardSaid : Prop := Claim7.holds Tryz.pinned (.plain (OpenSpec.ofChange fnExactCpuOffSpec)) fnExactCpuOffCard

/-- THE TIED CARD OF 'laws.FnExactTaskWake'. -/
def fnExactTaskWakeCard : Claim7 := { stood := { row := fnExactTaskWakeRow, standIns := [], harness := (true, "6eff6b13c2ec1d1867ab1a7360a9740c3d79cc20e44bd8104b68c52b9a427ec9"), looks := true }, kinds := [], alts := [], laidByText := true, laidKinds := [.handle], laidTests := true, laidLooks := .later }
def FnExactTaskWakeCardSaid : Prop := Claim7.holds Tryz.pinned (.plain (OpenSpec.ofChange fnExactTaskWakeSpec)) fnExactTaskWakeCard

/-- THE TIED CARD OF 'laws.FnExactWorldRun'. -/
def fnExactWorldRunCard : Claim7 := { stood := { row := fnExactWorldRunRow, standIns := [], harness := (true, "6eff6b13c2ec1d1867ab1a7360a9740c3d79cc20e44bd8104b68c52b9a427ec9"), looks := true }, kinds := [], alts := [], laidByText := true, laidKinds := [.handle], laidTests := true, laidLooks := .later }
def FnExactWorldRunCardSaid : Prop := Claim7.holds Tryz.pinned (.plain (OpenSpec.ofChange fnExactWorldRunSpec)) fnExactWorldRunCard

/-- THE TIED CARD OF 'laws.FnExactCpuBalance'. -/
def fnExactCpuBalanceCard : Claim7 := { stood := { row := fnExactCpuBalanceRow, standIns := [], harness := (true, "6eff6b13c2ec1d1867ab1a7360a9740c3d79cc20e44bd8104b68c52b9a427ec9"), looks := true }, kinds := [], alts := [], laidByText := true, laidKinds := [.handle], laidTests := true, laidLooks := .later }
def FnExactCpuBalanceCardSaid : Prop := Claim7.holds Tryz.pinned (.plain (OpenSpec.ofChange fnExactCpuBalanceSpec)) fnExactCpuBalanceCard

/-- THE SECOND FORM's CARD OF 'laws.FnExactGroupWeigh'. -/
def fnExactGroupWeighUptoCard : Claim7 := { stood := { row := fnExactGroupWeighUptoRow, standIns := [], harness := (true, "6eff6b13c2ec1d1867ab1a7360a9740c3d79cc20e44bd8104b68c52b9a427ec9"), looks := true }, kinds := [], alts := [], laidByText := true, laidKinds := [.handle], laidTests := true, laidLooks := .later }
def FnExactGroupWeighUptoCardSaid : Prop := Claim7.holds Tryz.pinned (.plain (OpenSpec.upto fnExactGroupWeighSpec)) fnExactGroupWeighUptoCard

/-- THE SECOND FORM's CARD OF 'laws.FnExactTaskPin'. -/
def fnExactTaskPinUptoCard : Claim7 := { stood := { row := fnExactTaskPinUptoRow, standIns := [], harness := (true, "6eff6b13c2ec1d1867ab1a7360a9740c3d79cc20e44bd8104b68c52b9a427ec9"), looks := true }, kinds := [], alts := [], laidByText := true, laidKinds := [.handle], laidTests := true, laidLooks := .later }
def FnExactTaskPinUptoCardSaid : Prop := Claim7.holds Tryz.pinned (.plain (OpenSpec.upto fnExactTaskPinSpec)) fnExactTaskPinUptoCard

/-- THE SECOND FORM's CARD OF 'laws.FnExactGroupPin'. -/
def fnExactGroupPinUptoCard : Claim7 := { stood := { row := fnExactGroupPinUptoRow, standIns := [], harness := (true, "6eff6b13c2ec1d1867ab1a7360a9740c3d79cc20e44bd8104b68c52b9a427ec9"), looks := true }, kinds := [], alts := [], laidByText := true, laidKinds := [.handle], laidTests := true, laidLooks := .later }
def FnExactGroupPinUptoCardSaid : Prop := Claim7.holds Tryz.pinned (.plain (OpenSpec.upto fnExactGroupPinSpec)) fnExactGroupPinUptoCard

/-- THE SECOND FORM's CARD OF 'laws.FnExactCpuOn'. -/
def fnExactCpuOnUptoCard : Claim7 := { stood := { row := fnExactCpuOnUptoRow, standIns := [], harness := (true, "6eff6b13c2ec1d1867ab1a7360a9740c3d79cc20e44bd8104b68c52b9a427ec9"), looks := true }, kinds := [], alts := [], laidByText := true, laidKinds := [.handle], laidTests := true, laidLooks := .later }
def FnExactCpuOnUptoCardSaid : Prop := Claim7.holds Tryz.pinned (.plain (OpenSpec.upto fnExactCpuOnSpec)) fnExactCpuOnUptoCard

/-- THE SECOND FORM's CARD OF 'laws.FnExactTaskFork'. -/
def fnExactTaskForkUptoCard : Claim7 := { stood := { row := fnExactTaskForkUptoRow, standIns := [], harness := (true, "6eff6b13c2ec1d1867ab1a7360a9740c3d79cc20e44bd8104b68c52b9a427ec9"), looks := true }, kinds := [], alts := [], laidByText := true, laidKinds := [.handle], laidTests := true, laidLooks := .later }
def FnExactTaskForkUptoCardSaid : Prop := Claim7.holds Tryz.pinned (.plain (OpenSpec.upto fnExactTaskForkSpec)) fnExactTaskForkUptoCard

/-- THE SECOND FORM's CARD OF 'laws.FnExactCpuOff'. -/
def fnExactCpuOffUptoCard : Claim7 := { stood := { row := fnExactCpuOffUptoRow, standIns := [], harness := (true, "6eff6b13c2ec1d1867ab1a7360a9740c3d79cc20e44bd8104b68c52b9a427ec9"), looks := true }, kinds := [], alts := [], laidByText := true, laidKinds := [.handle], laidTests := true, laidLooks := .later }
def FnExactCpuOffUptoCardSaid : Prop := Claim7.holds Tryz.pinned (.plain (OpenSpec.upto fnExactCpuOffSpec)) fnExactCpuOffUptoCard

/-- THE SECOND FORM's CARD OF 'laws.FnExactTaskWake'. -/
def fnExactTaskWakeUptoCard : Claim7 := { stood := { row := fnExactTaskWakeUptoRow, standIns := [], harness := (true, "6eff6b13c2ec1d1867ab1a7360a9740c3d79cc20e44bd8104b68c52b9a427ec9"), looks := true }, kinds := [], alts := [], laidByText := true, laidKinds := [.handle], laidTests := true, laidLooks := .later }
def FnExactTaskWakeUptoCardSaid : Prop := Claim7.holds Tryz.pinned (.plain (OpenSpec.upto fnExactTaskWakeSpec)) fnExactTaskWakeUptoCard

/-- THE SECOND FORM's CARD OF 'laws.FnExactWorldRun'. -/
def fnExactWorldRunUptoCard : Claim7 := { stood := { row := fnExactWorldRunUptoRow, standIns := [], harness := (true, "6eff6b13c2ec1d1867ab1a7360a9740c3d79cc20e44bd8104b68c52b9a427ec9"), looks := true }, kinds := [], alts := [], laidByText := true, laidKinds := [.handle], laidTests := true, laidLooks := .later }
def FnExactWorldRunUptoCardSaid : Prop := Claim7.holds Tryz.pinned (.plain (OpenSpec.upto fnExactWorldRunSpec)) fnExactWorldRunUptoCard

/-- THE SECOND FORM's CARD OF 'laws.FnExactCpuBalance'. -/
def fnExactCpuBalanceUptoCard : Claim7 := { stood := { row := fnExactCpuBalanceUptoRow, standIns := [], harness := (true, "6eff6b13c2ec1d1867ab1a7360a9740c3d79cc20e44bd8104b68c52b9a427ec9"), looks := true }, kinds := [], alts := [], laidByText := true, laidKinds := [.handle], laidTests := true, laidLooks := .later }
def FnExactCpuBalanceUptoCardSaid : Prop := Claim7.holds Tryz.pinned (.plain (OpenSpec.upto fnExactCpuBalanceSpec)) fnExactCpuBalanceUptoCard
end Rows
end Go.Proofs.YthhmnlcimojhlaaGreatDoor
