/-
  DERIVED. GIVEN WITH THE SEED: THE CARDS: each row of YtajdcjidpolloaaGreatDoorRows.lean that lists a variable, with what it lists TIED to the program's text (the seventh form; the later family's looks); each row that meets fmt, with fmt's text TOLD by the authors' own Lean function (tested against real Go, not proved from fmt's source: count such statements apart). THE CARD IS WHAT COUNTS. Prove the row's statement (the work); the ties are given (YtajdcjidpolloaaGreatDoorTie.lean); close each card by the builder's one call (the guide's Derived/Test/ToyasCard.lean, 'card_holds'). Laid BY PROGRAM, IN A SANDBOX (cutbox-door.mjs). By AI agents, Wed Nov 11 2026. No macro, syntax, notation, axiom, sorry.
-/
import Derived.Test.YtajdcjidpolloaaGreatDoorRows
import GoSem.ClaimSeven
namespace Go.Proofs.YtajdcjidpolloaaGreatDoor
namespace Rows

/-- THE TIED CARD OF 'laws.FnExactCpuOff'. -/
def fnExactCpuOffCard : Claim7 := { stood := { row := fnExactCpuOffRow, standIns := [], harness := (true, "958926580d3daa738d41e093602ca54a9360f66ecbb236559f41e0b650aef47c"), looks := true }, kinds := [], alts := [], laidByText := true, laidKinds := [.handle], laidTests := true, laidLooks := .later }
def FnExactCpuOffCardSaid : Prop := Claim7.holds Tryz.pinned (.plain (OpenSpec.ofChange fnExactCpuOffSpec)) fnExactCpuOffCard

/-- THE TIED CARD OF 'laws.FnExactTaskWake'. -/
def fnExactTaskWakeCard : Claim7 := { stood := { row := fnExactTaskWakeRow, standIns := [], harness := (true, "958926580d3daa738d41e093602ca54a9360f66ecbb236559f41e0b650aef47c"), looks := true }, kinds := [], alts := [], laidByText := true, laidKinds := [.handle], laidTests := true, laidLooks := .later }
def FnExactTaskWakeCardSaid : Prop := Claim7.holds Tryz.pinned (.plain (OpenSpec.ofChange fnExactTaskWakeSpec)) fnExactTaskWakeCard

/-- THE TIED CARD OF 'laws.FnExactCpuBalance'. -/
def fnExactCpuBalanceCard : Claim7 := { stood := { row := fnExactCpuBalanceRow, standIns := [], harness := (true, "958926580d3daa738d41e093602ca54a9360f66ecbb236559f41e0b650aef47c"), looks := true }, kinds := [], alts := [], laidByText := true, laidKinds := [.handle], laidTests := true, laidLooks := .later }
def FnExactCpuBalanceCardSaid : Prop := Claim7.holds Tryz.pinned (.plain (OpenSpec.ofChange fnExactCpuBalanceSpec)) fnExactCpuBalanceCard

/-- THE TIED CARD OF 'laws.FnExactTaskFork'. -/
def fnExactTaskForkCard : Claim7 := { stood := { row := fnExactTaskForkRow, standIns := [], harness := (true, "958926580d3daa738d41e093602ca54a9360f66ecbb236559f41e0b650aef47c"), looks := true }, kinds := [], alts := [], laidByText := true, laidKinds := [.handle], laidTests := true, laidLooks := .later }
def FnExactTaskForkCardSaid : Prop := Claim7.holds Tryz.pinned (.plain (OpenSpec.ofChange fnExactTaskForkSpec)) fnExactTaskForkCard

/-- THE TIED CARD OF 'laws.FnExactWorldRun'. -/
def fnExactWorldRunCard : Claim7 := { stood := { row := fnExactWorldRunRow, standIns := [], harness := (true, "958926580d3daa738d41e093602ca54a9360f66ecbb236559f41e0b650aef47c"), looks := true }, kinds := [], alts := [], laidByText := true, laidKinds := [.handle], laidTests := true, laidLooks := .later }
def FnExactWorldRunCardSaid : Prop := Claim7.holds Tryz.pinned (.plain (OpenSpec.ofChange fnExactWorldRunSpec)) fnExactWorldRunCard

/-- THE SECOND FORM's CARD OF 'laws.FnExactCpuOff'. -/
def fnExactCpuOffUptoCard : Claim7 := { stood := { row := fnExactCpuOffUptoRow, standIns := [], harness := (true, "958926580d3daa738d41e093602ca54a9360f66ecbb236559f41e0b650aef47c"), looks := true }, kinds := [], alts := [], laidByText := true, laidKinds := [.handle], laidTests := true, laidLooks := .later }
def FnExactCpuOffUptoCardSaid : Prop := Claim7.holds Tryz.pinned (.plain (OpenSpec.upto fnExactCpuOffSpec)) fnExactCpuOffUptoCard

/-- THE SECOND FORM's CARD OF 'laws.FnExactTaskWake'. -/
def fnExactTaskWakeUptoCard : Claim7 := { stood := { row := fnExactTaskWakeUptoRow, standIns := [], harness := (true, "958926580d3daa738d41e093602ca54a9360f66ecbb236559f41e0b650aef47c"), looks := true }, kinds := [], alts := [], laidByText := true, laidKinds := [.handle], laidTests := true, laidLooks := .later }
def FnExactTaskWakeUptoCardSaid : Prop := Claim7.holds Tryz.pinned (.plain (OpenSpec.upto fnExactTaskWakeSpec)) fnExactTaskWakeUptoCard

/-- THE SECOND FORM's CARD OF 'laws.FnExactCpuBalance'. -/
def fnExactCpuBalanceUptoCard : Claim7 := { stood := { row := fnExactCpuBalanceUptoRow, standIns := [], harness := (true, "958926580d3daa738d41e093602ca54a9360f66ecbb236559f41e0b650aef47c"), looks := true }, kinds := [], alts := [], laidByText := true, laidKinds := [.handle], laidTests := true, laidLooks := .later }
def FnExactCpuBalanceUptoCardSaid : Prop := Claim7.holds Tryz.pinned (.plain (OpenSpec.upto fnExactCpuBalanceSpec)) fnExactCpuBalanceUptoCard

/-- THE SECOND FORM's CARD OF 'laws.FnExactTaskFork'. -/
def fnExactTaskForkUptoCard : Claim7 := { stood := { row := fnExactTaskForkUptoRow, standIns := [], harness := (true, "958926580d3daa738d41e093602ca54a9360f66ecbb236559f41e0b650aef47c"), looks := true }, kinds := [], alts := [], laidByText := true, laidKinds := [.handle], laidTests := true, laidLooks := .later }
def FnExactTaskForkUptoCardSaid : Prop := Claim7.holds Tryz.pinned (.plain (OpenSpec.upto fnExactTaskForkSpec)) fnExactTaskForkUptoCard

/-- THE SECOND FORM's CARD OF 'laws.FnExactWorldRun'. -/
def fnExactWorldRunUptoCard : Claim7 := { stood := { row := fnExactWorldRunUptoRow, standIns := [], harness := (true, "958926580d3daa738d41e093602ca54a9360f66ecbb236559f41e0b650aef47c"), looks := true }, kinds := [], alts := [], laidByText := true, laidKinds := [.handle], laidTests := true, laidLooks := .later }
def FnExactWorldRunUptoCardSaid : Prop := Claim7.holds Tryz.pinned (.plain (OpenSpec.upto fnExactWorldRunSpec)) fnExactWorldRunUptoCard
end Rows
end Go.Proofs.YtajdcjidpolloaaGreatDoor
