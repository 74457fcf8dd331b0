/-
  DERIVED. GIVEN WITH THE SEED: THE CARDS: each row of YtjjdgognjpmipaaGreatDoorRows.lean that lists a variable, with what it lists TIED to the program's text (the seventh form; the later family's looks); each row that meets fmt, with fmt's text TOLD by the authors' own Lean function (tested against real Go, not proved from fmt's source: count such statements apart). THE CARD IS WHAT COUNTS. Prove the row's statement (the work); the ties are given (YtjjdgognjpmipaaGreatDoorTie.lean); close each card by the builder's one call (the guide's Derived/Test/ToyasCard.lean, 'card_holds'). Laid BY PROGRAM, IN A SANDBOX (cutbox-door.mjs). By AI agents, Wed Nov 11 2026. No macro, syntax, notation, axiom, sorry.
-/
import Derived.Test.YtjjdgognjpmipaaGreatDoorRows
import GoSem.ClaimSeven
namespace Go.Proofs.YtjjdgognjpmipaaGreatDoor
namespace Rows

/-- THE TIED CARD OF 'laws.FnExactTaskExit'. -/
def fnExactTaskExitCard : Claim7 := { stood := { row := fnExactTaskExitRow, standIns := [], harness := (true, "1c79b1fcc90396ad05f2b822e2bdb810bd72cda40ea1ea20030aa54c8b6172c3"), looks := true }, kinds := [], alts := [], laidByText := true, laidKinds := [.handle], laidTests := true, laidLooks := .later }
def FnExactTaskExitCardSaid : Prop := Claim7.holds Tryz.pinned (.plain (OpenSpec.ofChange fnExactTaskExitSpec)) fnExactTaskExitCard

/-- THE TIED CARD OF 'laws.FnExactTaskNice'. -/
def fnExactTaskNiceCard : Claim7 := { stood := { row := fnExactTaskNiceRow, standIns := [], harness := (true, "1c79b1fcc90396ad05f2b822e2bdb810bd72cda40ea1ea20030aa54c8b6172c3"), looks := true }, kinds := [], alts := [], laidByText := true, laidKinds := [.handle], laidTests := true, laidLooks := .later }
def FnExactTaskNiceCardSaid : Prop := Claim7.holds Tryz.pinned (.plain (OpenSpec.ofChange fnExactTaskNiceSpec)) fnExactTaskNiceCard

/-- THE TIED CARD OF 'laws.FnExactGroupLimit'. -/
def fnExactGroupLimitCard : Claim7 := { stood := { row := fnExactGroupLimitRow, standIns := [], harness := (true, "1c79b1fcc90396ad05f2b822e2bdb810bd72cda40ea1ea20030aa54c8b6172c3"), looks := true }, kinds := [], alts := [], laidByText := true, laidKinds := [.handle], laidTests := true, laidLooks := .later }
def FnExactGroupLimitCardSaid : Prop := Claim7.holds Tryz.pinned (.plain (OpenSpec.ofChange fnExactGroupLimitSpec)) fnExactGroupLimitCard

/-- THE TIED CARD OF 'laws.FnExactTimePass'. -/
def fnExactTimePassCard : Claim7 := { stood := { row := fnExactTimePassRow, standIns := [], harness := (true, "1c79b1fcc90396ad05f2b822e2bdb810bd72cda40ea1ea20030aa54c8b6172c3"), looks := true }, kinds := [], alts := [], laidByText := true, laidKinds := [.handle], laidTests := true, laidLooks := .later }
def FnExactTimePassCardSaid : Prop := Claim7.holds Tryz.pinned (.plain (OpenSpec.ofChange fnExactTimePassSpec)) fnExactTimePassCard

/-- THE SECOND FORM's CARD OF 'laws.FnExactTaskExit'. -/
def fnExactTaskExitUptoCard : Claim7 := { stood := { row := fnExactTaskExitUptoRow, standIns := [], harness := (true, "1c79b1fcc90396ad05f2b822e2bdb810bd72cda40ea1ea20030aa54c8b6172c3"), looks := true }, kinds := [], alts := [], laidByText := true, laidKinds := [.handle], laidTests := true, laidLooks := .later }
def FnExactTaskExitUptoCardSaid : Prop := Claim7.holds Tryz.pinned (.plain (OpenSpec.upto fnExactTaskExitSpec)) fnExactTaskExitUptoCard

/-- THE SECOND FORM's CARD OF 'laws.FnExactTaskNice'. -/
def fnExactTaskNiceUptoCard : Claim7 := { stood := { row := fnExactTaskNiceUptoRow, standIns := [], harness := (true, "1c79b1fcc90396ad05f2b822e2bdb810bd72cda40ea1ea20030aa54c8b6172c3"), looks := true }, kinds := [], alts := [], laidByText := true, laidKinds := [.handle], laidTests := true, laidLooks := .later }
def FnExactTaskNiceUptoCardSaid : Prop := Claim7.holds Tryz.pinned (.plain (OpenSpec.upto fnExactTaskNiceSpec)) fnExactTaskNiceUptoCard

/-- THE SECOND FORM's CARD OF 'laws.FnExactGroupLimit'. -/
def fnExactGroupLimitUptoCard : Claim7 := { stood := { row := fnExactGroupLimitUptoRow, standIns := [], harness := (true, "1c79b1fcc90396ad05f2b822e2bdb810bd72cda40ea1ea20030aa54c8b6172c3"), looks := true }, kinds := [], alts := [], laidByText := true, laidKinds := [.handle], laidTests := true, laidLooks := .later }
def FnExactGroupLimitUptoCardSaid : Prop := Claim7.holds Tryz.pinned (.plain (OpenSpec.upto fnExactGroupLimitSpec)) fnExactGroupLimitUptoCard

/-- THE SECOND FORM's CARD OF 'laws.FnExactTimePass'. -/
def fnExactTimePassUptoCard : Claim7 := { stood := { row := fnExactTimePassUptoRow, standIns := [], harness := (true, "1c79b1fcc90396ad05f2b822e2bdb810bd72cda40ea1ea20030aa54c8b6172c3"), looks := true }, kinds := [], alts := [], laidByText := true, laidKinds := [.handle], laidTests := true, laidLooks := .later }
def FnExactTimePassUptoCardSaid : Prop := Claim7.holds Tryz.pinned (.plain (OpenSpec.upto fnExactTimePassSpec)) fnExactTimePassUptoCard
end Rows
end Go.Proofs.YtjjdgognjpmipaaGreatDoor
