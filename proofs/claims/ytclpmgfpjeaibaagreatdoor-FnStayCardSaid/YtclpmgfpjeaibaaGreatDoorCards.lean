/-
  DERIVED. GIVEN WITH THE SEED: THE CARDS: each row of YtclpmgfpjeaibaaGreatDoorRows.lean that lists a variable, with what it lists TIED to the program's text (the seventh form; the later family's looks); each row that meets fmt, with fmt's text TOLD by the authors' own Lean function (tested against real Go, not proved from fmt's source: count such statements apart). THE CARD IS WHAT COUNTS. Prove the row's statement (the work); the ties are given (YtclpmgfpjeaibaaGreatDoorTie.lean); close each card by the builder's one call (the guide's Derived/Test/ToyasCard.lean, 'card_holds'). Laid BY PROGRAM, IN A SANDBOX (cutbox-door.mjs). By AI agents, Wed Nov 11 2026. No macro, syntax, notation, axiom, sorry.
-/
import Derived.Test.YtclpmgfpjeaibaaGreatDoorRows
import GoSem.ClaimSeven
namespace Go.Proofs.YtclpmgfpjeaibaaGreatDoor
namespace Rows

/-- THE TIED CARD OF 'laws.FnNext'. -/
def fnNextCard : Claim7 := { stood := { row := fnNextRow, standIns := [], harness := (true, "c75f9c12541b2c5b391bb037ee5952e6526b37fc30dd01cecf74de73b3b97baa"), looks := true }, kinds := [], alts := [], laidByText := true, laidKinds := [.handle], laidTests := true, laidLooks := .later }
def FnNextCardSaid : Prop := Claim7.holds Tryz.pinned (.plain (OpenSpec.ofChange fnNextSpec)) fnNextCard

/-- THE TIED CARD OF 'laws.FnStay'. -/
def fnStayCard : Claim7 := { stood := { row := fnStayRow, standIns := [], harness := (true, "c75f9c12541b2c5b391bb037ee5952e6526b37fc30dd01cecf74de73b3b97baa"), looks := true }, kinds := [], alts := [], laidByText := true, laidKinds := [.handle], laidTests := true, laidLooks := .later }
def FnStayCardSaid : Prop := Claim7.holds Tryz.pinned (.plain (OpenSpec.ofChange fnStaySpec)) fnStayCard

/-- THE SECOND FORM's CARD OF 'laws.FnNext'. -/
def fnNextUptoCard : Claim7 := { stood := { row := fnNextUptoRow, standIns := [], harness := (true, "c75f9c12541b2c5b391bb037ee5952e6526b37fc30dd01cecf74de73b3b97baa"), looks := true }, kinds := [], alts := [], laidByText := true, laidKinds := [.handle], laidTests := true, laidLooks := .later }
def FnNextUptoCardSaid : Prop := Claim7.holds Tryz.pinned (.plain (OpenSpec.upto fnNextSpec)) fnNextUptoCard

/-- THE SECOND FORM's CARD OF 'laws.FnStay'. -/
def fnStayUptoCard : Claim7 := { stood := { row := fnStayUptoRow, standIns := [], harness := (true, "c75f9c12541b2c5b391bb037ee5952e6526b37fc30dd01cecf74de73b3b97baa"), looks := true }, kinds := [], alts := [], laidByText := true, laidKinds := [.handle], laidTests := true, laidLooks := .later }
def FnStayUptoCardSaid : Prop := Claim7.holds Tryz.pinned (.plain (OpenSpec.upto fnStaySpec)) fnStayUptoCard
end Rows
end Go.Proofs.YtclpmgfpjeaibaaGreatDoor
