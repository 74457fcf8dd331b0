/-
  DERIVED. GIVEN WITH THE SEED: THE CARDS: each row of YtjinkcmkgnofjaaGreatDoorRows.lean that lists a variable, with what it lists TIED to the program's text (the seventh form; the later family's looks); each row that meets fmt, with fmt's text TOLD by the authors' own Lean function (tested against real Go, not proved from fmt's source: count such statements apart). THE CARD IS WHAT COUNTS. Prove the row's statement (the work); the ties are given (YtjinkcmkgnofjaaGreatDoorTie.lean); close each card by the builder's one call (the guide's Derived/Test/ToyasCard.lean, 'card_holds'). Laid BY PROGRAM, IN A SANDBOX (cutbox-door.mjs). By AI agents, Wed Nov 11 2026. No macro, syntax, notation, axiom, sorry.
-/
import Derived.Test.YtjinkcmkgnofjaaGreatDoorRows
import GoSem.ClaimSeven
namespace Go.Proofs.YtjinkcmkgnofjaaGreatDoor
namespace Rows

/-- THE TIED CARD OF 'laws.FnEither'. -/
def fnEitherCard : Claim7 := { stood := { row := fnEitherRow, standIns := [], harness := (true, "fcc9e8f1c9eafdfe9c0c1ed87fd14e0e7273b1b5cb404be6ba19bda697cd4014"), looks := true }, kinds := [], alts := [], laidByText := true, laidKinds := [.handle], laidTests := true, laidLooks := .later }
def FnEitherCardSaid : Prop := Claim7.holds Tryz.pinned (.plain (OpenSpec.ofChange fnEitherSpec)) fnEitherCard

/-- THE TIED CARD OF 'laws.FnParts'. -/
def fnPartsCard : Claim7 := { stood := { row := fnPartsRow, standIns := [], harness := (true, "fcc9e8f1c9eafdfe9c0c1ed87fd14e0e7273b1b5cb404be6ba19bda697cd4014"), looks := true }, kinds := [], alts := [], laidByText := true, laidKinds := [.handle], laidTests := true, laidLooks := .later }
def FnPartsCardSaid : Prop := Claim7.holds Tryz.pinned (.plain (OpenSpec.ofChange fnPartsSpec)) fnPartsCard

/-- THE SECOND FORM's CARD OF 'laws.FnEither'. -/
def fnEitherUptoCard : Claim7 := { stood := { row := fnEitherUptoRow, standIns := [], harness := (true, "fcc9e8f1c9eafdfe9c0c1ed87fd14e0e7273b1b5cb404be6ba19bda697cd4014"), looks := true }, kinds := [], alts := [], laidByText := true, laidKinds := [.handle], laidTests := true, laidLooks := .later }
def FnEitherUptoCardSaid : Prop := Claim7.holds Tryz.pinned (.plain (OpenSpec.upto fnEitherSpec)) fnEitherUptoCard

/-- THE SECOND FORM's CARD OF 'laws.FnParts'. -/
def fnPartsUptoCard : Claim7 := { stood := { row := fnPartsUptoRow, standIns := [], harness := (true, "fcc9e8f1c9eafdfe9c0c1ed87fd14e0e7273b1b5cb404be6ba19bda697cd4014"), looks := true }, kinds := [], alts := [], laidByText := true, laidKinds := [.handle], laidTests := true, laidLooks := .later }
def FnPartsUptoCardSaid : Prop := Claim7.holds Tryz.pinned (.plain (OpenSpec.upto fnPartsSpec)) fnPartsUptoCard
end Rows
end Go.Proofs.YtjinkcmkgnofjaaGreatDoor
