/-
  DERIVED. GIVEN WITH THE SEED: THE CARDS: each row of YtnclplgaicdapaaGreatDoorRows.lean that lists a variable, with what it lists TIED to the program's text (the seventh form; the later family's looks); each row that meets fmt, with fmt's text TOLD by the authors' own Lean function (tested against real Go, not proved from fmt's source: count such statements apart). THE CARD IS WHAT COUNTS. Prove the row's statement (the work); the ties are given (YtnclplgaicdapaaGreatDoorTie.lean); close each card by the builder's one call (the guide's Derived/Test/ToyasCard.lean, 'card_holds'). Laid BY PROGRAM, IN A SANDBOX (cutbox-door.mjs). By AI agents, Wed Nov 11 2026. No macro, syntax, notation, axiom, sorry.
-/
import Derived.Test.YtnclplgaicdapaaGreatDoorRows
import GoSem.ClaimSeven
namespace Go.Proofs.YtnclplgaicdapaaGreatDoor
namespace Rows

/-- THE TIED CARD OF 'laws.FnLast'. -/
def fnLastCard : Claim7 := { stood := { row := fnLastRow, standIns := [], harness := (true, "a9ab236d748c168e67f73424d142d0c68d827d8db1211cae3a4dfb5ff4794ad9"), looks := true }, kinds := [], alts := [], laidByText := true, laidKinds := [.handle], laidTests := true, laidLooks := .later }
def FnLastCardSaid : Prop := Claim7.holds Tryz.pinned (.plain (OpenSpec.ofChange fnLastSpec)) fnLastCard

/-- THE TIED CARD OF 'laws.FnYield'. -/
def fnYieldCard : Claim7 := { stood := { row := fnYieldRow, standIns := [], harness := (true, "a9ab236d748c168e67f73424d142d0c68d827d8db1211cae3a4dfb5ff4794ad9"), looks := true }, kinds := [], alts := [], laidByText := true, laidKinds := [.handle], laidTests := true, laidLooks := .later }
def FnYieldCardSaid : Prop := Claim7.holds Tryz.pinned (.plain (OpenSpec.ofChange fnYieldSpec)) fnYieldCard

/-- THE TIED CARD OF 'laws.FnDropEmpty'. -/
def fnDropEmptyCard : Claim7 := { stood := { row := fnDropEmptyRow, standIns := [], harness := (true, "a9ab236d748c168e67f73424d142d0c68d827d8db1211cae3a4dfb5ff4794ad9"), looks := true }, kinds := [], alts := [], laidByText := true, laidKinds := [.handle], laidTests := true, laidLooks := .later }
def FnDropEmptyCardSaid : Prop := Claim7.holds Tryz.pinned (.plain (OpenSpec.ofChange fnDropEmptySpec)) fnDropEmptyCard

/-- THE TIED CARD OF 'laws.FnPlug'. -/
def fnPlugCard : Claim7 := { stood := { row := fnPlugRow, standIns := [], harness := (true, "a9ab236d748c168e67f73424d142d0c68d827d8db1211cae3a4dfb5ff4794ad9"), looks := true }, kinds := [], alts := [], laidByText := true, laidKinds := [.handle], laidTests := true, laidLooks := .later }
def FnPlugCardSaid : Prop := Claim7.holds Tryz.pinned (.plain (OpenSpec.ofChange fnPlugSpec)) fnPlugCard

/-- THE TIED CARD OF 'laws.FnWake'. -/
def fnWakeCard : Claim7 := { stood := { row := fnWakeRow, standIns := [], harness := (true, "a9ab236d748c168e67f73424d142d0c68d827d8db1211cae3a4dfb5ff4794ad9"), looks := true }, kinds := [], alts := [], laidByText := true, laidKinds := [.handle], laidTests := true, laidLooks := .later }
def FnWakeCardSaid : Prop := Claim7.holds Tryz.pinned (.plain (OpenSpec.ofChange fnWakeSpec)) fnWakeCard

/-- THE TIED CARD OF 'laws.FnFork'. -/
def fnForkCard : Claim7 := { stood := { row := fnForkRow, standIns := [], harness := (true, "a9ab236d748c168e67f73424d142d0c68d827d8db1211cae3a4dfb5ff4794ad9"), looks := true }, kinds := [], alts := [], laidByText := true, laidKinds := [.handle], laidTests := true, laidLooks := .later }
def FnForkCardSaid : Prop := Claim7.holds Tryz.pinned (.plain (OpenSpec.ofChange fnForkSpec)) fnForkCard

/-- THE TIED CARD OF 'laws.FnIdle'. -/
def fnIdleCard : Claim7 := { stood := { row := fnIdleRow, standIns := [], harness := (true, "a9ab236d748c168e67f73424d142d0c68d827d8db1211cae3a4dfb5ff4794ad9"), looks := true }, kinds := [], alts := [], laidByText := true, laidKinds := [.handle], laidTests := true, laidLooks := .later }
def FnIdleCardSaid : Prop := Claim7.holds Tryz.pinned (.plain (OpenSpec.ofChange fnIdleSpec)) fnIdleCard

/-- THE TIED CARD OF 'laws.FnEither'. -/
def fnEitherCard : Claim7 := { stood := { row := fnEitherRow, standIns := [], harness := (true, "a9ab236d748c168e67f73424d142d0c68d827d8db1211cae3a4dfb5ff4794ad9"), looks := true }, kinds := [], alts := [], laidByText := true, laidKinds := [.handle], laidTests := true, laidLooks := .later }
def FnEitherCardSaid : Prop := Claim7.holds Tryz.pinned (.plain (OpenSpec.ofChange fnEitherSpec)) fnEitherCard

/-- THE TIED CARD OF 'laws.FnParts'. -/
def fnPartsCard : Claim7 := { stood := { row := fnPartsRow, standIns := [], harness := (true, "a9ab236d748c168e67f73424d142d0c68d827d8db1211cae3a4dfb5ff4794ad9"), looks := true }, kinds := [], alts := [], laidByText := true, laidKinds := [.handle], laidTests := true, laidLooks := .later }
def FnPartsCardSaid : Prop := Claim7.holds Tryz.pinned (.plain (OpenSpec.ofChange fnPartsSpec)) fnPartsCard

/-- THE SECOND FORM's CARD OF 'laws.FnLast'. -/
def fnLastUptoCard : Claim7 := { stood := { row := fnLastUptoRow, standIns := [], harness := (true, "a9ab236d748c168e67f73424d142d0c68d827d8db1211cae3a4dfb5ff4794ad9"), looks := true }, kinds := [], alts := [], laidByText := true, laidKinds := [.handle], laidTests := true, laidLooks := .later }
def FnLastUptoCardSaid : Prop := Claim7.holds Tryz.pinned (.plain (OpenSpec.upto fnLastSpec)) fnLastUptoCard

/-- THE SECOND FORM's CARD OF 'laws.FnYield'. -/
def fnYieldUptoCard : Claim7 := { stood := { row := fnYieldUptoRow, standIns := [], harness := (true, "a9ab236d748c168e67f73424d142d0c68d827d8db1211cae3a4dfb5ff4794ad9"), looks := true }, kinds := [], alts := [], laidByText := true, laidKinds := [.handle], laidTests := true, laidLooks := .later }
def FnYieldUptoCardSaid : Prop := Claim7.holds Tryz.pinned (.plain (OpenSpec.upto fnYieldSpec)) fnYieldUptoCard

/-- THE SECOND FORM's CARD OF 'laws.FnDropEmpty'. -/
def fnDropEmptyUptoCard : Claim7 := { stood := { row := fnDropEmptyUptoRow, standIns := [], harness := (true, "a9ab236d748c168e67f73424d142d0c68d827d8db1211cae3a4dfb5ff4794ad9"), looks := true }, kinds := [], alts := [], laidByText := true, laidKinds := [.handle], laidTests := true, laidLooks := .later }
def FnDropEmptyUptoCardSaid : Prop := Claim7.holds Tryz.pinned (.plain (OpenSpec.upto fnDropEmptySpec)) fnDropEmptyUptoCard

/-- THE SECOND FORM's CARD OF 'laws.FnPlug'. -/
def fnPlugUptoCard : Claim7 := { stood := { row := fnPlugUptoRow, standIns := [], harness := (true, "a9ab236d748c168e67f73424d142d0c68d827d8db1211cae3a4dfb5ff4794ad9"), looks := true }, kinds := [], alts := [], laidByText := true, laidKinds := [.handle], laidTests := true, laidLooks := .later }
def FnPlugUptoCardSaid : Prop := Claim7.holds Tryz.pinned (.plain (OpenSpec.upto fnPlugSpec)) fnPlugUptoCard

/-- THE SECOND FORM's CARD OF 'laws.FnWake'. -/
def fnWakeUptoCard : Claim7 := { stood := { row := fnWakeUptoRow, standIns := [], harness := (true, "a9ab236d748c168e67f73424d142d0c68d827d8db1211cae3a4dfb5ff4794ad9"), looks := true }, kinds := [], alts := [], laidByText := true, laidKinds := [.handle], laidTests := true, laidLooks := .later }
def FnWakeUptoCardSaid : Prop := Claim7.holds Tryz.pinned (.plain (OpenSpec.upto fnWakeSpec)) fnWakeUptoCard

/-- THE SECOND FORM's CARD OF 'laws.FnFork'. -/
def fnForkUptoCard : Claim7 := { stood := { row := fnForkUptoRow, standIns := [], harness := (true, "a9ab236d748c168e67f73424d142d0c68d827d8db1211cae3a4dfb5ff4794ad9"), looks := true }, kinds := [], alts := [], laidByText := true, laidKinds := [.handle], laidTests := true, laidLooks := .later }
def FnForkUptoCardSaid : Prop := Claim7.holds Tryz.pinned (.plain (OpenSpec.upto fnForkSpec)) fnForkUptoCard

/-- THE SECOND FORM's CARD OF 'laws.FnIdle'. -/
def fnIdleUptoCard : Claim7 := { stood := { row := fnIdleUptoRow, standIns := [], harness := (true, "a9ab236d748c168e67f73424d142d0c68d827d8db1211cae3a4dfb5ff4794ad9"), looks := true }, kinds := [], alts := [], laidByText := true, laidKinds := [.handle], laidTests := true, laidLooks := .later }
def FnIdleUptoCardSaid : Prop := Claim7.holds Tryz.pinned (.plain (OpenSpec.upto fnIdleSpec)) fnIdleUptoCard

/-- THE SECOND FORM's CARD OF 'laws.FnEither'. -/
def fnEitherUptoCard : Claim7 := { stood := { row := fnEitherUptoRow, standIns := [], harness := (true, "a9ab236d748c168e67f73424d142d0c68d827d8db1211cae3a4dfb5ff4794ad9"), looks := true }, kinds := [], alts := [], laidByText := true, laidKinds := [.handle], laidTests := true, laidLooks := .later }
def FnEitherUptoCardSaid : Prop := Claim7.holds Tryz.pinned (.plain (OpenSpec.upto fnEitherSpec)) fnEitherUptoCard

/-- THE SECOND FORM's CARD OF 'laws.FnParts'. -/
def fnPartsUptoCard : Claim7 := { stood := { row := fnPartsUptoRow, standIns := [], harness := (true, "a9ab236d748c168e67f73424d142d0c68d827d8db1211cae3a4dfb5ff4794ad9"), looks := true }, kinds := [], alts := [], laidByText := true, laidKinds := [.handle], laidTests := true, laidLooks := .later }
def FnPartsUptoCardSaid : Prop := Claim7.holds Tryz.pinned (.plain (OpenSpec.upto fnPartsSpec)) fnPartsUptoCard
end Rows
end Go.Proofs.YtnclplgaicdapaaGreatDoor
