/-
  DERIVED. GIVEN WITH THE SEED: THE CARDS: each row of YtnofpcbjpcoghaaGreatDoorRows.lean that lists a variable, with what it lists TIED to the program's text (the seventh form; the later family's looks); each row that meets fmt, with fmt's text TOLD by the authors' own Lean function (tested against real Go, not proved from fmt's source: count such statements apart). THE CARD IS WHAT COUNTS. Prove the row's statement (the work); the ties are given (YtnofpcbjpcoghaaGreatDoorTie.lean); close each card by the builder's one call (the guide's Derived/Test/ToyasCard.lean, 'card_holds'). Laid BY PROGRAM, IN A SANDBOX (cutbox-door.mjs). By AI agents, Wed Nov 11 2026. No macro, syntax, notation, axiom, sorry.
-/
import Derived.Test.YtnofpcbjpcoghaaGreatDoorRows
import GoSem.ClaimSeven
namespace Go.Proofs.YtnofpcbjpcoghaaGreatDoor
namespace Rows

/-- THE TIED CARD OF 'laws.FnExactTaskBlock'. -/
def fnExactTaskBlockCard : Claim7 := { stood := { row := fnExactTaskBlockRow, standIns := [], harness := (true, "9a2db749c4e1da49af693d2f5d0fd59435ac8af3900714f8b0eeabae75e6dba7"), looks := true }, kinds := [], alts := [], laidByText := true, laidKinds := [.handle], laidTests := true, laidLooks := .later }
def FnExactTaskBlockCardSaid : Prop := Claim7.holds Tryz.pinned (.plain (OpenSpec.ofChange fnExactTaskBlockSpec)) fnExactTaskBlockCard

/-- THE TIED CARD OF 'laws.FnExactTaskExit'. -/
def fnExactTaskExitCard : Claim7 := { stood := { row := fnExactTaskExitRow, standIns := [], harness := (true, "9a2db749c4e1da49af693d2f5d0fd59435ac8af3900714f8b0eeabae75e6dba7"), looks := true }, kinds := [], alts := [], laidByText := true, laidKinds := [.handle], laidTests := true, laidLooks := .later }
def FnExactTaskExitCardSaid : Prop := Claim7.holds Tryz.pinned (.plain (OpenSpec.ofChange fnExactTaskExitSpec)) fnExactTaskExitCard

/-- THE TIED CARD OF 'laws.FnExactTaskNice'. -/
def fnExactTaskNiceCard : Claim7 := { stood := { row := fnExactTaskNiceRow, standIns := [], harness := (true, "9a2db749c4e1da49af693d2f5d0fd59435ac8af3900714f8b0eeabae75e6dba7"), looks := true }, kinds := [], alts := [], laidByText := true, laidKinds := [.handle], laidTests := true, laidLooks := .later }
def FnExactTaskNiceCardSaid : Prop := Claim7.holds Tryz.pinned (.plain (OpenSpec.ofChange fnExactTaskNiceSpec)) fnExactTaskNiceCard

/-- THE TIED CARD OF 'laws.FnExactGroupLimit'. -/
def fnExactGroupLimitCard : Claim7 := { stood := { row := fnExactGroupLimitRow, standIns := [], harness := (true, "9a2db749c4e1da49af693d2f5d0fd59435ac8af3900714f8b0eeabae75e6dba7"), looks := true }, kinds := [], alts := [], laidByText := true, laidKinds := [.handle], laidTests := true, laidLooks := .later }
def FnExactGroupLimitCardSaid : Prop := Claim7.holds Tryz.pinned (.plain (OpenSpec.ofChange fnExactGroupLimitSpec)) fnExactGroupLimitCard

/-- THE TIED CARD OF 'laws.FnExactTimePass'. -/
def fnExactTimePassCard : Claim7 := { stood := { row := fnExactTimePassRow, standIns := [], harness := (true, "9a2db749c4e1da49af693d2f5d0fd59435ac8af3900714f8b0eeabae75e6dba7"), looks := true }, kinds := [], alts := [], laidByText := true, laidKinds := [.handle], laidTests := true, laidLooks := .later }
def FnExactTimePassCardSaid : Prop := Claim7.holds Tryz.pinned (.plain (OpenSpec.ofChange fnExactTimePassSpec)) fnExactTimePassCard

/-- THE TIED CARD OF 'laws.FnExactGroupWeigh'. -/
def fnExactGroupWeighCard : Claim7 := { stood := { row := fnExactGroupWeighRow, standIns := [], harness := (true, "9a2db749c4e1da49af693d2f5d0fd59435ac8af3900714f8b0eeabae75e6dba7"), looks := true }, kinds := [], alts := [], laidByText := true, laidKinds := [.handle], laidTests := true, laidLooks := .later }
def FnExactGroupWeighCardSaid : Prop := Claim7.holds Tryz.pinned (.plain (OpenSpec.ofChange fnExactGroupWeighSpec)) fnExactGroupWeighCard

/-- THE TIED CARD OF 'laws.FnExactTaskPin'. -/
def fnExactTaskPinCard : Claim7 := { stood := { row := fnExactTaskPinRow, standIns := [], harness := (true, "9a2db749c4e1da49af693d2f5d0fd59435ac8af3900714f8b0eeabae75e6dba7"), looks := true }, kinds := [], alts := [], laidByText := true, laidKinds := [.handle], laidTests := true, laidLooks := .later }
def FnExactTaskPinCardSaid : Prop := Claim7.holds Tryz.pinned (.plain (OpenSpec.ofChange fnExactTaskPinSpec)) fnExactTaskPinCard

/-- THE TIED CARD OF 'laws.FnExactGroupPin'. -/
def fnExactGroupPinCard : Claim7 := { stood := { row := fnExactGroupPinRow, standIns := [], harness := (true, "9a2db749c4e1da49af693d2f5d0fd59435ac8af3900714f8b0eeabae75e6dba7"), looks := true }, kinds := [], alts := [], laidByText := true, laidKinds := [.handle], laidTests := true, laidLooks := .later }
def FnExactGroupPinCardSaid : Prop := Claim7.holds Tryz.pinned (.plain (OpenSpec.ofChange fnExactGroupPinSpec)) fnExactGroupPinCard

/-- THE TIED CARD OF 'laws.FnExactCpuOn'. -/
def fnExactCpuOnCard : Claim7 := { stood := { row := fnExactCpuOnRow, standIns := [], harness := (true, "9a2db749c4e1da49af693d2f5d0fd59435ac8af3900714f8b0eeabae75e6dba7"), looks := true }, kinds := [], alts := [], laidByText := true, laidKinds := [.handle], laidTests := true, laidLooks := .later }
def FnExactCpuOnCardSaid : Prop := Claim7.holds Tryz.pinned (.plain (OpenSpec.ofChange fnExactCpuOnSpec)) fnExactCpuOnCard

/-- THE TIED CARD OF 'laws.FnExactTaskFork'. -/
def fnExactTaskForkCard : Claim7 := { stood := { row := fnExactTaskForkRow, standIns := [], harness := (true, "9a2db749c4e1da49af693d2f5d0fd59435ac8af3900714f8b0eeabae75e6dba7"), looks := true }, kinds := [], alts := [], laidByText := true, laidKinds := [.handle], laidTests := true, laidLooks := .later }
def FnExactTaskForkCardSaid : Prop := Claim7.holds Tryz.pinned (.plain (OpenSpec.ofChange fnExactTaskForkSpec)) fnExactTaskForkCard

/-- THE SECOND FORM's CARD OF 'laws.FnExactTaskBlock'. -/
def fnExactTaskBlockUptoCard : Claim7 := { stood := { row := fnExactTaskBlockUptoRow, standIns := [], harness := (true, "9a2db749c4e1da49af693d2f5d0fd59435ac8af3900714f8b0eeabae75e6dba7"), looks := true }, kinds := [], alts := [], laidByText := true, laidKinds := [.handle], laidTests := true, laidLooks := .later }
def FnExactTaskBlockUptoCardSaid : Prop := Claim7.holds Tryz.pinned (.plain (OpenSpec.upto fnExactTaskBlockSpec)) fnExactTaskBlockUptoCard

/-- THE SECOND FORM's CARD OF 'laws.FnExactTaskExit'. -/
def fnExactTaskExitUptoCard : Claim7 := { stood := { row := fnExactTaskExitUptoRow, standIns := [], harness := (true, "9a2db749c4e1da49af693d2f5d0fd59435ac8af3900714f8b0eeabae75e6dba7"), looks := true }, kinds := [], alts := [], laidByText := true, laidKinds := [.handle], laidTests := true, laidLooks := .later }
def FnExactTaskExitUptoCardSaid : Prop := Claim7.holds Tryz.pinned (.plain (OpenSpec.upto fnExactTaskExitSpec)) fnExactTaskExitUptoCard

/-- THE SECOND FORM's CARD OF 'laws.FnExactTaskNice'. -/
def fnExactTaskNiceUptoCard : Claim7 := { stood := { row := fnExactTaskNiceUptoRow, standIns := [], harness := (true, "9a2db749c4e1da49af693d2f5d0fd59435ac8af3900714f8b0eeabae75e6dba7"), looks := true }, kinds := [], alts := [], laidByText := true, laidKinds := [.handle], laidTests := true, laidLooks := .later }
def FnExactTaskNiceUptoCardSaid : Prop := Claim7.holds Tryz.pinned (.plain (OpenSpec.upto fnExactTaskNiceSpec)) fnExactTaskNiceUptoCard

/-- THE SECOND FORM's CARD OF 'laws.FnExactGroupLimit'. -/
def fnExactGroupLimitUptoCard : Claim7 := { stood := { row := fnExactGroupLimitUptoRow, standIns := [], harness := (true, "9a2db749c4e1da49af693d2f5d0fd59435ac8af3900714f8b0eeabae75e6dba7"), looks := true }, kinds := [], alts := [], laidByText := true, laidKinds := [.handle], laidTests := true, laidLooks := .later }
def FnExactGroupLimitUptoCardSaid : Prop := Claim7.holds Tryz.pinned (.plain (OpenSpec.upto fnExactGroupLimitSpec)) fnExactGroupLimitUptoCard

/-- THE SECOND FORM's CARD OF 'laws.FnExactTimePass'. -/
def fnExactTimePassUptoCard : Claim7 := { stood := { row := fnExactTimePassUptoRow, standIns := [], harness := (true, "9a2db749c4e1da49af693d2f5d0fd59435ac8af3900714f8b0eeabae75e6dba7"), looks := true }, kinds := [], alts := [], laidByText := true, laidKinds := [.handle], laidTests := true, laidLooks := .later }
def FnExactTimePassUptoCardSaid : Prop := Claim7.holds Tryz.pinned (.plain (OpenSpec.upto fnExactTimePassSpec)) fnExactTimePassUptoCard

/-- THE SECOND FORM's CARD OF 'laws.FnExactGroupWeigh'. -/
def fnExactGroupWeighUptoCard : Claim7 := { stood := { row := fnExactGroupWeighUptoRow, standIns := [], harness := (true, "9a2db749c4e1da49af693d2f5d0fd59435ac8af3900714f8b0eeabae75e6dba7"), looks := true }, kinds := [], alts := [], laidByText := true, laidKinds := [.handle], laidTests := true, laidLooks := .later }
def FnExactGroupWeighUptoCardSaid : Prop := Claim7.holds Tryz.pinned (.plain (OpenSpec.upto fnExactGroupWeighSpec)) fnExactGroupWeighUptoCard

/-- THE SECOND FORM's CARD OF 'laws.FnExactTaskPin'. -/
def fnExactTaskPinUptoCard : Claim7 := { stood := { row := fnExactTaskPinUptoRow, standIns := [], harness := (true, "9a2db749c4e1da49af693d2f5d0fd59435ac8af3900714f8b0eeabae75e6dba7"), looks := true }, kinds := [], alts := [], laidByText := true, laidKinds := [.handle], laidTests := true, laidLooks := .later }
def FnExactTaskPinUptoCardSaid : Prop := Claim7.holds Tryz.pinned (.plain (OpenSpec.upto fnExactTaskPinSpec)) fnExactTaskPinUptoCard

/-- THE SECOND FORM's CARD OF 'laws.FnExactGroupPin'. -/
def fnExactGroupPinUptoCard : Claim7 := { stood := { row := fnExactGroupPinUptoRow, standIns := [], harness := (true, "9a2db749c4e1da49af693d2f5d0fd59435ac8af3900714f8b0eeabae75e6dba7"), looks := true }, kinds := [], alts := [], laidByText := true, laidKinds := [.handle], laidTests := true, laidLooks := .later }
def FnExactGroupPinUptoCardSaid : Prop := Claim7.holds Tryz.pinned (.plain (OpenSpec.upto fnExactGroupPinSpec)) fnExactGroupPinUptoCard

/-- THE SECOND FORM's CARD OF 'laws.FnExactCpuOn'. -/
def fnExactCpuOnUptoCard : Claim7 := { stood := { row := fnExactCpuOnUptoRow, standIns := [], harness := (true, "9a2db749c4e1da49af693d2f5d0fd59435ac8af3900714f8b0eeabae75e6dba7"), looks := true }, kinds := [], alts := [], laidByText := true, laidKinds := [.handle], laidTests := true, laidLooks := .later }
def FnExactCpuOnUptoCardSaid : Prop := Claim7.holds Tryz.pinned (.plain (OpenSpec.upto fnExactCpuOnSpec)) fnExactCpuOnUptoCard

/-- THE SECOND FORM's CARD OF 'laws.FnExactTaskFork'. -/
def fnExactTaskForkUptoCard : Claim7 := { stood := { row := fnExactTaskForkUptoRow, standIns := [], harness := (true, "9a2db749c4e1da49af693d2f5d0fd59435ac8af3900714f8b0eeabae75e6dba7"), looks := true }, kinds := [], alts := [], laidByText := true, laidKinds := [.handle], laidTests := true, laidLooks := .later }
def FnExactTaskForkUptoCardSaid : Prop := Claim7.holds Tryz.pinned (.plain (OpenSpec.upto fnExactTaskForkSpec)) fnExactTaskForkUptoCard
end Rows
end Go.Proofs.YtnofpcbjpcoghaaGreatDoor
