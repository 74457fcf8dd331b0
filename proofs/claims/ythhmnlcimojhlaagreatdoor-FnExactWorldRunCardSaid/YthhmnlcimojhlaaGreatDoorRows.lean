/-
  NARROWER THAN 'FOR EVERY INPUT', by the rows' own cells (each row's printed sentence says how): FnExactGroupWeigh: laid · FnExactTaskPin: laid · FnExactGroupPin: laid · FnExactCpuOn: laid · FnExactTaskFork: laid · FnExactCpuOff: laid · FnExactTaskWake: laid · FnExactWorldRun: laid · FnExactCpuBalance: laid.
  DERIVED. THE GIVEN ROWS OF THIS SEAT. 9 by the template 'for every input the law returns true; each argument reads behind the call as it read before'; 0 by the template 'total and deterministic' (their statements: YthhmnlcimojhlaaGreatDoorTotals.lean).
  GIVEN WITH THE SEED: the statements are not yours to turn. If you find one false, say at which input.
  Laid BY PROGRAM, IN A SANDBOX (cutbox-rows.mjs): the forced cells as the released guide's own fill.sh prints them over the translation c4408025db365cfb… (all of the seat's roots in one cut). By AI agents, Wed Nov 11 2026. No macro, syntax, notation, axiom, sorry.
-/
import Derived.Test.YthhmnlcimojhlaaGreatDoorChecked
import GoSem.Claim
import GoSem.ClaimJoined
import GoSem.ClaimMapViews
import Derived.JoinedTies
import Derived.KernelRfl
namespace Go.Proofs.YthhmnlcimojhlaaGreatDoor
/- THE CELL 'sum', in the pinned program and in every row, IS THE sha256 OF THE DUMP (.gsa) THAT YthhmnlcimojhlaaGreatDoorProg.lean LOADS. Nothing in Lean hashes anything: it is a label: what it is worth is what the hold of that sum in a sandbox is worth. -/
noncomputable def Tryz.pinned : Pinned := { name := "ythhmnlcimojhlaagreatdoor", sum := "c4408025db365cfbad8895125eb735cf6e12ff723f8ed62044d8b993d855a3e1", checked := Tryz.checked }
namespace Rows
def none {H : Type} : Left H := { results := [], args := [] }

/- WHAT THE LISTED PACKAGE-LEVEL VARIABLES READ AS WHEN THE CALL BEGINS. Each datum BY PROGRAM (the guide's laid-datum.mjs) off the statement by which the dump's own 'gosem.cut.vars' lays the variable. In a bare row this is a premise. The card (YthhmnlcimojhlaaGreatDoorCards.lean) ties it to the program's text. -/
def laid_errors_errorType {H : Type} : DataW H := .iface "internal/reflectlite.rtype" (.agg [.ptr (.lit (.string [101, 114, 114, 111, 114]))])

/-- 'laws.FnExactGroupWeigh': WHATEVER THE INPUT: true; the input reads as it did. -/
def fnExactGroupWeighSpec : ChangeSpec := { name := "fnExactGroupWeigh", fn := fun _ => fun
  | [d1, d2, d3] => { results := [.lit (.bool true)], args := [d1, d2, d3] }
  | _ => none }
def fnExactGroupWeighRow : OpenClaim := { program := "ythhmnlcimojhlaagreatdoor", sum := "c4408025db365cfbad8895125eb735cf6e12ff723f8ed62044d8b993d855a3e1", func := "loop.example/stint/laws.FnExactGroupWeigh", spec := "fnExactGroupWeigh", inPlace := ["internal/reflectlite.ValueOf", "(internal/reflectlite.Value).Type", "(internal/reflectlite.Value).IsNil", "internal/reflectlite.TypeOf", "(internal/reflectlite.Value).Elem", "(internal/reflectlite.Value).Set"], unfollowed := true, recurses := true, named := ["errors.errorType"], plainKeys := false, apart := false, laid := [("errors.errorType", laid_errors_errorType)] }
def FnExactGroupWeighSaid : Prop := fnExactGroupWeighRow.holds Tryz.pinned (OpenSpec.ofChange fnExactGroupWeighSpec)

/-- ITS FALSE NEIGHBOUR: 'it returns false'. Refute it at one input. -/
def fnExactGroupWeighWrong : ChangeSpec := { name := "fnExactGroupWeigh", fn := fun _ => fun
  | [d1, d2, d3] => { results := [.lit (.bool false)], args := [d1, d2, d3] }
  | _ => none }
def FnExactGroupWeighWrongFalsely : Prop := fnExactGroupWeighRow.holds Tryz.pinned (OpenSpec.ofChange fnExactGroupWeighWrong)

/-- 'laws.FnExactTaskPin': WHATEVER THE INPUT: true; the input reads as it did. -/
def fnExactTaskPinSpec : ChangeSpec := { name := "fnExactTaskPin", fn := fun _ => fun
  | [d1, d2, d3] => { results := [.lit (.bool true)], args := [d1, d2, d3] }
  | _ => none }
def fnExactTaskPinRow : OpenClaim := { program := "ythhmnlcimojhlaagreatdoor", sum := "c4408025db365cfbad8895125eb735cf6e12ff723f8ed62044d8b993d855a3e1", func := "loop.example/stint/laws.FnExactTaskPin", spec := "fnExactTaskPin", inPlace := ["internal/reflectlite.ValueOf", "(internal/reflectlite.Value).Type", "(internal/reflectlite.Value).IsNil", "internal/reflectlite.TypeOf", "(internal/reflectlite.Value).Elem", "(internal/reflectlite.Value).Set"], unfollowed := true, recurses := true, named := ["errors.errorType"], plainKeys := false, apart := false, laid := [("errors.errorType", laid_errors_errorType)] }
def FnExactTaskPinSaid : Prop := fnExactTaskPinRow.holds Tryz.pinned (OpenSpec.ofChange fnExactTaskPinSpec)

/-- ITS FALSE NEIGHBOUR: 'it returns false'. Refute it at one input. -/
def fnExactTaskPinWrong : ChangeSpec := { name := "fnExactTaskPin", fn := fun _ => fun
  | [d1, d2, d3] => { results := [.lit (.bool false)], args := [d1, d2, d3] }
  | _ => none }
def FnExactTaskPinWrongFalsely : Prop := fnExactTaskPinRow.holds Tryz.pinned (OpenSpec.ofChange fnExactTaskPinWrong)

/-- 'laws.FnExactGroupPin': WHATEVER THE INPUT: true; the input reads as it did. -/
def fnExactGroupPinSpec : ChangeSpec := { name := "fnExactGroupPin", fn := fun _ => fun
  | [d1, d2, d3] => { results := [.lit (.bool true)], args := [d1, d2, d3] }
  | _ => none }
def fnExactGroupPinRow : OpenClaim := { program := "ythhmnlcimojhlaagreatdoor", sum := "c4408025db365cfbad8895125eb735cf6e12ff723f8ed62044d8b993d855a3e1", func := "loop.example/stint/laws.FnExactGroupPin", spec := "fnExactGroupPin", inPlace := ["internal/reflectlite.ValueOf", "(internal/reflectlite.Value).Type", "(internal/reflectlite.Value).IsNil", "internal/reflectlite.TypeOf", "(internal/reflectlite.Value).Elem", "(internal/reflectlite.Value).Set"], unfollowed := true, recurses := true, named := ["errors.errorType"], plainKeys := false, apart := false, laid := [("errors.errorType", laid_errors_errorType)] }
def FnExactGroupPinSaid : Prop := fnExactGroupPinRow.holds Tryz.pinned (OpenSpec.ofChange fnExactGroupPinSpec)

/-- ITS FALSE NEIGHBOUR: 'it returns false'. Refute it at one input. -/
def fnExactGroupPinWrong : ChangeSpec := { name := "fnExactGroupPin", fn := fun _ => fun
  | [d1, d2, d3] => { results := [.lit (.bool false)], args := [d1, d2, d3] }
  | _ => none }
def FnExactGroupPinWrongFalsely : Prop := fnExactGroupPinRow.holds Tryz.pinned (OpenSpec.ofChange fnExactGroupPinWrong)

/-- 'laws.FnExactCpuOn': WHATEVER THE INPUT: true; the input reads as it did. -/
def fnExactCpuOnSpec : ChangeSpec := { name := "fnExactCpuOn", fn := fun _ => fun
  | [d1, d2] => { results := [.lit (.bool true)], args := [d1, d2] }
  | _ => none }
def fnExactCpuOnRow : OpenClaim := { program := "ythhmnlcimojhlaagreatdoor", sum := "c4408025db365cfbad8895125eb735cf6e12ff723f8ed62044d8b993d855a3e1", func := "loop.example/stint/laws.FnExactCpuOn", spec := "fnExactCpuOn", inPlace := ["internal/reflectlite.ValueOf", "(internal/reflectlite.Value).Type", "(internal/reflectlite.Value).IsNil", "internal/reflectlite.TypeOf", "(internal/reflectlite.Value).Elem", "(internal/reflectlite.Value).Set"], unfollowed := true, recurses := true, named := ["errors.errorType"], plainKeys := false, apart := false, laid := [("errors.errorType", laid_errors_errorType)] }
def FnExactCpuOnSaid : Prop := fnExactCpuOnRow.holds Tryz.pinned (OpenSpec.ofChange fnExactCpuOnSpec)

/-- ITS FALSE NEIGHBOUR: 'it returns false'. Refute it at one input. -/
def fnExactCpuOnWrong : ChangeSpec := { name := "fnExactCpuOn", fn := fun _ => fun
  | [d1, d2] => { results := [.lit (.bool false)], args := [d1, d2] }
  | _ => none }
def FnExactCpuOnWrongFalsely : Prop := fnExactCpuOnRow.holds Tryz.pinned (OpenSpec.ofChange fnExactCpuOnWrong)

/-- 'laws.FnExactTaskFork': WHATEVER THE INPUT: true; the input reads as it did. -/
def fnExactTaskForkSpec : ChangeSpec := { name := "fnExactTaskFork", fn := fun _ => fun
  | [d1, d2, d3, d4] => { results := [.lit (.bool true)], args := [d1, d2, d3, d4] }
  | _ => none }
def fnExactTaskForkRow : OpenClaim := { program := "ythhmnlcimojhlaagreatdoor", sum := "c4408025db365cfbad8895125eb735cf6e12ff723f8ed62044d8b993d855a3e1", func := "loop.example/stint/laws.FnExactTaskFork", spec := "fnExactTaskFork", inPlace := ["internal/reflectlite.ValueOf", "(internal/reflectlite.Value).Type", "(internal/reflectlite.Value).IsNil", "internal/reflectlite.TypeOf", "(internal/reflectlite.Value).Elem", "(internal/reflectlite.Value).Set"], unfollowed := true, recurses := true, named := ["errors.errorType"], plainKeys := false, apart := false, laid := [("errors.errorType", laid_errors_errorType)] }
def FnExactTaskForkSaid : Prop := fnExactTaskForkRow.holds Tryz.pinned (OpenSpec.ofChange fnExactTaskForkSpec)

/-- ITS FALSE NEIGHBOUR: 'it returns false'. Refute it at one input. -/
def fnExactTaskForkWrong : ChangeSpec := { name := "fnExactTaskFork", fn := fun _ => fun
  | [d1, d2, d3, d4] => { results := [.lit (.bool false)], args := [d1, d2, d3, d4] }
  | _ => none }
def FnExactTaskForkWrongFalsely : Prop := fnExactTaskForkRow.holds Tryz.pinned (OpenSpec.ofChange fnExactTaskForkWrong)

/-- 'laws.FnExactCpuOff': WHATEVER THE INPUT: true; the input reads as it did. -/
def fnExactCpuOffSpec : ChangeSpec := { name := "fnExactCpuOff", fn := fun _ => fun
  | [d1, d2] => { results := [.lit (.bool true)], args := [d1, d2] }
  | _ => none }
def fnExactCpuOffRow : OpenClaim := { program := "ythhmnlcimojhlaagreatdoor", sum := "c4408025db365cfbad8895125eb735cf6e12ff723f8ed62044d8b993d855a3e1", func := "loop.example/stint/laws.FnExactCpuOff", spec := "fnExactCpuOff", inPlace := ["internal/reflectlite.ValueOf", "(internal/reflectlite.Value).Type", "(internal/reflectlite.Value).IsNil", "internal/reflectlite.TypeOf", "(internal/reflectlite.Value).Elem", "(internal/reflectlite.Value).Set"], unfollowed := true, recurses := true, named := ["errors.errorType"], plainKeys := false, apart := false, laid := [("errors.errorType", laid_errors_errorType)] }
def FnExactCpuOffSaid : Prop := fnExactCpuOffRow.holds Tryz.pinned (OpenSpec.ofChange fnExactCpuOffSpec)

/-- ITS FALSE NEIGHBOUR: 'it returns false'. Refute it at one input. -/
def fnExactCpuOffWrong : ChangeSpec := { name := "fnExactCpuOff", fn := fun _ => fun
  | [d1, d2] => { results := [.lit (.bool false)], args := [d1, d2] }
  | _ => none }
def FnExactCpuOffWrongFalsely : Prop := fnExactCpuOffRow.holds Tryz.pinned (OpenSpec.ofChange fnExactCpuOffWrong)

/-- 'laws.FnExactTaskWake': WHATEVER THE INPUT: true; the input reads as it did. -/
def fnExactTaskWakeSpec : ChangeSpec := { name := "fnExactTaskWake", fn := fun _ => fun
  | [d1, d2] => { results := [.lit (.bool true)], args := [d1, d2] }
  | _ => none }
def fnExactTaskWakeRow : OpenClaim := { program := "ythhmnlcimojhlaagreatdoor", sum := "c4408025db365cfbad8895125eb735cf6e12ff723f8ed62044d8b993d855a3e1", func := "loop.example/stint/laws.FnExactTaskWake", spec := "fnExactTaskWake", inPlace := ["internal/reflectlite.ValueOf", "(internal/reflectlite.Value).Type", "(internal/reflectlite.Value).IsNil", "internal/reflectlite.TypeOf", "(internal/reflectlite.Value).Elem", "(internal/reflectlite.Value).Set"], unfollowed := true, recurses := true, named := ["errors.errorType"], plainKeys := false, apart := false, laid := [("errors.errorType", laid_errors_errorType)] }
def FnExactTaskWakeSaid : Prop := fnExactTaskWakeRow.holds Tryz.pinned (OpenSpec.ofChange fnExactTaskWakeSpec)

/-- ITS FALSE NEIGHBOUR: 'it returns false'. Refute it at one input. -/
def fnExactTaskWakeWrong : ChangeSpec := { name := "fnExactTaskWake", fn := fun _ => fun
  | [d1, d2] => { results := [.lit (.bool false)], args := [d1, d2] }
  | _ => none }
def FnExactTaskWakeWrongFalsely : Prop := fnExactTaskWakeRow.holds Tryz.pinned (OpenSpec.ofChange fnExactTaskWakeWrong)

/-- 'laws.FnExactWorldRun': WHATEVER THE INPUT: true; the input reads as it did. -/
def fnExactWorldRunSpec : ChangeSpec := { name := "fnExactWorldRun", fn := fun _ => fun
  | [d1, d2, d3] => { results := [.lit (.bool true)], args := [d1, d2, d3] }
  | _ => none }
def fnExactWorldRunRow : OpenClaim := { program := "ythhmnlcimojhlaagreatdoor", sum := "c4408025db365cfbad8895125eb735cf6e12ff723f8ed62044d8b993d855a3e1", func := "loop.example/stint/laws.FnExactWorldRun", spec := "fnExactWorldRun", inPlace := ["internal/reflectlite.ValueOf", "(internal/reflectlite.Value).Type", "(internal/reflectlite.Value).IsNil", "internal/reflectlite.TypeOf", "(internal/reflectlite.Value).Elem", "(internal/reflectlite.Value).Set"], unfollowed := true, recurses := true, named := ["errors.errorType"], plainKeys := false, apart := false, laid := [("errors.errorType", laid_errors_errorType)] }
def FnExactWorldRunSaid : Prop := fnExactWorldRunRow.holds Tryz.pinned (OpenSpec.ofChange fnExactWorldRunSpec)

/-- ITS FALSE NEIGHBOUR: 'it returns false'. Refute it at one input. -/
def fnExactWorldRunWrong : ChangeSpec := { name := "fnExactWorldRun", fn := fun _ => fun
  | [d1, d2, d3] => { results := [.lit (.bool false)], args := [d1, d2, d3] }
  | _ => none }
def FnExactWorldRunWrongFalsely : Prop := fnExactWorldRunRow.holds Tryz.pinned (OpenSpec.ofChange fnExactWorldRunWrong)

/-- 'laws.FnExactCpuBalance': WHATEVER THE INPUT: true; the input reads as it did. -/
def fnExactCpuBalanceSpec : ChangeSpec := { name := "fnExactCpuBalance", fn := fun _ => fun
  | [d1, d2] => { results := [.lit (.bool true)], args := [d1, d2] }
  | _ => none }
def fnExactCpuBalanceRow : OpenClaim := { program := "ythhmnlcimojhlaagreatdoor", sum := "c4408025db365cfbad8895125eb735cf6e12ff723f8ed62044d8b993d855a3e1", func := "loop.example/stint/laws.FnExactCpuBalance", spec := "fnExactCpuBalance", inPlace := ["internal/reflectlite.ValueOf", "(internal/reflectlite.Value).Type", "(internal/reflectlite.Value).IsNil", "internal/reflectlite.TypeOf", "(internal/reflectlite.Value).Elem", "(internal/reflectlite.Value).Set"], unfollowed := true, recurses := true, named := ["errors.errorType"], plainKeys := false, apart := false, laid := [("errors.errorType", laid_errors_errorType)] }
def FnExactCpuBalanceSaid : Prop := fnExactCpuBalanceRow.holds Tryz.pinned (OpenSpec.ofChange fnExactCpuBalanceSpec)

/-- ITS FALSE NEIGHBOUR: 'it returns false'. Refute it at one input. -/
def fnExactCpuBalanceWrong : ChangeSpec := { name := "fnExactCpuBalance", fn := fun _ => fun
  | [d1, d2] => { results := [.lit (.bool false)], args := [d1, d2] }
  | _ => none }
def FnExactCpuBalanceWrongFalsely : Prop := fnExactCpuBalanceRow.holds Tryz.pinned (OpenSpec.ofChange fnExactCpuBalanceWrong)

/- THE SECOND FORM. 'bulk': how many values and letters a reading holds, each counted each time it is reached (what is shared counts as often as it is met; a slice's spare places count too). A statement '..UptoSaid' is the law's where the arguments, and the package variables that the reading takes, are together of bulk at most 1048576: NARROWER than '..Said'. Prove '..Said' where nothing that the law and all that it calls make is longer than what came in: it says more and counts as full. Else prove '..UptoSaid'. A law counts once. -/
mutual
def uptoBulk {H : Type} : DataW H → Nat
  | .lit (.string bytes) => bytes.length + 1
  | .lit _ => 1
  | .nil => 1
  | .ptr d => uptoBulk d + 1
  | .slice elems spare => uptoBulkAll elems + uptoBulkAll spare + 1
  | .agg parts => uptoBulkAll parts + 1
  | .iface _ d => uptoBulk d + 1
  | .map entries => uptoBulkEntries entries + 1
  | .held _ => 1
def uptoBulkAll {H : Type} : List (DataW H) → Nat
  | [] => 0
  | d :: r => uptoBulk d + uptoBulkAll r
def uptoBulkEntries {H : Type} : List (Lit × DataW H) → Nat
  | [] => 0
  | x :: r => uptoBulkEntry x + uptoBulkEntries r
def uptoBulkEntry {H : Type} : Lit × DataW H → Nat
  | (.string bytes, d) => bytes.length + uptoBulk d + 1
  | (_, d) => uptoBulk d + 1
 end
def uptoSmall : (H : Type) → List (DataW H) → Bool := fun _ ds => decide (uptoBulkAll ds ≤ 1048576)
def OpenSpec.upto (s : _root_.Go.ChangeSpec) : _root_.Go.OpenSpec := { _root_.Go.OpenSpec.ofChange s with cond := some uptoSmall }

/-- 'laws.FnExactGroupWeigh', WHERE WHAT IT READS IS OF BULK AT MOST 1048576: true; the input reads as it did. -/
def fnExactGroupWeighUptoRow : OpenClaim := { program := "ythhmnlcimojhlaagreatdoor", sum := "c4408025db365cfbad8895125eb735cf6e12ff723f8ed62044d8b993d855a3e1", func := "loop.example/stint/laws.FnExactGroupWeigh", spec := "fnExactGroupWeigh", inPlace := ["internal/reflectlite.ValueOf", "(internal/reflectlite.Value).Type", "(internal/reflectlite.Value).IsNil", "internal/reflectlite.TypeOf", "(internal/reflectlite.Value).Elem", "(internal/reflectlite.Value).Set"], unfollowed := true, recurses := true, named := ["errors.errorType"], plainKeys := false, apart := false, laid := [("errors.errorType", laid_errors_errorType)], narrowed := true }
def FnExactGroupWeighUptoSaid : Prop := fnExactGroupWeighUptoRow.holds Tryz.pinned (OpenSpec.upto fnExactGroupWeighSpec)

/-- 'laws.FnExactTaskPin', WHERE WHAT IT READS IS OF BULK AT MOST 1048576: true; the input reads as it did. -/
def fnExactTaskPinUptoRow : OpenClaim := { program := "ythhmnlcimojhlaagreatdoor", sum := "c4408025db365cfbad8895125eb735cf6e12ff723f8ed62044d8b993d855a3e1", func := "loop.example/stint/laws.FnExactTaskPin", spec := "fnExactTaskPin", inPlace := ["internal/reflectlite.ValueOf", "(internal/reflectlite.Value).Type", "(internal/reflectlite.Value).IsNil", "internal/reflectlite.TypeOf", "(internal/reflectlite.Value).Elem", "(internal/reflectlite.Value).Set"], unfollowed := true, recurses := true, named := ["errors.errorType"], plainKeys := false, apart := false, laid := [("errors.errorType", laid_errors_errorType)], narrowed := true }
def FnExactTaskPinUptoSaid : Prop := fnExactTaskPinUptoRow.holds Tryz.pinned (OpenSpec.upto fnExactTaskPinSpec)

/-- 'laws.FnExactGroupPin', WHERE WHAT IT READS IS OF BULK AT MOST 1048576: true; the input reads as it did. -/
def fnExactGroupPinUptoRow : OpenClaim := { program := "ythhmnlcimojhlaagreatdoor", sum := "c4408025db365cfbad8895125eb735cf6e12ff723f8ed62044d8b993d855a3e1", func := "loop.example/stint/laws.FnExactGroupPin", spec := "fnExactGroupPin", inPlace := ["internal/reflectlite.ValueOf", "(internal/reflectlite.Value).Type", "(internal/reflectlite.Value).IsNil", "internal/reflectlite.TypeOf", "(internal/reflectlite.Value).Elem", "(internal/reflectlite.Value).Set"], unfollowed := true, recurses := true, named := ["errors.errorType"], plainKeys := false, apart := false, laid := [("errors.errorType", laid_errors_errorType)], narrowed := true }
def FnExactGroupPinUptoSaid : Prop := fnExactGroupPinUptoRow.holds Tryz.pinned (OpenSpec.upto fnExactGroupPinSpec)

/-- 'laws.FnExactCpuOn', WHERE WHAT IT READS IS OF BULK AT MOST 1048576: true; the input reads as it did. -/
def fnExactCpuOnUptoRow : OpenClaim := { program := "ythhmnlcimojhlaagreatdoor", sum := "c4408025db365cfbad8895125eb735cf6e12ff723f8ed62044d8b993d855a3e1", func := "loop.example/stint/laws.FnExactCpuOn", spec := "fnExactCpuOn", inPlace := ["internal/reflectlite.ValueOf", "(internal/reflectlite.Value).Type", "(internal/reflectlite.Value).IsNil", "internal/reflectlite.TypeOf", "(internal/reflectlite.Value).Elem", "(internal/reflectlite.Value).Set"], unfollowed := true, recurses := true, named := ["errors.errorType"], plainKeys := false, apart := false, laid := [("errors.errorType", laid_errors_errorType)], narrowed := true }
def FnExactCpuOnUptoSaid : Prop := fnExactCpuOnUptoRow.holds Tryz.pinned (OpenSpec.upto fnExactCpuOnSpec)

/-- 'laws.FnExactTaskFork', WHERE WHAT IT READS IS OF BULK AT MOST 1048576: true; the input reads as it did. -/
def fnExactTaskForkUptoRow : OpenClaim := { program := "ythhmnlcimojhlaagreatdoor", sum := "c4408025db365cfbad8895125eb735cf6e12ff723f8ed62044d8b993d855a3e1", func := "loop.example/stint/laws.FnExactTaskFork", spec := "fnExactTaskFork", inPlace := ["internal/reflectlite.ValueOf", "(internal/reflectlite.Value).Type", "(internal/reflectlite.Value).IsNil", "internal/reflectlite.TypeOf", "(internal/reflectlite.Value).Elem", "(internal/reflectlite.Value).Set"], unfollowed := true, recurses := true, named := ["errors.errorType"], plainKeys := false, apart := false, laid := [("errors.errorType", laid_errors_errorType)], narrowed := true }
def FnExactTaskForkUptoSaid : Prop := fnExactTaskForkUptoRow.holds Tryz.pinned (OpenSpec.upto fnExactTaskForkSpec)

/-- 'laws.FnExactCpuOff', WHERE WHAT IT READS IS OF BULK AT MOST 1048576: true; the input reads as it did. -/
def fnExactCpuOffUptoRow : OpenClaim := { program := "ythhmnlcimojhlaagreatdoor", sum := "c4408025db365cfbad8895125eb735cf6e12ff723f8ed62044d8b993d855a3e1", func := "loop.example/stint/laws.FnExactCpuOff", spec := "fnExactCpuOff", inPlace := ["internal/reflectlite.ValueOf", "(internal/reflectlite.Value).Type", "(internal/reflectlite.Value).IsNil", "internal/reflectlite.TypeOf", "(internal/reflectlite.Value).Elem", "(internal/reflectlite.Value).Set"], unfollowed := true, recurses := true, named := ["errors.errorType"], plainKeys := false, apart := false, laid := [("errors.errorType", laid_errors_errorType)], narrowed := true }
def FnExactCpuOffUptoSaid : Prop := fnExactCpuOffUptoRow.holds Tryz.pinned (OpenSpec.upto fnExactCpuOffSpec)

/-- 'laws.FnExactTaskWake', WHERE WHAT IT READS IS OF BULK AT MOST 1048576: true; the input reads as it did. -/
def fnExactTaskWakeUptoRow : OpenClaim := { program := "ythhmnlcimojhlaagreatdoor", sum := "c4408025db365cfbad8895125eb735cf6e12ff723f8ed62044d8b993d855a3e1", func := "loop.example/stint/laws.FnExactTaskWake", spec := "fnExactTaskWake", inPlace := ["internal/reflectlite.ValueOf", "(internal/reflectlite.Value).Type", "(internal/reflectlite.Value).IsNil", "internal/reflectlite.TypeOf", "(internal/reflectlite.Value).Elem", "(internal/reflectlite.Value).Set"], unfollowed := true, recurses := true, named := ["errors.errorType"], plainKeys := false, apart := false, laid := [("errors.errorType", laid_errors_errorType)], narrowed := true }
def FnExactTaskWakeUptoSaid : Prop := fnExactTaskWakeUptoRow.holds Tryz.pinned (OpenSpec.upto fnExactTaskWakeSpec)

/-- 'laws.FnExactWorldRun', WHERE WHAT IT READS IS OF BULK AT MOST 1048576: true; the input reads as it did. -/
def fnExactWorldRunUptoRow : OpenClaim := { program := "ythhmnlcimojhlaagreatdoor", sum := "c4408025db365cfbad8895125eb735cf6e12ff723f8ed62044d8b993d855a3e1", func := "loop.example/stint/laws.FnExactWorldRun", spec := "fnExactWorldRun", inPlace := ["internal/reflectlite.ValueOf", "(internal/reflectlite.Value).Type", "(internal/reflectlite.Value).IsNil", "internal/reflectlite.TypeOf", "(internal/reflectlite.Value).Elem", "(internal/reflectlite.Value).Set"], unfollowed := true, recurses := true, named := ["errors.errorType"], plainKeys := false, apart := false, laid := [("errors.errorType", laid_errors_errorType)], narrowed := true }
def FnExactWorldRunUptoSaid : Prop := fnExactWorldRunUptoRow.holds Tryz.pinned (OpenSpec.upto fnExactWorldRunSpec)

/-- 'laws.FnExactCpuBalance', WHERE WHAT IT READS IS OF BULK AT MOST 1048576: true; the input reads as it did. -/
def fnExactCpuBalanceUptoRow : OpenClaim := { program := "ythhmnlcimojhlaagreatdoor", sum := "c4408025db365cfbad8895125eb735cf6e12ff723f8ed62044d8b993d855a3e1", func := "loop.example/stint/laws.FnExactCpuBalance", spec := "fnExactCpuBalance", inPlace := ["internal/reflectlite.ValueOf", "(internal/reflectlite.Value).Type", "(internal/reflectlite.Value).IsNil", "internal/reflectlite.TypeOf", "(internal/reflectlite.Value).Elem", "(internal/reflectlite.Value).Set"], unfollowed := true, recurses := true, named := ["errors.errorType"], plainKeys := false, apart := false, laid := [("errors.errorType", laid_errors_errorType)], narrowed := true }
def FnExactCpuBalanceUptoSaid : Prop := fnExactCpuBalanceUptoRow.holds Tryz.pinned (OpenSpec.upto fnExactCpuBalanceSpec)

end Rows
end Go.Proofs.YthhmnlcimojhlaaGreatDoor
