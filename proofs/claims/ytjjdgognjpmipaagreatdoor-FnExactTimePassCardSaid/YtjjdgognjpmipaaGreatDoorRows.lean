/-
  NARROWER THAN 'FOR EVERY INPUT', by the rows' own cells (each row's printed sentence says how): FnExactTaskExit: laid · FnExactTaskNice: laid · FnExactGroupLimit: laid · FnExactTimePass: laid.
  DERIVED. THE GIVEN ROWS OF THIS SEAT. 4 by the template 'for every input the law returns true; each argument reads behind the call as it read before'; 0 by the template 'total and deterministic' (their statements: YtjjdgognjpmipaaGreatDoorTotals.lean).
  GIVEN WITH THE SEED: the statements are not yours to turn. If you find one false, say at which input.
  Laid BY PROGRAM, IN A SANDBOX (cutbox-rows.mjs): the forced cells as the released guide's own fill.sh prints them over the translation cca7a987c0454e4c… (all of the seat's roots in one cut). By AI agents, Wed Nov 11 2026. No macro, syntax, notation, axiom, sorry.
-/
import Derived.Test.YtjjdgognjpmipaaGreatDoorChecked
import GoSem.Claim
import GoSem.ClaimJoined
import GoSem.ClaimMapViews
import Derived.JoinedTies
import Derived.KernelRfl
namespace Go.Proofs.YtjjdgognjpmipaaGreatDoor
/- THE CELL 'sum', in the pinned program and in every row, IS THE sha256 OF THE DUMP (.gsa) THAT YtjjdgognjpmipaaGreatDoorProg.lean LOADS. Nothing in Lean hashes anything: it is a label: what it is worth is what the hold of that sum in a sandbox is worth. -/
noncomputable def Tryz.pinned : Pinned := { name := "ytjjdgognjpmipaagreatdoor", sum := "cca7a987c0454e4c6a79fb48ad2fd824c5ef929b8b22b10470f58965a763237d", checked := Tryz.checked }
namespace Rows
def none {H : Type} : Left H := { results := [], args := [] }

/- WHAT THE LISTED PACKAGE-LEVEL VARIABLES READ AS WHEN THE CALL BEGINS. Each datum BY PROGRAM (the guide's laid-datum.mjs) off the statement by which the dump's own 'gosem.cut.vars' lays the variable. In a bare row this is a premise. The card (YtjjdgognjpmipaaGreatDoorCards.lean) ties it to the program's text. -/
def laid_errors_errorType {H : Type} : DataW H := .iface "internal/reflectlite.rtype" (.agg [.ptr (.lit (.string [101, 114, 114, 111, 114]))])

/-- 'laws.FnExactTaskExit': WHATEVER THE INPUT: true; the input reads as it did. -/
def fnExactTaskExitSpec : ChangeSpec := { name := "fnExactTaskExit", fn := fun _ => fun
  | [d1, d2] => { results := [.lit (.bool true)], args := [d1, d2] }
  | _ => none }
def fnExactTaskExitRow : OpenClaim := { program := "ytjjdgognjpmipaagreatdoor", sum := "cca7a987c0454e4c6a79fb48ad2fd824c5ef929b8b22b10470f58965a763237d", func := "loop.example/stint/laws.FnExactTaskExit", spec := "fnExactTaskExit", inPlace := ["internal/reflectlite.ValueOf", "(internal/reflectlite.Value).Type", "(internal/reflectlite.Value).IsNil", "internal/reflectlite.TypeOf", "(internal/reflectlite.Value).Elem", "(internal/reflectlite.Value).Set"], unfollowed := true, recurses := true, named := ["errors.errorType"], plainKeys := false, apart := false, laid := [("errors.errorType", laid_errors_errorType)] }
def FnExactTaskExitSaid : Prop := fnExactTaskExitRow.holds Tryz.pinned (OpenSpec.ofChange fnExactTaskExitSpec)

/-- ITS FALSE NEIGHBOUR: 'it returns false'. Refute it at one input. -/
def fnExactTaskExitWrong : ChangeSpec := { name := "fnExactTaskExit", fn := fun _ => fun
  | [d1, d2] => { results := [.lit (.bool false)], args := [d1, d2] }
  | _ => none }
def FnExactTaskExitWrongFalsely : Prop := fnExactTaskExitRow.holds Tryz.pinned (OpenSpec.ofChange fnExactTaskExitWrong)

/-- 'laws.FnExactTaskNice': WHATEVER THE INPUT: true; the input reads as it did. -/
def fnExactTaskNiceSpec : ChangeSpec := { name := "fnExactTaskNice", fn := fun _ => fun
  | [d1, d2, d3] => { results := [.lit (.bool true)], args := [d1, d2, d3] }
  | _ => none }
def fnExactTaskNiceRow : OpenClaim := { program := "ytjjdgognjpmipaagreatdoor", sum := "cca7a987c0454e4c6a79fb48ad2fd824c5ef929b8b22b10470f58965a763237d", func := "loop.example/stint/laws.FnExactTaskNice", spec := "fnExactTaskNice", inPlace := ["internal/reflectlite.ValueOf", "(internal/reflectlite.Value).Type", "(internal/reflectlite.Value).IsNil", "internal/reflectlite.TypeOf", "(internal/reflectlite.Value).Elem", "(internal/reflectlite.Value).Set"], unfollowed := true, recurses := true, named := ["errors.errorType"], plainKeys := false, apart := false, laid := [("errors.errorType", laid_errors_errorType)] }
def FnExactTaskNiceSaid : Prop := fnExactTaskNiceRow.holds Tryz.pinned (OpenSpec.ofChange fnExactTaskNiceSpec)

/-- ITS FALSE NEIGHBOUR: 'it returns false'. Refute it at one input. -/
def fnExactTaskNiceWrong : ChangeSpec := { name := "fnExactTaskNice", fn := fun _ => fun
  | [d1, d2, d3] => { results := [.lit (.bool false)], args := [d1, d2, d3] }
  | _ => none }
def FnExactTaskNiceWrongFalsely : Prop := fnExactTaskNiceRow.holds Tryz.pinned (OpenSpec.ofChange fnExactTaskNiceWrong)

/-- 'laws.FnExactGroupLimit': WHATEVER THE INPUT: true; the input reads as it did. -/
def fnExactGroupLimitSpec : ChangeSpec := { name := "fnExactGroupLimit", fn := fun _ => fun
  | [d1, d2, d3, d4] => { results := [.lit (.bool true)], args := [d1, d2, d3, d4] }
  | _ => none }
def fnExactGroupLimitRow : OpenClaim := { program := "ytjjdgognjpmipaagreatdoor", sum := "cca7a987c0454e4c6a79fb48ad2fd824c5ef929b8b22b10470f58965a763237d", func := "loop.example/stint/laws.FnExactGroupLimit", spec := "fnExactGroupLimit", inPlace := ["internal/reflectlite.ValueOf", "(internal/reflectlite.Value).Type", "(internal/reflectlite.Value).IsNil", "internal/reflectlite.TypeOf", "(internal/reflectlite.Value).Elem", "(internal/reflectlite.Value).Set"], unfollowed := true, recurses := true, named := ["errors.errorType"], plainKeys := false, apart := false, laid := [("errors.errorType", laid_errors_errorType)] }
def FnExactGroupLimitSaid : Prop := fnExactGroupLimitRow.holds Tryz.pinned (OpenSpec.ofChange fnExactGroupLimitSpec)

/-- ITS FALSE NEIGHBOUR: 'it returns false'. Refute it at one input. -/
def fnExactGroupLimitWrong : ChangeSpec := { name := "fnExactGroupLimit", fn := fun _ => fun
  | [d1, d2, d3, d4] => { results := [.lit (.bool false)], args := [d1, d2, d3, d4] }
  | _ => none }
def FnExactGroupLimitWrongFalsely : Prop := fnExactGroupLimitRow.holds Tryz.pinned (OpenSpec.ofChange fnExactGroupLimitWrong)

/-- 'laws.FnExactTimePass': WHATEVER THE INPUT: true; the input reads as it did. -/
def fnExactTimePassSpec : ChangeSpec := { name := "fnExactTimePass", fn := fun _ => fun
  | [d1, d2] => { results := [.lit (.bool true)], args := [d1, d2] }
  | _ => none }
def fnExactTimePassRow : OpenClaim := { program := "ytjjdgognjpmipaagreatdoor", sum := "cca7a987c0454e4c6a79fb48ad2fd824c5ef929b8b22b10470f58965a763237d", func := "loop.example/stint/laws.FnExactTimePass", spec := "fnExactTimePass", inPlace := ["internal/reflectlite.ValueOf", "(internal/reflectlite.Value).Type", "(internal/reflectlite.Value).IsNil", "internal/reflectlite.TypeOf", "(internal/reflectlite.Value).Elem", "(internal/reflectlite.Value).Set"], unfollowed := true, recurses := true, named := ["errors.errorType"], plainKeys := false, apart := false, laid := [("errors.errorType", laid_errors_errorType)] }
def FnExactTimePassSaid : Prop := fnExactTimePassRow.holds Tryz.pinned (OpenSpec.ofChange fnExactTimePassSpec)

/-- ITS FALSE NEIGHBOUR: 'it returns false'. Refute it at one input. -/
def fnExactTimePassWrong : ChangeSpec := { name := "fnExactTimePass", fn := fun _ => fun
  | [d1, d2] => { results := [.lit (.bool false)], args := [d1, d2] }
  | _ => none }
def FnExactTimePassWrongFalsely : Prop := fnExactTimePassRow.holds Tryz.pinned (OpenSpec.ofChange fnExactTimePassWrong)

/- THE SECOND FORM. 'bulk': how many values and letters a reading holds, each counted each time it is reached (what is shared counts as often as it is met; a slice's spare places count too). A statement '..UptoSaid' is the law's where the arguments, and the package variables that the reading takes, are together of bulk at most 1048576: NARROWER than '..Said'. Prove '..Said' where nothing that the law and all that it calls make is longer than what came in: it says more and counts as full. Else prove '..UptoSaid'. A law counts once. -/
mutual
def uptoBulk {H : Type} : DataW H → Nat
  | .lit (.string bytes) => bytes.length + 1
  | .lit _ => 1
  | .nil => 1
  | .ptr d => uptoBulk d + 1
  | .slice elems spare => uptoBulkAll elems + uptoBulkAll spare + 1
  | .agg parts => uptoBulkAll parts + 1
  | .iface _ d => uptoBulk d + 1
  | .map entries => uptoBulkEntries entries + 1
  | .held _ => 1
def uptoBulkAll {H : Type} : List (DataW H) → Nat
  | [] => 0
  | d :: r => uptoBulk d + uptoBulkAll r
def uptoBulkEntries {H : Type} : List (Lit × DataW H) → Nat
  | [] => 0
  | x :: r => uptoBulkEntry x + uptoBulkEntries r
def uptoBulkEntry {H : Type} : Lit × DataW H → Nat
  | (.string bytes, d) => bytes.length + uptoBulk d + 1
  | (_, d) => uptoBulk d + 1
 end
def uptoSmall : (H : Type) → List (DataW H) → Bool := fun _ ds => decide (uptoBulkAll ds ≤ 1048576)
def OpenSpec.upto (s : _root_.Go.ChangeSpec) : _root_.Go.OpenSpec := { _root_.Go.OpenSpec.ofChange s with cond := some uptoSmall }

/-- 'laws.FnExactTaskExit', WHERE WHAT IT READS IS OF BULK AT MOST 1048576: true; the input reads as it did. -/
def fnExactTaskExitUptoRow : OpenClaim := { program := "ytjjdgognjpmipaagreatdoor", sum := "cca7a987c0454e4c6a79fb48ad2fd824c5ef929b8b22b10470f58965a763237d", func := "loop.example/stint/laws.FnExactTaskExit", spec := "fnExactTaskExit", inPlace := ["internal/reflectlite.ValueOf", "(internal/reflectlite.Value).Type", "(internal/reflectlite.Value).IsNil", "internal/reflectlite.TypeOf", "(internal/reflectlite.Value).Elem", "(internal/reflectlite.Value).Set"], unfollowed := true, recurses := true, named := ["errors.errorType"], plainKeys := false, apart := false, laid := [("errors.errorType", laid_errors_errorType)], narrowed := true }
def FnExactTaskExitUptoSaid : Prop := fnExactTaskExitUptoRow.holds Tryz.pinned (OpenSpec.upto fnExactTaskExitSpec)

/-- 'laws.FnExactTaskNice', WHERE WHAT IT READS IS OF BULK AT MOST 1048576: true; the input reads as it did. -/
def fnExactTaskNiceUptoRow : OpenClaim := { program := "ytjjdgognjpmipaagreatdoor", sum := "cca7a987c0454e4c6a79fb48ad2fd824c5ef929b8b22b10470f58965a763237d", func := "loop.example/stint/laws.FnExactTaskNice", spec := "fnExactTaskNice", inPlace := ["internal/reflectlite.ValueOf", "(internal/reflectlite.Value).Type", "(internal/reflectlite.Value).IsNil", "internal/reflectlite.TypeOf", "(internal/reflectlite.Value).Elem", "(internal/reflectlite.Value).Set"], unfollowed := true, recurses := true, named := ["errors.errorType"], plainKeys := false, apart := false, laid := [("errors.errorType", laid_errors_errorType)], narrowed := true }
def FnExactTaskNiceUptoSaid : Prop := fnExactTaskNiceUptoRow.holds Tryz.pinned (OpenSpec.upto fnExactTaskNiceSpec)

/-- 'laws.FnExactGroupLimit', WHERE WHAT IT READS IS OF BULK AT MOST 1048576: true; the input reads as it did. -/
def fnExactGroupLimitUptoRow : OpenClaim := { program := "ytjjdgognjpmipaagreatdoor", sum := "cca7a987c0454e4c6a79fb48ad2fd824c5ef929b8b22b10470f58965a763237d", func := "loop.example/stint/laws.FnExactGroupLimit", spec := "fnExactGroupLimit", inPlace := ["internal/reflectlite.ValueOf", "(internal/reflectlite.Value).Type", "(internal/reflectlite.Value).IsNil", "internal/reflectlite.TypeOf", "(internal/reflectlite.Value).Elem", "(internal/reflectlite.Value).Set"], unfollowed := true, recurses := true, named := ["errors.errorType"], plainKeys := false, apart := false, laid := [("errors.errorType", laid_errors_errorType)], narrowed := true }
def FnExactGroupLimitUptoSaid : Prop := fnExactGroupLimitUptoRow.holds Tryz.pinned (OpenSpec.upto fnExactGroupLimitSpec)

/-- 'laws.FnExactTimePass', WHERE WHAT IT READS IS OF BULK AT MOST 1048576: true; the input reads as it did. -/
def fnExactTimePassUptoRow : OpenClaim := { program := "ytjjdgognjpmipaagreatdoor", sum := "cca7a987c0454e4c6a79fb48ad2fd824c5ef929b8b22b10470f58965a763237d", func := "loop.example/stint/laws.FnExactTimePass", spec := "fnExactTimePass", inPlace := ["internal/reflectlite.ValueOf", "(internal/reflectlite.Value).Type", "(internal/reflectlite.Value).IsNil", "internal/reflectlite.TypeOf", "(internal/reflectlite.Value).Elem", "(internal/reflectlite.Value).Set"], unfollowed := true, recurses := true, named := ["errors.errorType"], plainKeys := false, apart := false, laid := [("errors.errorType", laid_errors_errorType)], narrowed := true }
def FnExactTimePassUptoSaid : Prop := fnExactTimePassUptoRow.holds Tryz.pinned (OpenSpec.upto fnExactTimePassSpec)

end Rows
end Go.Proofs.YtjjdgognjpmipaaGreatDoor
