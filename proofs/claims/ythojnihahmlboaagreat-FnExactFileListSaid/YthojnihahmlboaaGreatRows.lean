/-
  No cell of these rows narrows 'for every input' (looked for: loops, veiled, ifaces, maps, wideKeys, modest, calm, conditions, laid).
  DERIVED. THE GIVEN ROWS OF THIS SEAT. 9 by the template 'for every input the law returns true; each argument reads behind the call as it read before'; 0 by the template 'total and deterministic' (their statements: YthojnihahmlboaaGreatTotals.lean).
  GIVEN WITH THE SEED: the statements are not yours to turn. If you find one false, say at which input.
  Laid BY PROGRAM, IN A SANDBOX (cutbox-rows.mjs): the forced cells as the released guide's own fill.sh prints them over the translation 93ca1b71d3cd1f4a… (all of the seat's roots in one cut). By AI agents, Wed Nov 11 2026. No macro, syntax, notation, axiom, sorry.
-/
import Derived.Test.YthojnihahmlboaaGreatChecked
import GoSem.Claim
import GoSem.ClaimJoined
import GoSem.ClaimMapViews
import Derived.JoinedTies
import Derived.KernelRfl
namespace Go.Proofs.YthojnihahmlboaaGreat
/- THE CELL 'sum', in the pinned program and in every row, IS THE sha256 OF THE DUMP (.gsa) THAT YthojnihahmlboaaGreatProg.lean LOADS. Nothing in Lean hashes anything: it is a label: what it is worth is what the hold of that sum in a sandbox is worth. -/
noncomputable def Tryz.pinned : Pinned := { name := "ythojnihahmlboaagreat", sum := "93ca1b71d3cd1f4a86b0a03c441342ddcc09aa241906d430c9258e60af39e40b", checked := Tryz.checked }
namespace Rows
def none {H : Type} : Left H := { results := [], args := [] }

/-- 'laws.FnExactCpuWaiting': WHATEVER THE INPUT: true; the input reads as it did. -/
def fnExactCpuWaitingSpec : ChangeSpec := { name := "fnExactCpuWaiting", fn := fun _ => fun
  | [d1, d2] => { results := [.lit (.bool true)], args := [d1, d2] }
  | _ => none }
def fnExactCpuWaitingRow : OpenClaim := { program := "ythojnihahmlboaagreat", sum := "93ca1b71d3cd1f4a86b0a03c441342ddcc09aa241906d430c9258e60af39e40b", func := "loop.example/stint/laws.FnExactCpuWaiting", spec := "fnExactCpuWaiting", unfollowed := true, recurses := true, plainKeys := false, apart := false }
def FnExactCpuWaitingSaid : Prop := fnExactCpuWaitingRow.holds Tryz.pinned (OpenSpec.ofChange fnExactCpuWaitingSpec)

/-- ITS FALSE NEIGHBOUR: 'it returns false'. Refute it at one input. -/
def fnExactCpuWaitingWrong : ChangeSpec := { name := "fnExactCpuWaiting", fn := fun _ => fun
  | [d1, d2] => { results := [.lit (.bool false)], args := [d1, d2] }
  | _ => none }
def FnExactCpuWaitingWrongFalsely : Prop := fnExactCpuWaitingRow.holds Tryz.pinned (OpenSpec.ofChange fnExactCpuWaitingWrong)

/-- 'laws.FnExactCpuLoad': WHATEVER THE INPUT: true; the input reads as it did. -/
def fnExactCpuLoadSpec : ChangeSpec := { name := "fnExactCpuLoad", fn := fun _ => fun
  | [d1, d2] => { results := [.lit (.bool true)], args := [d1, d2] }
  | _ => none }
def fnExactCpuLoadRow : OpenClaim := { program := "ythojnihahmlboaagreat", sum := "93ca1b71d3cd1f4a86b0a03c441342ddcc09aa241906d430c9258e60af39e40b", func := "loop.example/stint/laws.FnExactCpuLoad", spec := "fnExactCpuLoad", unfollowed := true, recurses := true, plainKeys := false, apart := false }
def FnExactCpuLoadSaid : Prop := fnExactCpuLoadRow.holds Tryz.pinned (OpenSpec.ofChange fnExactCpuLoadSpec)

/-- ITS FALSE NEIGHBOUR: 'it returns false'. Refute it at one input. -/
def fnExactCpuLoadWrong : ChangeSpec := { name := "fnExactCpuLoad", fn := fun _ => fun
  | [d1, d2] => { results := [.lit (.bool false)], args := [d1, d2] }
  | _ => none }
def FnExactCpuLoadWrongFalsely : Prop := fnExactCpuLoadRow.holds Tryz.pinned (OpenSpec.ofChange fnExactCpuLoadWrong)

/-- 'laws.FnExactGroupInside': WHATEVER THE INPUT: true; the input reads as it did. -/
def fnExactGroupInsideSpec : ChangeSpec := { name := "fnExactGroupInside", fn := fun _ => fun
  | [d1, d2, d3] => { results := [.lit (.bool true)], args := [d1, d2, d3] }
  | _ => none }
def fnExactGroupInsideRow : OpenClaim := { program := "ythojnihahmlboaagreat", sum := "93ca1b71d3cd1f4a86b0a03c441342ddcc09aa241906d430c9258e60af39e40b", func := "loop.example/stint/laws.FnExactGroupInside", spec := "fnExactGroupInside", unfollowed := true, recurses := true, plainKeys := false, apart := false }
def FnExactGroupInsideSaid : Prop := fnExactGroupInsideRow.holds Tryz.pinned (OpenSpec.ofChange fnExactGroupInsideSpec)

/-- ITS FALSE NEIGHBOUR: 'it returns false'. Refute it at one input. -/
def fnExactGroupInsideWrong : ChangeSpec := { name := "fnExactGroupInside", fn := fun _ => fun
  | [d1, d2, d3] => { results := [.lit (.bool false)], args := [d1, d2, d3] }
  | _ => none }
def FnExactGroupInsideWrongFalsely : Prop := fnExactGroupInsideRow.holds Tryz.pinned (OpenSpec.ofChange fnExactGroupInsideWrong)

/-- 'laws.FnExactGroupShare': WHATEVER THE INPUT: true; the input reads as it did. -/
def fnExactGroupShareSpec : ChangeSpec := { name := "fnExactGroupShare", fn := fun _ => fun
  | [d1, d2, d3] => { results := [.lit (.bool true)], args := [d1, d2, d3] }
  | _ => none }
def fnExactGroupShareRow : OpenClaim := { program := "ythojnihahmlboaagreat", sum := "93ca1b71d3cd1f4a86b0a03c441342ddcc09aa241906d430c9258e60af39e40b", func := "loop.example/stint/laws.FnExactGroupShare", spec := "fnExactGroupShare", unfollowed := true, recurses := true, plainKeys := false, apart := false }
def FnExactGroupShareSaid : Prop := fnExactGroupShareRow.holds Tryz.pinned (OpenSpec.ofChange fnExactGroupShareSpec)

/-- ITS FALSE NEIGHBOUR: 'it returns false'. Refute it at one input. -/
def fnExactGroupShareWrong : ChangeSpec := { name := "fnExactGroupShare", fn := fun _ => fun
  | [d1, d2, d3] => { results := [.lit (.bool false)], args := [d1, d2, d3] }
  | _ => none }
def FnExactGroupShareWrongFalsely : Prop := fnExactGroupShareRow.holds Tryz.pinned (OpenSpec.ofChange fnExactGroupShareWrong)

/-- 'laws.FnExactFileList': WHATEVER THE INPUT: true; the input reads as it did. -/
def fnExactFileListSpec : ChangeSpec := { name := "fnExactFileList", fn := fun _ => fun
  | [d1, d2] => { results := [.lit (.bool true)], args := [d1, d2] }
  | _ => none }
def fnExactFileListRow : OpenClaim := { program := "ythojnihahmlboaagreat", sum := "93ca1b71d3cd1f4a86b0a03c441342ddcc09aa241906d430c9258e60af39e40b", func := "loop.example/stint/laws.FnExactFileList", spec := "fnExactFileList", inPlace := ["internal/abi.NoEscape"], unfollowed := true, recurses := true, plainKeys := false, apart := false }
def FnExactFileListSaid : Prop := fnExactFileListRow.holds Tryz.pinned (OpenSpec.ofChange fnExactFileListSpec)

/-- ITS FALSE NEIGHBOUR: 'it returns false'. Refute it at one input. -/
def fnExactFileListWrong : ChangeSpec := { name := "fnExactFileList", fn := fun _ => fun
  | [d1, d2] => { results := [.lit (.bool false)], args := [d1, d2] }
  | _ => none }
def FnExactFileListWrongFalsely : Prop := fnExactFileListRow.holds Tryz.pinned (OpenSpec.ofChange fnExactFileListWrong)

/-- 'laws.FnExactCpuBusiest': WHATEVER THE INPUT: true; the input reads as it did. -/
def fnExactCpuBusiestSpec : ChangeSpec := { name := "fnExactCpuBusiest", fn := fun _ => fun
  | [d1, d2, d3] => { results := [.lit (.bool true)], args := [d1, d2, d3] }
  | _ => none }
def fnExactCpuBusiestRow : OpenClaim := { program := "ythojnihahmlboaagreat", sum := "93ca1b71d3cd1f4a86b0a03c441342ddcc09aa241906d430c9258e60af39e40b", func := "loop.example/stint/laws.FnExactCpuBusiest", spec := "fnExactCpuBusiest", unfollowed := true, recurses := true, plainKeys := false, apart := false }
def FnExactCpuBusiestSaid : Prop := fnExactCpuBusiestRow.holds Tryz.pinned (OpenSpec.ofChange fnExactCpuBusiestSpec)

/-- ITS FALSE NEIGHBOUR: 'it returns false'. Refute it at one input. -/
def fnExactCpuBusiestWrong : ChangeSpec := { name := "fnExactCpuBusiest", fn := fun _ => fun
  | [d1, d2, d3] => { results := [.lit (.bool false)], args := [d1, d2, d3] }
  | _ => none }
def FnExactCpuBusiestWrongFalsely : Prop := fnExactCpuBusiestRow.holds Tryz.pinned (OpenSpec.ofChange fnExactCpuBusiestWrong)

/-- 'laws.FnExactCpuPull': WHATEVER THE INPUT: true; the input reads as it did. -/
def fnExactCpuPullSpec : ChangeSpec := { name := "fnExactCpuPull", fn := fun _ => fun
  | [d1, d2] => { results := [.lit (.bool true)], args := [d1, d2] }
  | _ => none }
def fnExactCpuPullRow : OpenClaim := { program := "ythojnihahmlboaagreat", sum := "93ca1b71d3cd1f4a86b0a03c441342ddcc09aa241906d430c9258e60af39e40b", func := "loop.example/stint/laws.FnExactCpuPull", spec := "fnExactCpuPull", unfollowed := true, recurses := true, plainKeys := false, apart := false }
def FnExactCpuPullSaid : Prop := fnExactCpuPullRow.holds Tryz.pinned (OpenSpec.ofChange fnExactCpuPullSpec)

/-- ITS FALSE NEIGHBOUR: 'it returns false'. Refute it at one input. -/
def fnExactCpuPullWrong : ChangeSpec := { name := "fnExactCpuPull", fn := fun _ => fun
  | [d1, d2] => { results := [.lit (.bool false)], args := [d1, d2] }
  | _ => none }
def FnExactCpuPullWrongFalsely : Prop := fnExactCpuPullRow.holds Tryz.pinned (OpenSpec.ofChange fnExactCpuPullWrong)

/-- 'laws.FnExactWorldPick': WHATEVER THE INPUT: true; the input reads as it did. -/
def fnExactWorldPickSpec : ChangeSpec := { name := "fnExactWorldPick", fn := fun _ => fun
  | [d1, d2] => { results := [.lit (.bool true)], args := [d1, d2] }
  | _ => none }
def fnExactWorldPickRow : OpenClaim := { program := "ythojnihahmlboaagreat", sum := "93ca1b71d3cd1f4a86b0a03c441342ddcc09aa241906d430c9258e60af39e40b", func := "loop.example/stint/laws.FnExactWorldPick", spec := "fnExactWorldPick", unfollowed := true, recurses := true, plainKeys := false, apart := false }
def FnExactWorldPickSaid : Prop := fnExactWorldPickRow.holds Tryz.pinned (OpenSpec.ofChange fnExactWorldPickSpec)

/-- ITS FALSE NEIGHBOUR: 'it returns false'. Refute it at one input. -/
def fnExactWorldPickWrong : ChangeSpec := { name := "fnExactWorldPick", fn := fun _ => fun
  | [d1, d2] => { results := [.lit (.bool false)], args := [d1, d2] }
  | _ => none }
def FnExactWorldPickWrongFalsely : Prop := fnExactWorldPickRow.holds Tryz.pinned (OpenSpec.ofChange fnExactWorldPickWrong)

/-- 'laws.FnExactFileRead': WHATEVER THE INPUT: true; the input reads as it did. -/
def fnExactFileReadSpec : ChangeSpec := { name := "fnExactFileRead", fn := fun _ => fun
  | [d1, d2] => { results := [.lit (.bool true)], args := [d1, d2] }
  | _ => none }
def fnExactFileReadRow : OpenClaim := { program := "ythojnihahmlboaagreat", sum := "93ca1b71d3cd1f4a86b0a03c441342ddcc09aa241906d430c9258e60af39e40b", func := "loop.example/stint/laws.FnExactFileRead", spec := "fnExactFileRead", unfollowed := true, recurses := true, plainKeys := false, apart := false }
def FnExactFileReadSaid : Prop := fnExactFileReadRow.holds Tryz.pinned (OpenSpec.ofChange fnExactFileReadSpec)

/-- ITS FALSE NEIGHBOUR: 'it returns false'. Refute it at one input. -/
def fnExactFileReadWrong : ChangeSpec := { name := "fnExactFileRead", fn := fun _ => fun
  | [d1, d2] => { results := [.lit (.bool false)], args := [d1, d2] }
  | _ => none }
def FnExactFileReadWrongFalsely : Prop := fnExactFileReadRow.holds Tryz.pinned (OpenSpec.ofChange fnExactFileReadWrong)

/- THE SECOND FORM. 'bulk': how many values and letters a reading holds, each counted each time it is reached (what is shared counts as often as it is met; a slice's spare places count too). A statement '..UptoSaid' is the law's where the arguments, and the package variables that the reading takes, are together of bulk at most 1048576: NARROWER than '..Said'. Prove '..Said' where nothing that the law and all that it calls make is longer than what came in: it says more and counts as full. Else prove '..UptoSaid'. A law counts once. -/
mutual
def uptoBulk {H : Type} : DataW H → Nat
  | .lit (.string bytes) => bytes.length + 1
  | .lit _ => 1
  | .nil => 1
  | .ptr d => uptoBulk d + 1
  | .slice elems spare => uptoBulkAll elems + uptoBulkAll spare + 1
  | .agg parts => uptoBulkAll parts + 1
  | .iface _ d => uptoBulk d + 1
  | .map entries => uptoBulkEntries entries + 1
  | .held _ => 1
def uptoBulkAll {H : Type} : List (DataW H) → Nat
  | [] => 0
  | d :: r => uptoBulk d + uptoBulkAll r
def uptoBulkEntries {H : Type} : List (Lit × DataW H) → Nat
  | [] => 0
  | x :: r => uptoBulkEntry x + uptoBulkEntries r
def uptoBulkEntry {H : Type} : Lit × DataW H → Nat
  | (.string bytes, d) => bytes.length + uptoBulk d + 1
  | (_, d) => uptoBulk d + 1
 end
def uptoSmall : (H : Type) → List (DataW H) → Bool := fun _ ds => decide (uptoBulkAll ds ≤ 1048576)
def OpenSpec.upto (s : _root_.Go.ChangeSpec) : _root_.Go.OpenSpec := { _root_.Go.OpenSpec.ofChange s with cond := some uptoSmall }

/-- 'laws.FnExactCpuWaiting', WHERE WHAT IT READS IS OF BULK AT MOST 1048576: true; the input reads as it did. -/
def fnExactCpuWaitingUptoRow : OpenClaim := { program := "ythojnihahmlboaagreat", sum := "93ca1b71d3cd1f4a86b0a03c441342ddcc09aa241906d430c9258e60af39e40b", func := "loop.example/stint/laws.FnExactCpuWaiting", spec := "fnExactCpuWaiting", unfollowed := true, recurses := true, plainKeys := false, apart := false, narrowed := true }
def FnExactCpuWaitingUptoSaid : Prop := fnExactCpuWaitingUptoRow.holds Tryz.pinned (OpenSpec.upto fnExactCpuWaitingSpec)

/-- 'laws.FnExactCpuLoad', WHERE WHAT IT READS IS OF BULK AT MOST 1048576: true; the input reads as it did. -/
def fnExactCpuLoadUptoRow : OpenClaim := { program := "ythojnihahmlboaagreat", sum := "93ca1b71d3cd1f4a86b0a03c441342ddcc09aa241906d430c9258e60af39e40b", func := "loop.example/stint/laws.FnExactCpuLoad", spec := "fnExactCpuLoad", unfollowed := true, recurses := true, plainKeys := false, apart := false, narrowed := true }
def FnExactCpuLoadUptoSaid : Prop := fnExactCpuLoadUptoRow.holds Tryz.pinned (OpenSpec.upto fnExactCpuLoadSpec)

/-- 'laws.FnExactGroupInside', WHERE WHAT IT READS IS OF BULK AT MOST 1048576: true; the input reads as it did. -/
def fnExactGroupInsideUptoRow : OpenClaim := { program := "ythojnihahmlboaagreat", sum := "93ca1b71d3cd1f4a86b0a03c441342ddcc09aa241906d430c9258e60af39e40b", func := "loop.example/stint/laws.FnExactGroupInside", spec := "fnExactGroupInside", unfollowed := true, recurses := true, plainKeys := false, apart := false, narrowed := true }
def FnExactGroupInsideUptoSaid : Prop := fnExactGroupInsideUptoRow.holds Tryz.pinned (OpenSpec.upto fnExactGroupInsideSpec)

/-- 'laws.FnExactGroupShare', WHERE WHAT IT READS IS OF BULK AT MOST 1048576: true; the input reads as it did. -/
def fnExactGroupShareUptoRow : OpenClaim := { program := "ythojnihahmlboaagreat", sum := "93ca1b71d3cd1f4a86b0a03c441342ddcc09aa241906d430c9258e60af39e40b", func := "loop.example/stint/laws.FnExactGroupShare", spec := "fnExactGroupShare", unfollowed := true, recurses := true, plainKeys := false, apart := false, narrowed := true }
def FnExactGroupShareUptoSaid : Prop := fnExactGroupShareUptoRow.holds Tryz.pinned (OpenSpec.upto fnExactGroupShareSpec)

/-- 'laws.FnExactFileList', WHERE WHAT IT READS IS OF BULK AT MOST 1048576: true; the input reads as it did. -/
def fnExactFileListUptoRow : OpenClaim := { program := "ythojnihahmlboaagreat", sum := "93ca1b71d3cd1f4a86b0a03c441342ddcc09aa241906d430c9258e60af39e40b", func := "loop.example/stint/laws.FnExactFileList", spec := "fnExactFileList", inPlace := ["internal/abi.NoEscape"], unfollowed := true, recurses := true, plainKeys := false, apart := false, narrowed := true }
def FnExactFileListUptoSaid : Prop := fnExactFileListUptoRow.holds Tryz.pinned (OpenSpec.upto fnExactFileListSpec)

/-- 'laws.FnExactCpuBusiest', WHERE WHAT IT READS IS OF BULK AT MOST 1048576: true; the input reads as it did. -/
def fnExactCpuBusiestUptoRow : OpenClaim := { program := "ythojnihahmlboaagreat", sum := "93ca1b71d3cd1f4a86b0a03c441342ddcc09aa241906d430c9258e60af39e40b", func := "loop.example/stint/laws.FnExactCpuBusiest", spec := "fnExactCpuBusiest", unfollowed := true, recurses := true, plainKeys := false, apart := false, narrowed := true }
def FnExactCpuBusiestUptoSaid : Prop := fnExactCpuBusiestUptoRow.holds Tryz.pinned (OpenSpec.upto fnExactCpuBusiestSpec)

/-- 'laws.FnExactCpuPull', WHERE WHAT IT READS IS OF BULK AT MOST 1048576: true; the input reads as it did. -/
def fnExactCpuPullUptoRow : OpenClaim := { program := "ythojnihahmlboaagreat", sum := "93ca1b71d3cd1f4a86b0a03c441342ddcc09aa241906d430c9258e60af39e40b", func := "loop.example/stint/laws.FnExactCpuPull", spec := "fnExactCpuPull", unfollowed := true, recurses := true, plainKeys := false, apart := false, narrowed := true }
def FnExactCpuPullUptoSaid : Prop := fnExactCpuPullUptoRow.holds Tryz.pinned (OpenSpec.upto fnExactCpuPullSpec)

/-- 'laws.FnExactWorldPick', WHERE WHAT IT READS IS OF BULK AT MOST 1048576: true; the input reads as it did. -/
def fnExactWorldPickUptoRow : OpenClaim := { program := "ythojnihahmlboaagreat", sum := "93ca1b71d3cd1f4a86b0a03c441342ddcc09aa241906d430c9258e60af39e40b", func := "loop.example/stint/laws.FnExactWorldPick", spec := "fnExactWorldPick", unfollowed := true, recurses := true, plainKeys := false, apart := false, narrowed := true }
def FnExactWorldPickUptoSaid : Prop := fnExactWorldPickUptoRow.holds Tryz.pinned (OpenSpec.upto fnExactWorldPickSpec)

/-- 'laws.FnExactFileRead', WHERE WHAT IT READS IS OF BULK AT MOST 1048576: true; the input reads as it did. -/
def fnExactFileReadUptoRow : OpenClaim := { program := "ythojnihahmlboaagreat", sum := "93ca1b71d3cd1f4a86b0a03c441342ddcc09aa241906d430c9258e60af39e40b", func := "loop.example/stint/laws.FnExactFileRead", spec := "fnExactFileRead", unfollowed := true, recurses := true, plainKeys := false, apart := false, narrowed := true }
def FnExactFileReadUptoSaid : Prop := fnExactFileReadUptoRow.holds Tryz.pinned (OpenSpec.upto fnExactFileReadSpec)

end Rows
end Go.Proofs.YthojnihahmlboaaGreat
