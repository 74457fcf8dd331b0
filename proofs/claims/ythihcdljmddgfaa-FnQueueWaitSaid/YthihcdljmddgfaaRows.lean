/-
  No cell of these rows narrows 'for every input' (looked for: loops, veiled, ifaces, maps, wideKeys, modest, calm, conditions, laid).
  DERIVED. THE GIVEN ROWS OF THIS SEAT. 6 by the template 'for every input the law returns true; each argument reads behind the call as it read before'; 0 by the template 'total and deterministic' (their statements: YthihcdljmddgfaaTotals.lean).
  GIVEN WITH THE SEED: the statements are not yours to turn. If you find one false, say at which input.
  Laid BY PROGRAM, IN A SANDBOX (cutbox-rows.mjs): the forced cells as the released guide's own fill.sh prints them over the translation 8187526dbe2af05c… (all of the seat's roots in one cut). By AI agents, Wed Nov 11 2026. No macro, syntax, notation, axiom, sorry.
-/
import Derived.Test.YthihcdljmddgfaaChecked
import GoSem.Claim
import GoSem.ClaimJoined
import GoSem.ClaimMapViews
import Derived.JoinedTies
import Derived.KernelRfl
namespace Go.Proofs.Ythihcdljmddgfaa
/- THE CELL 'sum', in the pinned program and in every row, IS THE sha256 OF THE DUMP (.gsa) THAT YthihcdljmddgfaaProg.lean LOADS. Nothing in Lean hashes anything: it is a label: what it is worth is what the hold of that sum in a sandbox is worth. -/
noncomputable def Try.pinned : Pinned := { name := "ythihcdljmddgfaa", sum := "8187526dbe2af05cdd4b99261af8e0d55eda574b7cca89832a0404edda9dc477", checked := Try.checked }
namespace Rows
def none {H : Type} : Left H := { results := [], args := [] }

/-- 'laws.FnExactTreeUnder': WHATEVER THE INPUT: true; the input reads as it did. -/
def fnExactTreeUnderSpec : ChangeSpec := { name := "fnExactTreeUnder", fn := fun _ => fun
  | [d1, d2, d3] => { results := [.lit (.bool true)], args := [d1, d2, d3] }
  | _ => none }
def fnExactTreeUnderRow : OpenClaim := { program := "ythihcdljmddgfaa", sum := "8187526dbe2af05cdd4b99261af8e0d55eda574b7cca89832a0404edda9dc477", func := "loop.example/stint/laws.FnExactTreeUnder", spec := "fnExactTreeUnder", plainKeys := false, apart := false }
def FnExactTreeUnderSaid : Prop := fnExactTreeUnderRow.holds Try.pinned (OpenSpec.ofChange fnExactTreeUnderSpec)

/-- ITS FALSE NEIGHBOUR: 'it returns false'. Refute it at one input. -/
def fnExactTreeUnderWrong : ChangeSpec := { name := "fnExactTreeUnder", fn := fun _ => fun
  | [d1, d2, d3] => { results := [.lit (.bool false)], args := [d1, d2, d3] }
  | _ => none }
def FnExactTreeUnderWrongFalsely : Prop := fnExactTreeUnderRow.holds Try.pinned (OpenSpec.ofChange fnExactTreeUnderWrong)

/-- 'laws.FnQueueTop': WHATEVER THE INPUT: true; the input reads as it did. -/
def fnQueueTopSpec : ChangeSpec := { name := "fnQueueTop", fn := fun _ => fun
  | [d1, d2] => { results := [.lit (.bool true)], args := [d1, d2] }
  | _ => none }
def fnQueueTopRow : OpenClaim := { program := "ythihcdljmddgfaa", sum := "8187526dbe2af05cdd4b99261af8e0d55eda574b7cca89832a0404edda9dc477", func := "loop.example/stint/laws.FnQueueTop", spec := "fnQueueTop", unfollowed := true, recurses := true, plainKeys := false, apart := false }
def FnQueueTopSaid : Prop := fnQueueTopRow.holds Try.pinned (OpenSpec.ofChange fnQueueTopSpec)

/-- ITS FALSE NEIGHBOUR: 'it returns false'. Refute it at one input. -/
def fnQueueTopWrong : ChangeSpec := { name := "fnQueueTop", fn := fun _ => fun
  | [d1, d2] => { results := [.lit (.bool false)], args := [d1, d2] }
  | _ => none }
def FnQueueTopWrongFalsely : Prop := fnQueueTopRow.holds Try.pinned (OpenSpec.ofChange fnQueueTopWrong)

/-- 'laws.FnExactQueueDo': WHATEVER THE INPUT: true; the input reads as it did. -/
def fnExactQueueDoSpec : ChangeSpec := { name := "fnExactQueueDo", fn := fun _ => fun
  | [d1, d2] => { results := [.lit (.bool true)], args := [d1, d2] }
  | _ => none }
def fnExactQueueDoRow : OpenClaim := { program := "ythihcdljmddgfaa", sum := "8187526dbe2af05cdd4b99261af8e0d55eda574b7cca89832a0404edda9dc477", func := "loop.example/stint/laws.FnExactQueueDo", spec := "fnExactQueueDo", unfollowed := true, recurses := true, plainKeys := false, apart := false }
def FnExactQueueDoSaid : Prop := fnExactQueueDoRow.holds Try.pinned (OpenSpec.ofChange fnExactQueueDoSpec)

/-- ITS FALSE NEIGHBOUR: 'it returns false'. Refute it at one input. -/
def fnExactQueueDoWrong : ChangeSpec := { name := "fnExactQueueDo", fn := fun _ => fun
  | [d1, d2] => { results := [.lit (.bool false)], args := [d1, d2] }
  | _ => none }
def FnExactQueueDoWrongFalsely : Prop := fnExactQueueDoRow.holds Try.pinned (OpenSpec.ofChange fnExactQueueDoWrong)

/-- 'laws.FnQueueWait': WHATEVER THE INPUT: true; the input reads as it did. -/
def fnQueueWaitSpec : ChangeSpec := { name := "fnQueueWait", fn := fun _ => fun
  | [d1, d2] => { results := [.lit (.bool true)], args := [d1, d2] }
  | _ => none }
def fnQueueWaitRow : OpenClaim := { program := "ythihcdljmddgfaa", sum := "8187526dbe2af05cdd4b99261af8e0d55eda574b7cca89832a0404edda9dc477", func := "loop.example/stint/laws.FnQueueWait", spec := "fnQueueWait", unfollowed := true, recurses := true, plainKeys := false, apart := false }
def FnQueueWaitSaid : Prop := fnQueueWaitRow.holds Try.pinned (OpenSpec.ofChange fnQueueWaitSpec)

/-- ITS FALSE NEIGHBOUR: 'it returns false'. Refute it at one input. -/
def fnQueueWaitWrong : ChangeSpec := { name := "fnQueueWait", fn := fun _ => fun
  | [d1, d2] => { results := [.lit (.bool false)], args := [d1, d2] }
  | _ => none }
def FnQueueWaitWrongFalsely : Prop := fnQueueWaitRow.holds Try.pinned (OpenSpec.ofChange fnQueueWaitWrong)

/-- 'laws.FnQueuePlay': WHATEVER THE INPUT: true; the input reads as it did. -/
def fnQueuePlaySpec : ChangeSpec := { name := "fnQueuePlay", fn := fun _ => fun
  | [d1, d2] => { results := [.lit (.bool true)], args := [d1, d2] }
  | _ => none }
def fnQueuePlayRow : OpenClaim := { program := "ythihcdljmddgfaa", sum := "8187526dbe2af05cdd4b99261af8e0d55eda574b7cca89832a0404edda9dc477", func := "loop.example/stint/laws.FnQueuePlay", spec := "fnQueuePlay", unfollowed := true, recurses := true, plainKeys := false, apart := false }
def FnQueuePlaySaid : Prop := fnQueuePlayRow.holds Try.pinned (OpenSpec.ofChange fnQueuePlaySpec)

/-- ITS FALSE NEIGHBOUR: 'it returns false'. Refute it at one input. -/
def fnQueuePlayWrong : ChangeSpec := { name := "fnQueuePlay", fn := fun _ => fun
  | [d1, d2] => { results := [.lit (.bool false)], args := [d1, d2] }
  | _ => none }
def FnQueuePlayWrongFalsely : Prop := fnQueuePlayRow.holds Try.pinned (OpenSpec.ofChange fnQueuePlayWrong)

/-- 'laws.FnExactQueuePlay': WHATEVER THE INPUT: true; the input reads as it did. -/
def fnExactQueuePlaySpec : ChangeSpec := { name := "fnExactQueuePlay", fn := fun _ => fun
  | [d1, d2] => { results := [.lit (.bool true)], args := [d1, d2] }
  | _ => none }
def fnExactQueuePlayRow : OpenClaim := { program := "ythihcdljmddgfaa", sum := "8187526dbe2af05cdd4b99261af8e0d55eda574b7cca89832a0404edda9dc477", func := "loop.example/stint/laws.FnExactQueuePlay", spec := "fnExactQueuePlay", unfollowed := true, recurses := true, plainKeys := false, apart := false }
def FnExactQueuePlaySaid : Prop := fnExactQueuePlayRow.holds Try.pinned (OpenSpec.ofChange fnExactQueuePlaySpec)

/-- ITS FALSE NEIGHBOUR: 'it returns false'. Refute it at one input. -/
def fnExactQueuePlayWrong : ChangeSpec := { name := "fnExactQueuePlay", fn := fun _ => fun
  | [d1, d2] => { results := [.lit (.bool false)], args := [d1, d2] }
  | _ => none }
def FnExactQueuePlayWrongFalsely : Prop := fnExactQueuePlayRow.holds Try.pinned (OpenSpec.ofChange fnExactQueuePlayWrong)

/- THE SECOND FORM. 'bulk': how many values and letters a reading holds, each counted each time it is reached (what is shared counts as often as it is met; a slice's spare places count too). A statement '..UptoSaid' is the law's where the arguments, and the package variables that the reading takes, are together of bulk at most 1048576: NARROWER than '..Said'. Prove '..Said' where nothing that the law and all that it calls make is longer than what came in: it says more and counts as full. Else prove '..UptoSaid'. A law counts once. -/
mutual
def uptoBulk {H : Type} : DataW H → Nat
  | .lit (.string bytes) => bytes.length + 1
  | .lit _ => 1
  | .nil => 1
  | .ptr d => uptoBulk d + 1
  | .slice elems spare => uptoBulkAll elems + uptoBulkAll spare + 1
  | .agg parts => uptoBulkAll parts + 1
  | .iface _ d => uptoBulk d + 1
  | .map entries => uptoBulkEntries entries + 1
  | .held _ => 1
def uptoBulkAll {H : Type} : List (DataW H) → Nat
  | [] => 0
  | d :: r => uptoBulk d + uptoBulkAll r
def uptoBulkEntries {H : Type} : List (Lit × DataW H) → Nat
  | [] => 0
  | x :: r => uptoBulkEntry x + uptoBulkEntries r
def uptoBulkEntry {H : Type} : Lit × DataW H → Nat
  | (.string bytes, d) => bytes.length + uptoBulk d + 1
  | (_, d) => uptoBulk d + 1
 end
def uptoSmall : (H : Type) → List (DataW H) → Bool := fun _ ds => decide (uptoBulkAll ds ≤ 1048576)
def OpenSpec.upto (s : _root_.Go.ChangeSpec) : _root_.Go.OpenSpec := { _root_.Go.OpenSpec.ofChange s with cond := some uptoSmall }

/-- 'laws.FnExactTreeUnder', WHERE WHAT IT READS IS OF BULK AT MOST 1048576: true; the input reads as it did. -/
def fnExactTreeUnderUptoRow : OpenClaim := { program := "ythihcdljmddgfaa", sum := "8187526dbe2af05cdd4b99261af8e0d55eda574b7cca89832a0404edda9dc477", func := "loop.example/stint/laws.FnExactTreeUnder", spec := "fnExactTreeUnder", plainKeys := false, apart := false, narrowed := true }
def FnExactTreeUnderUptoSaid : Prop := fnExactTreeUnderUptoRow.holds Try.pinned (OpenSpec.upto fnExactTreeUnderSpec)

/-- 'laws.FnQueueTop', WHERE WHAT IT READS IS OF BULK AT MOST 1048576: true; the input reads as it did. -/
def fnQueueTopUptoRow : OpenClaim := { program := "ythihcdljmddgfaa", sum := "8187526dbe2af05cdd4b99261af8e0d55eda574b7cca89832a0404edda9dc477", func := "loop.example/stint/laws.FnQueueTop", spec := "fnQueueTop", unfollowed := true, recurses := true, plainKeys := false, apart := false, narrowed := true }
def FnQueueTopUptoSaid : Prop := fnQueueTopUptoRow.holds Try.pinned (OpenSpec.upto fnQueueTopSpec)

/-- 'laws.FnExactQueueDo', WHERE WHAT IT READS IS OF BULK AT MOST 1048576: true; the input reads as it did. -/
def fnExactQueueDoUptoRow : OpenClaim := { program := "ythihcdljmddgfaa", sum := "8187526dbe2af05cdd4b99261af8e0d55eda574b7cca89832a0404edda9dc477", func := "loop.example/stint/laws.FnExactQueueDo", spec := "fnExactQueueDo", unfollowed := true, recurses := true, plainKeys := false, apart := false, narrowed := true }
def FnExactQueueDoUptoSaid : Prop := fnExactQueueDoUptoRow.holds Try.pinned (OpenSpec.upto fnExactQueueDoSpec)

/-- 'laws.FnQueueWait', WHERE WHAT IT READS IS OF BULK AT MOST 1048576: true; the input reads as it did. -/
def fnQueueWaitUptoRow : OpenClaim := { program := "ythihcdljmddgfaa", sum := "8187526dbe2af05cdd4b99261af8e0d55eda574b7cca89832a0404edda9dc477", func := "loop.example/stint/laws.FnQueueWait", spec := "fnQueueWait", unfollowed := true, recurses := true, plainKeys := false, apart := false, narrowed := true }
def FnQueueWaitUptoSaid : Prop := fnQueueWaitUptoRow.holds Try.pinned (OpenSpec.upto fnQueueWaitSpec)

/-- 'laws.FnQueuePlay', WHERE WHAT IT READS IS OF BULK AT MOST 1048576: true; the input reads as it did. -/
def fnQueuePlayUptoRow : OpenClaim := { program := "ythihcdljmddgfaa", sum := "8187526dbe2af05cdd4b99261af8e0d55eda574b7cca89832a0404edda9dc477", func := "loop.example/stint/laws.FnQueuePlay", spec := "fnQueuePlay", unfollowed := true, recurses := true, plainKeys := false, apart := false, narrowed := true }
def FnQueuePlayUptoSaid : Prop := fnQueuePlayUptoRow.holds Try.pinned (OpenSpec.upto fnQueuePlaySpec)

/-- 'laws.FnExactQueuePlay', WHERE WHAT IT READS IS OF BULK AT MOST 1048576: true; the input reads as it did. -/
def fnExactQueuePlayUptoRow : OpenClaim := { program := "ythihcdljmddgfaa", sum := "8187526dbe2af05cdd4b99261af8e0d55eda574b7cca89832a0404edda9dc477", func := "loop.example/stint/laws.FnExactQueuePlay", spec := "fnExactQueuePlay", unfollowed := true, recurses := true, plainKeys := false, apart := false, narrowed := true }
def FnExactQueuePlayUptoSaid : Prop := fnExactQueuePlayUptoRow.holds Try.pinned (OpenSpec.upto fnExactQueuePlaySpec)

end Rows
end Go.Proofs.Ythihcdljmddgfaa
