/-
  No cell of these rows narrows 'for every input' (looked for: loops, veiled, ifaces, maps, wideKeys, modest, calm, conditions, laid).
  DERIVED. THE GIVEN ROWS OF THIS SEAT. 4 by the template 'for every input the law returns true; each argument reads behind the call as it read before'; 0 by the template 'total and deterministic' (their statements: YtclpmgfpjeaibaaGreatTotals.lean).
  GIVEN WITH THE SEED: the statements are not yours to turn. If you find one false, say at which input.
  Laid BY PROGRAM, IN A SANDBOX (cutbox-rows.mjs): the forced cells as the released guide's own fill.sh prints them over the translation e30b635cf4a428be… (all of the seat's roots in one cut). By AI agents, Wed Nov 11 2026. No macro, syntax, notation, axiom, sorry.
-/
import Derived.Test.YtclpmgfpjeaibaaGreatChecked
import GoSem.Claim
import GoSem.ClaimJoined
import GoSem.ClaimMapViews
import Derived.JoinedTies
import Derived.KernelRfl
namespace Go.Proofs.YtclpmgfpjeaibaaGreat
/- THE CELL 'sum', in the pinned program and in every row, IS THE sha256 OF THE DUMP (.gsa) THAT YtclpmgfpjeaibaaGreatProg.lean LOADS. Nothing in Lean hashes anything: it is a label: what it is worth is what the hold of that sum in a sandbox is worth. -/
noncomputable def Tryz.pinned : Pinned := { name := "ytclpmgfpjeaibaagreat", sum := "e30b635cf4a428be16a9c30b1c4a1a61dda28f5f0340e9eaf8c99bc719991be0", checked := Tryz.checked }
namespace Rows
def none {H : Type} : Left H := { results := [], args := [] }

/-- 'laws.FnTree': WHATEVER THE INPUT: true; the input reads as it did. -/
def fnTreeSpec : ChangeSpec := { name := "fnTree", fn := fun _ => fun
  | [d] => { results := [.lit (.bool true)], args := [d] }
  | _ => none }
def fnTreeRow : OpenClaim := { program := "ytclpmgfpjeaibaagreat", sum := "e30b635cf4a428be16a9c30b1c4a1a61dda28f5f0340e9eaf8c99bc719991be0", func := "loop.example/stint/laws.FnTree", spec := "fnTree", recurses := true, plainKeys := false, apart := false }
def FnTreeSaid : Prop := fnTreeRow.holds Tryz.pinned (OpenSpec.ofChange fnTreeSpec)

/-- ITS FALSE NEIGHBOUR: 'it returns false'. Refute it at one input. -/
def fnTreeWrong : ChangeSpec := { name := "fnTree", fn := fun _ => fun
  | [d] => { results := [.lit (.bool false)], args := [d] }
  | _ => none }
def FnTreeWrongFalsely : Prop := fnTreeRow.holds Tryz.pinned (OpenSpec.ofChange fnTreeWrong)

/-- 'laws.FnPinned': WHATEVER THE INPUT: true; the input reads as it did. -/
def fnPinnedSpec : ChangeSpec := { name := "fnPinned", fn := fun _ => fun
  | [d] => { results := [.lit (.bool true)], args := [d] }
  | _ => none }
def fnPinnedRow : OpenClaim := { program := "ytclpmgfpjeaibaagreat", sum := "e30b635cf4a428be16a9c30b1c4a1a61dda28f5f0340e9eaf8c99bc719991be0", func := "loop.example/stint/laws.FnPinned", spec := "fnPinned", unfollowed := true, recurses := true, plainKeys := false, apart := false }
def FnPinnedSaid : Prop := fnPinnedRow.holds Tryz.pinned (OpenSpec.ofChange fnPinnedSpec)

/-- ITS FALSE NEIGHBOUR: 'it returns false'. Refute it at one input. -/
def fnPinnedWrong : ChangeSpec := { name := "fnPinned", fn := fun _ => fun
  | [d] => { results := [.lit (.bool false)], args := [d] }
  | _ => none }
def FnPinnedWrongFalsely : Prop := fnPinnedRow.holds Tryz.pinned (OpenSpec.ofChange fnPinnedWrong)

/-- 'laws.FnGroupShares': WHATEVER THE INPUT: true; the input reads as it did. -/
def fnGroupSharesSpec : ChangeSpec := { name := "fnGroupShares", fn := fun _ => fun
  | [d] => { results := [.lit (.bool true)], args := [d] }
  | _ => none }
def fnGroupSharesRow : OpenClaim := { program := "ytclpmgfpjeaibaagreat", sum := "e30b635cf4a428be16a9c30b1c4a1a61dda28f5f0340e9eaf8c99bc719991be0", func := "loop.example/stint/laws.FnGroupShares", spec := "fnGroupShares", unfollowed := true, recurses := true, plainKeys := false, apart := false }
def FnGroupSharesSaid : Prop := fnGroupSharesRow.holds Tryz.pinned (OpenSpec.ofChange fnGroupSharesSpec)

/-- ITS FALSE NEIGHBOUR: 'it returns false'. Refute it at one input. -/
def fnGroupSharesWrong : ChangeSpec := { name := "fnGroupShares", fn := fun _ => fun
  | [d] => { results := [.lit (.bool false)], args := [d] }
  | _ => none }
def FnGroupSharesWrongFalsely : Prop := fnGroupSharesRow.holds Tryz.pinned (OpenSpec.ofChange fnGroupSharesWrong)

/-- 'laws.FnPull': WHATEVER THE INPUT: true; the input reads as it did. -/
def fnPullSpec : ChangeSpec := { name := "fnPull", fn := fun _ => fun
  | [d] => { results := [.lit (.bool true)], args := [d] }
  | _ => none }
def fnPullRow : OpenClaim := { program := "ytclpmgfpjeaibaagreat", sum := "e30b635cf4a428be16a9c30b1c4a1a61dda28f5f0340e9eaf8c99bc719991be0", func := "loop.example/stint/laws.FnPull", spec := "fnPull", unfollowed := true, recurses := true, plainKeys := false, apart := false }
def FnPullSaid : Prop := fnPullRow.holds Tryz.pinned (OpenSpec.ofChange fnPullSpec)

/-- ITS FALSE NEIGHBOUR: 'it returns false'. Refute it at one input. -/
def fnPullWrong : ChangeSpec := { name := "fnPull", fn := fun _ => fun
  | [d] => { results := [.lit (.bool false)], args := [d] }
  | _ => none }
def FnPullWrongFalsely : Prop := fnPullRow.holds Tryz.pinned (OpenSpec.ofChange fnPullWrong)

/- THE SECOND FORM. 'bulk': how many values and letters a reading holds, each counted each time it is reached (what is shared counts as often as it is met; a slice's spare places count too). A statement '..UptoSaid' is the law's where the arguments, and the package variables that the reading takes, are together of bulk at most 1048576: NARROWER than '..Said'. Prove '..Said' where nothing that the law and all that it calls make is longer than what came in: it says more and counts as full. Else prove '..UptoSaid'. A law counts once. -/
mutual
def uptoBulk {H : Type} : DataW H → Nat
  | .lit (.string bytes) => bytes.length + 1
  | .lit _ => 1
  | .nil => 1
  | .ptr d => uptoBulk d + 1
  | .slice elems spare => uptoBulkAll elems + uptoBulkAll spare + 1
  | .agg parts => uptoBulkAll parts + 1
  | .iface _ d => uptoBulk d + 1
  | .map entries => uptoBulkEntries entries + 1
  | .held _ => 1
def uptoBulkAll {H : Type} : List (DataW H) → Nat
  | [] => 0
  | d :: r => uptoBulk d + uptoBulkAll r
def uptoBulkEntries {H : Type} : List (Lit × DataW H) → Nat
  | [] => 0
  | x :: r => uptoBulkEntry x + uptoBulkEntries r
def uptoBulkEntry {H : Type} : Lit × DataW H → Nat
  | (.string bytes, d) => bytes.length + uptoBulk d + 1
  | (_, d) => uptoBulk d + 1
 end
def uptoSmall : (H : Type) → List (DataW H) → Bool := fun _ ds => decide (uptoBulkAll ds ≤ 1048576)
def OpenSpec.upto (s : _root_.Go.ChangeSpec) : _root_.Go.OpenSpec := { _root_.Go.OpenSpec.ofChange s with cond := some uptoSmall }

/-- 'laws.FnTree', WHERE WHAT IT READS IS OF BULK AT MOST 1048576: true; the input reads as it did. -/
def fnTreeUptoRow : OpenClaim := { program := "ytclpmgfpjeaibaagreat", sum := "e30b635cf4a428be16a9c30b1c4a1a61dda28f5f0340e9eaf8c99bc719991be0", func := "loop.example/stint/laws.FnTree", spec := "fnTree", recurses := true, plainKeys := false, apart := false, narrowed := true }
def FnTreeUptoSaid : Prop := fnTreeUptoRow.holds Tryz.pinned (OpenSpec.upto fnTreeSpec)

/-- 'laws.FnPinned', WHERE WHAT IT READS IS OF BULK AT MOST 1048576: true; the input reads as it did. -/
def fnPinnedUptoRow : OpenClaim := { program := "ytclpmgfpjeaibaagreat", sum := "e30b635cf4a428be16a9c30b1c4a1a61dda28f5f0340e9eaf8c99bc719991be0", func := "loop.example/stint/laws.FnPinned", spec := "fnPinned", unfollowed := true, recurses := true, plainKeys := false, apart := false, narrowed := true }
def FnPinnedUptoSaid : Prop := fnPinnedUptoRow.holds Tryz.pinned (OpenSpec.upto fnPinnedSpec)

/-- 'laws.FnGroupShares', WHERE WHAT IT READS IS OF BULK AT MOST 1048576: true; the input reads as it did. -/
def fnGroupSharesUptoRow : OpenClaim := { program := "ytclpmgfpjeaibaagreat", sum := "e30b635cf4a428be16a9c30b1c4a1a61dda28f5f0340e9eaf8c99bc719991be0", func := "loop.example/stint/laws.FnGroupShares", spec := "fnGroupShares", unfollowed := true, recurses := true, plainKeys := false, apart := false, narrowed := true }
def FnGroupSharesUptoSaid : Prop := fnGroupSharesUptoRow.holds Tryz.pinned (OpenSpec.upto fnGroupSharesSpec)

/-- 'laws.FnPull', WHERE WHAT IT READS IS OF BULK AT MOST 1048576: true; the input reads as it did. -/
def fnPullUptoRow : OpenClaim := { program := "ytclpmgfpjeaibaagreat", sum := "e30b635cf4a428be16a9c30b1c4a1a61dda28f5f0340e9eaf8c99bc719991be0", func := "loop.example/stint/laws.FnPull", spec := "fnPull", unfollowed := true, recurses := true, plainKeys := false, apart := false, narrowed := true }
def FnPullUptoSaid : Prop := fnPullUptoRow.holds Tryz.pinned (OpenSpec.upto fnPullSpec)

end Rows
end Go.Proofs.YtclpmgfpjeaibaaGreat
