/- The law FnNext: for every input it returns true, and each argument reads behind the call as it read before. No condition beyond what the card ties: errors.errorType as the program lays it. -/
import Derived.Test.YtclpmgfpjeaibaaGreatDoorTie
import Derived.Test.YtclpmgfpjeaibaaGreatDoorCards
import Derived.SevenTiedAt
import Derived.Test.YtclpmgfpjeaibaaGreatDoorFnNextFa
import Derived.Test.YtclpmgfpjeaibaaGreatDoorFnNextFb
import Derived.Test.YtclpmgfpjeaibaaGreatDoorFnNextFc
namespace Go.Proofs.YtclpmgfpjeaibaaGreatDoor.fnNext
open Go.ChangeShapes Go.WideShapes Go.ChangeAt Go.RowKit
set_option maxRecDepth 100000
theorem o1 : Rows.fnNextRow.program = Tryz.pinned.name := rfl
theorem o2 : Rows.fnNextRow.sum = Tryz.pinned.sum := rfl
theorem o3 : Rows.fnNextRow.spec = Rows.fnNextSpec.name := rfl
theorem o4 : Rows.fnNextRow.start = .entering ∧ Rows.fnNextRow.outside = [] ∧ Rows.fnNextRow.inits = [] ∧ Rows.fnNextRow.under = none := ⟨rfl, rfl, rfl, rfl⟩
theorem o5 : Rows.fnNextRow.initsInPlace = [] ∧ Rows.fnNextRow.initsUnfollowed = false ∧ Rows.fnNextRow.initsRecurse = false ∧ Rows.fnNextRow.initsNamed = [] ∧ Rows.fnNextRow.initsPassed = [] := ⟨rfl, rfl, rfl, rfl, rfl⟩
theorem o6 : Rows.fnNextRow.noBlocks = false ∧ Rows.fnNextRow.leaving = false ∧ Rows.fnNextRow.followed = none ∧ Rows.fnNextRow.narrowed = false ∧ Rows.fnNextRow.still = false := ⟨rfl, rfl, rfl, rfl, rfl⟩
theorem o7 : Tryz.pinned.checked.prog.funcs[3]? = some Tryz.f3 := Tryz.func3
theorem o8 (os : Os) (st : os.Started) (H : Type) (enc : TypeId × Value → H) : ReturnsInHanded Rows.fnNextRow.assume Tryz.pinned.checked os 3 .any (Rows.fnNextRow.pre enc Tryz.pinned.checked.prog Tryz.f3 (OpenSpec.ofChange Rows.fnNextSpec)) (Rows.fnNextSpec.post enc Tryz.pinned.checked.prog Tryz.f3 Rows.fnNextRow.apart Rows.fnNextRow.fresh Rows.fnNextRow.handsOn Rows.fnNextRow.again) := lifted os st H enc
theorem over : Rows.fnNextRow.holds Tryz.pinned (OpenSpec.ofChange Rows.fnNextSpec) :=
  OpenClaim.holds_of_wide 3 Tryz.f3 o1 o2 o3 o4.1 o4.2.1 o4.2.2.1 o4.2.2.2 o5 o6.1 o6.2.1 o6.2.2.1 o6.2.2.2.1 o6.2.2.2.2 fact1 o7 fact2 fact3 fact4
    (fun os started H enc _ => o8 os started H enc)
theorem proved : Rows.FnNextCardSaid :=
  Claim7.holds_tied_plain_at .later [] [.handle] true Rows.fnNextCard.stood.harness true
    over (fun _ h => by cases h) q1 (fun _ h => by cases h) fnNext_row_tie rfl ⟨rfl, rfl⟩ q2 q3
    (fun f fn hf hfn => by
      obtain rfl : f = 3 := Option.some.inj (q4.symm.trans hf) |>.symm
      obtain rfl : fn = Tryz.f3 := (Option.some.inj (Tryz.func3.symm.trans hfn)).symm
      exact ⟨q5, fun j t ht => by
        rw [Tryz.params3] at ht
        have h3 : t ∈ [22, 22] := by
          have hm := Array.mem_of_getElem? ht
          simpa using hm
        simp only [List.mem_cons, List.not_mem_nil, or_false] at h3
        rcases h3 with rfl | rfl
        · exact s22
        · exact s22⟩)
    q6
end Go.Proofs.YtclpmgfpjeaibaaGreatDoor.fnNext
