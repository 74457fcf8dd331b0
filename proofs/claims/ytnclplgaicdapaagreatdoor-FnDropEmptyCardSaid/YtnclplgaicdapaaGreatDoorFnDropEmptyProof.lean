/- The law FnDropEmpty: for every input it returns true, and each argument reads behind the call as it read before. No condition beyond what the card ties: errors.errorType as the program lays it. -/
import Derived.Test.YtnclplgaicdapaaGreatDoorTie
import Derived.Test.YtnclplgaicdapaaGreatDoorCards
import Derived.SevenTiedAt
import Derived.Test.YtnclplgaicdapaaGreatDoorFnDropEmptyFa
import Derived.Test.YtnclplgaicdapaaGreatDoorFnDropEmptyFb
import Derived.Test.YtnclplgaicdapaaGreatDoorFnDropEmptyFc
namespace Go.Proofs.YtnclplgaicdapaaGreatDoor.fnDropEmpty
open Go.ChangeShapes Go.WideShapes Go.ChangeAt Go.RowKit
set_option maxRecDepth 100000
theorem o1 : Rows.fnDropEmptyRow.program = Tryz.pinned.name := rfl
theorem o2 : Rows.fnDropEmptyRow.sum = Tryz.pinned.sum := rfl
theorem o3 : Rows.fnDropEmptyRow.spec = Rows.fnDropEmptySpec.name := rfl
theorem o4 : Rows.fnDropEmptyRow.start = .entering ∧ Rows.fnDropEmptyRow.outside = [] ∧ Rows.fnDropEmptyRow.inits = [] ∧ Rows.fnDropEmptyRow.under = none := ⟨rfl, rfl, rfl, rfl⟩
theorem o5 : Rows.fnDropEmptyRow.initsInPlace = [] ∧ Rows.fnDropEmptyRow.initsUnfollowed = false ∧ Rows.fnDropEmptyRow.initsRecurse = false ∧ Rows.fnDropEmptyRow.initsNamed = [] ∧ Rows.fnDropEmptyRow.initsPassed = [] := ⟨rfl, rfl, rfl, rfl, rfl⟩
theorem o6 : Rows.fnDropEmptyRow.noBlocks = false ∧ Rows.fnDropEmptyRow.leaving = false ∧ Rows.fnDropEmptyRow.followed = none ∧ Rows.fnDropEmptyRow.narrowed = false ∧ Rows.fnDropEmptyRow.still = false := ⟨rfl, rfl, rfl, rfl, rfl⟩
theorem o7 : Tryz.pinned.checked.prog.funcs[5]? = some Tryz.f5 := Tryz.func5
theorem o8 (os : Os) (st : os.Started) (H : Type) (enc : TypeId × Value → H) : ReturnsInHanded Rows.fnDropEmptyRow.assume Tryz.pinned.checked os 5 .any (Rows.fnDropEmptyRow.pre enc Tryz.pinned.checked.prog Tryz.f5 (OpenSpec.ofChange Rows.fnDropEmptySpec)) (Rows.fnDropEmptySpec.post enc Tryz.pinned.checked.prog Tryz.f5 Rows.fnDropEmptyRow.apart Rows.fnDropEmptyRow.fresh Rows.fnDropEmptyRow.handsOn Rows.fnDropEmptyRow.again) := lifted os st H enc
theorem over : Rows.fnDropEmptyRow.holds Tryz.pinned (OpenSpec.ofChange Rows.fnDropEmptySpec) :=
  OpenClaim.holds_of_wide 5 Tryz.f5 o1 o2 o3 o4.1 o4.2.1 o4.2.2.1 o4.2.2.2 o5 o6.1 o6.2.1 o6.2.2.1 o6.2.2.2.1 o6.2.2.2.2 fact1 o7 fact2 fact3 fact4
    (fun os started H enc _ => o8 os started H enc)
theorem proved : Rows.FnDropEmptyCardSaid :=
  Claim7.holds_tied_plain_at .later [] [.handle] true Rows.fnDropEmptyCard.stood.harness true
    over (fun _ h => by cases h) q1 (fun _ h => by cases h) fnDropEmpty_row_tie rfl ⟨rfl, rfl⟩ q2 q3
    (fun f fn hf hfn => by
      obtain rfl : f = 5 := Option.some.inj (q4.symm.trans hf) |>.symm
      obtain rfl : fn = Tryz.f5 := (Option.some.inj (Tryz.func5.symm.trans hfn)).symm
      exact ⟨q5, fun j t ht => by
        rw [Tryz.params5] at ht
        have h3 : t ∈ [22] := by
          have hm := Array.mem_of_getElem? ht
          simpa using hm
        simp only [List.mem_cons, List.not_mem_nil, or_false] at h3
        rcases h3 with rfl
        · exact s22⟩)
    q6
end Go.Proofs.YtnclplgaicdapaaGreatDoor.fnDropEmpty
