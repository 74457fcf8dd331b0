/- The law FnLast: for every input it returns true, and each argument reads behind the call as it read before. No condition beyond what the card ties: errors.errorType as the program lays it. -/
import Derived.Test.YtnclplgaicdapaaGreatDoorTie
import Derived.Test.YtnclplgaicdapaaGreatDoorCards
import Derived.SevenTiedAt
import Derived.Test.YtnclplgaicdapaaGreatDoorFnLastFa
import Derived.Test.YtnclplgaicdapaaGreatDoorFnLastFb
import Derived.Test.YtnclplgaicdapaaGreatDoorFnLastFc
namespace Go.Proofs.YtnclplgaicdapaaGreatDoor.fnLast
open Go.ChangeShapes Go.WideShapes Go.ChangeAt Go.RowKit
set_option maxRecDepth 100000
theorem o1 : Rows.fnLastRow.program = Tryz.pinned.name := rfl
theorem o2 : Rows.fnLastRow.sum = Tryz.pinned.sum := rfl
theorem o3 : Rows.fnLastRow.spec = Rows.fnLastSpec.name := rfl
theorem o4 : Rows.fnLastRow.start = .entering ∧ Rows.fnLastRow.outside = [] ∧ Rows.fnLastRow.inits = [] ∧ Rows.fnLastRow.under = none := ⟨rfl, rfl, rfl, rfl⟩
theorem o5 : Rows.fnLastRow.initsInPlace = [] ∧ Rows.fnLastRow.initsUnfollowed = false ∧ Rows.fnLastRow.initsRecurse = false ∧ Rows.fnLastRow.initsNamed = [] ∧ Rows.fnLastRow.initsPassed = [] := ⟨rfl, rfl, rfl, rfl, rfl⟩
theorem o6 : Rows.fnLastRow.noBlocks = false ∧ Rows.fnLastRow.leaving = false ∧ Rows.fnLastRow.followed = none ∧ Rows.fnLastRow.narrowed = false ∧ Rows.fnLastRow.still = false := ⟨rfl, rfl, rfl, rfl, rfl⟩
theorem o7 : Tryz.pinned.checked.prog.funcs[3]? = some Tryz.f3 := Tryz.func3
theorem o8 (os : Os) (st : os.Started) (H : Type) (enc : TypeId × Value → H) : ReturnsInHanded Rows.fnLastRow.assume Tryz.pinned.checked os 3 .any (Rows.fnLastRow.pre enc Tryz.pinned.checked.prog Tryz.f3 (OpenSpec.ofChange Rows.fnLastSpec)) (Rows.fnLastSpec.post enc Tryz.pinned.checked.prog Tryz.f3 Rows.fnLastRow.apart Rows.fnLastRow.fresh Rows.fnLastRow.handsOn Rows.fnLastRow.again) := lifted os st H enc
theorem over : Rows.fnLastRow.holds Tryz.pinned (OpenSpec.ofChange Rows.fnLastSpec) :=
  OpenClaim.holds_of_wide 3 Tryz.f3 o1 o2 o3 o4.1 o4.2.1 o4.2.2.1 o4.2.2.2 o5 o6.1 o6.2.1 o6.2.2.1 o6.2.2.2.1 o6.2.2.2.2 fact1 o7 fact2 fact3 fact4
    (fun os started H enc _ => o8 os started H enc)
theorem proved : Rows.FnLastCardSaid :=
  Claim7.holds_tied_plain_at .later [] [.handle] true Rows.fnLastCard.stood.harness true
    over (fun _ h => by cases h) q1 (fun _ h => by cases h) fnLast_row_tie rfl ⟨rfl, rfl⟩ q2 q3
    (fun f fn hf hfn => by
      obtain rfl : f = 3 := Option.some.inj (q4.symm.trans hf) |>.symm
      obtain rfl : fn = Tryz.f3 := (Option.some.inj (Tryz.func3.symm.trans hfn)).symm
      exact ⟨q5, fun j t ht => by
        rw [Tryz.params3] at ht
        have h3 : t ∈ [22] := by
          have hm := Array.mem_of_getElem? ht
          simpa using hm
        simp only [List.mem_cons, List.not_mem_nil, or_false] at h3
        rcases h3 with rfl
        · exact s22⟩)
    q6
end Go.Proofs.YtnclplgaicdapaaGreatDoor.fnLast
