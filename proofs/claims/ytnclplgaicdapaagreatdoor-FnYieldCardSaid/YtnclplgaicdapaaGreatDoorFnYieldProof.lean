/- The law FnYield: for every input it returns true, and each argument reads behind the call as it read before. No condition beyond what the card ties: errors.errorType as the program lays it. -/
import Derived.Test.YtnclplgaicdapaaGreatDoorTie
import Derived.Test.YtnclplgaicdapaaGreatDoorCards
import Derived.SevenTiedAt
import Derived.Test.YtnclplgaicdapaaGreatDoorFnYieldFa
import Derived.Test.YtnclplgaicdapaaGreatDoorFnYieldFb
import Derived.Test.YtnclplgaicdapaaGreatDoorFnYieldFc
namespace Go.Proofs.YtnclplgaicdapaaGreatDoor.fnYield
open Go.ChangeShapes Go.WideShapes Go.ChangeAt Go.RowKit
set_option maxRecDepth 100000
theorem o1 : Rows.fnYieldRow.program = Tryz.pinned.name := rfl
theorem o2 : Rows.fnYieldRow.sum = Tryz.pinned.sum := rfl
theorem o3 : Rows.fnYieldRow.spec = Rows.fnYieldSpec.name := rfl
theorem o4 : Rows.fnYieldRow.start = .entering ∧ Rows.fnYieldRow.outside = [] ∧ Rows.fnYieldRow.inits = [] ∧ Rows.fnYieldRow.under = none := ⟨rfl, rfl, rfl, rfl⟩
theorem o5 : Rows.fnYieldRow.initsInPlace = [] ∧ Rows.fnYieldRow.initsUnfollowed = false ∧ Rows.fnYieldRow.initsRecurse = false ∧ Rows.fnYieldRow.initsNamed = [] ∧ Rows.fnYieldRow.initsPassed = [] := ⟨rfl, rfl, rfl, rfl, rfl⟩
theorem o6 : Rows.fnYieldRow.noBlocks = false ∧ Rows.fnYieldRow.leaving = false ∧ Rows.fnYieldRow.followed = none ∧ Rows.fnYieldRow.narrowed = false ∧ Rows.fnYieldRow.still = false := ⟨rfl, rfl, rfl, rfl, rfl⟩
theorem o7 : Tryz.pinned.checked.prog.funcs[4]? = some Tryz.f4 := Tryz.func4
theorem o8 (os : Os) (st : os.Started) (H : Type) (enc : TypeId × Value → H) : ReturnsInHanded Rows.fnYieldRow.assume Tryz.pinned.checked os 4 .any (Rows.fnYieldRow.pre enc Tryz.pinned.checked.prog Tryz.f4 (OpenSpec.ofChange Rows.fnYieldSpec)) (Rows.fnYieldSpec.post enc Tryz.pinned.checked.prog Tryz.f4 Rows.fnYieldRow.apart Rows.fnYieldRow.fresh Rows.fnYieldRow.handsOn Rows.fnYieldRow.again) := lifted os st H enc
theorem over : Rows.fnYieldRow.holds Tryz.pinned (OpenSpec.ofChange Rows.fnYieldSpec) :=
  OpenClaim.holds_of_wide 4 Tryz.f4 o1 o2 o3 o4.1 o4.2.1 o4.2.2.1 o4.2.2.2 o5 o6.1 o6.2.1 o6.2.2.1 o6.2.2.2.1 o6.2.2.2.2 fact1 o7 fact2 fact3 fact4
    (fun os started H enc _ => o8 os started H enc)
theorem proved : Rows.FnYieldCardSaid :=
  Claim7.holds_tied_plain_at .later [] [.handle] true Rows.fnYieldCard.stood.harness true
    over (fun _ h => by cases h) q1 (fun _ h => by cases h) fnYield_row_tie rfl ⟨rfl, rfl⟩ q2 q3
    (fun f fn hf hfn => by
      obtain rfl : f = 4 := Option.some.inj (q4.symm.trans hf) |>.symm
      obtain rfl : fn = Tryz.f4 := (Option.some.inj (Tryz.func4.symm.trans hfn)).symm
      exact ⟨q5, fun j t ht => by
        rw [Tryz.params4] at ht
        have h3 : t ∈ [22] := by
          have hm := Array.mem_of_getElem? ht
          simpa using hm
        simp only [List.mem_cons, List.not_mem_nil, or_false] at h3
        rcases h3 with rfl
        · exact s22⟩)
    q6
end Go.Proofs.YtnclplgaicdapaaGreatDoor.fnYield
