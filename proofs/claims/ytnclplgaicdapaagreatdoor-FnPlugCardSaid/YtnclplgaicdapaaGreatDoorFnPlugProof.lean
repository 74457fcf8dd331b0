/- The law FnPlug: for every input it returns true, and each argument reads behind the call as it read before. No condition beyond what the card ties: errors.errorType as the program lays it. -/
import Derived.Test.YtnclplgaicdapaaGreatDoorTie
import Derived.Test.YtnclplgaicdapaaGreatDoorCards
import Derived.SevenTiedAt
import Derived.Test.YtnclplgaicdapaaGreatDoorFnPlugFa
import Derived.Test.YtnclplgaicdapaaGreatDoorFnPlugFb
import Derived.Test.YtnclplgaicdapaaGreatDoorFnPlugFc
namespace Go.Proofs.YtnclplgaicdapaaGreatDoor.fnPlug
open Go.ChangeShapes Go.WideShapes Go.ChangeAt Go.RowKit
set_option maxRecDepth 100000
theorem o1 : Rows.fnPlugRow.program = Tryz.pinned.name := rfl
theorem o2 : Rows.fnPlugRow.sum = Tryz.pinned.sum := rfl
theorem o3 : Rows.fnPlugRow.spec = Rows.fnPlugSpec.name := rfl
theorem o4 : Rows.fnPlugRow.start = .entering ∧ Rows.fnPlugRow.outside = [] ∧ Rows.fnPlugRow.inits = [] ∧ Rows.fnPlugRow.under = none := ⟨rfl, rfl, rfl, rfl⟩
theorem o5 : Rows.fnPlugRow.initsInPlace = [] ∧ Rows.fnPlugRow.initsUnfollowed = false ∧ Rows.fnPlugRow.initsRecurse = false ∧ Rows.fnPlugRow.initsNamed = [] ∧ Rows.fnPlugRow.initsPassed = [] := ⟨rfl, rfl, rfl, rfl, rfl⟩
theorem o6 : Rows.fnPlugRow.noBlocks = false ∧ Rows.fnPlugRow.leaving = false ∧ Rows.fnPlugRow.followed = none ∧ Rows.fnPlugRow.narrowed = false ∧ Rows.fnPlugRow.still = false := ⟨rfl, rfl, rfl, rfl, rfl⟩
theorem o7 : Tryz.pinned.checked.prog.funcs[6]? = some Tryz.f6 := Tryz.func6
theorem o8 (os : Os) (st : os.Started) (H : Type) (enc : TypeId × Value → H) : ReturnsInHanded Rows.fnPlugRow.assume Tryz.pinned.checked os 6 .any (Rows.fnPlugRow.pre enc Tryz.pinned.checked.prog Tryz.f6 (OpenSpec.ofChange Rows.fnPlugSpec)) (Rows.fnPlugSpec.post enc Tryz.pinned.checked.prog Tryz.f6 Rows.fnPlugRow.apart Rows.fnPlugRow.fresh Rows.fnPlugRow.handsOn Rows.fnPlugRow.again) := lifted os st H enc
theorem over : Rows.fnPlugRow.holds Tryz.pinned (OpenSpec.ofChange Rows.fnPlugSpec) :=
  OpenClaim.holds_of_wide 6 Tryz.f6 o1 o2 o3 o4.1 o4.2.1 o4.2.2.1 o4.2.2.2 o5 o6.1 o6.2.1 o6.2.2.1 o6.2.2.2.1 o6.2.2.2.2 fact1 o7 fact2 fact3 fact4
    (fun os started H enc _ => o8 os started H enc)
theorem proved : Rows.FnPlugCardSaid :=
  Claim7.holds_tied_plain_at .later [] [.handle] true Rows.fnPlugCard.stood.harness true
    over (fun _ h => by cases h) q1 (fun _ h => by cases h) fnPlug_row_tie rfl ⟨rfl, rfl⟩ q2 q3
    (fun f fn hf hfn => by
      obtain rfl : f = 6 := Option.some.inj (q4.symm.trans hf) |>.symm
      obtain rfl : fn = Tryz.f6 := (Option.some.inj (Tryz.func6.symm.trans hfn)).symm
      exact ⟨q5, fun j t ht => by
        rw [Tryz.params6] at ht
        have h3 : t ∈ [22, 22] := by
          have hm := Array.mem_of_getElem? ht
          simpa using hm
        simp only [List.mem_cons, List.not_mem_nil, or_false] at h3
        rcases h3 with rfl | rfl
        · exact s22
        · exact s22⟩)
    q6
end Go.Proofs.YtnclplgaicdapaaGreatDoor.fnPlug
