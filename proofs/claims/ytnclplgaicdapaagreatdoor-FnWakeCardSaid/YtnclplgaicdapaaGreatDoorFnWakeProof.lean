/- The law FnWake: for every input it returns true, and each argument reads behind the call as it read before. No condition beyond what the card ties: errors.errorType as the program lays it. -/
import Derived.Test.YtnclplgaicdapaaGreatDoorTie
import Derived.Test.YtnclplgaicdapaaGreatDoorCards
import Derived.SevenTiedAt
import Derived.Test.YtnclplgaicdapaaGreatDoorFnWakeFa
import Derived.Test.YtnclplgaicdapaaGreatDoorFnWakeFb
import Derived.Test.YtnclplgaicdapaaGreatDoorFnWakeFc
namespace Go.Proofs.YtnclplgaicdapaaGreatDoor.fnWake
open Go.ChangeShapes Go.WideShapes Go.ChangeAt Go.RowKit
set_option maxRecDepth 100000
theorem o1 : Rows.fnWakeRow.program = Tryz.pinned.name := rfl
theorem o2 : Rows.fnWakeRow.sum = Tryz.pinned.sum := rfl
theorem o3 : Rows.fnWakeRow.spec = Rows.fnWakeSpec.name := rfl
theorem o4 : Rows.fnWakeRow.start = .entering ∧ Rows.fnWakeRow.outside = [] ∧ Rows.fnWakeRow.inits = [] ∧ Rows.fnWakeRow.under = none := ⟨rfl, rfl, rfl, rfl⟩
theorem o5 : Rows.fnWakeRow.initsInPlace = [] ∧ Rows.fnWakeRow.initsUnfollowed = false ∧ Rows.fnWakeRow.initsRecurse = false ∧ Rows.fnWakeRow.initsNamed = [] ∧ Rows.fnWakeRow.initsPassed = [] := ⟨rfl, rfl, rfl, rfl, rfl⟩
theorem o6 : Rows.fnWakeRow.noBlocks = false ∧ Rows.fnWakeRow.leaving = false ∧ Rows.fnWakeRow.followed = none ∧ Rows.fnWakeRow.narrowed = false ∧ Rows.fnWakeRow.still = false := ⟨rfl, rfl, rfl, rfl, rfl⟩
theorem o7 : Tryz.pinned.checked.prog.funcs[7]? = some Tryz.f7 := Tryz.func7
theorem o8 (os : Os) (st : os.Started) (H : Type) (enc : TypeId × Value → H) : ReturnsInHanded Rows.fnWakeRow.assume Tryz.pinned.checked os 7 .any (Rows.fnWakeRow.pre enc Tryz.pinned.checked.prog Tryz.f7 (OpenSpec.ofChange Rows.fnWakeSpec)) (Rows.fnWakeSpec.post enc Tryz.pinned.checked.prog Tryz.f7 Rows.fnWakeRow.apart Rows.fnWakeRow.fresh Rows.fnWakeRow.handsOn Rows.fnWakeRow.again) := lifted os st H enc
theorem over : Rows.fnWakeRow.holds Tryz.pinned (OpenSpec.ofChange Rows.fnWakeSpec) :=
  OpenClaim.holds_of_wide 7 Tryz.f7 o1 o2 o3 o4.1 o4.2.1 o4.2.2.1 o4.2.2.2 o5 o6.1 o6.2.1 o6.2.2.1 o6.2.2.2.1 o6.2.2.2.2 fact1 o7 fact2 fact3 fact4
    (fun os started H enc _ => o8 os started H enc)
theorem proved : Rows.FnWakeCardSaid :=
  Claim7.holds_tied_plain_at .later [] [.handle] true Rows.fnWakeCard.stood.harness true
    over (fun _ h => by cases h) q1 (fun _ h => by cases h) fnWake_row_tie rfl ⟨rfl, rfl⟩ q2 q3
    (fun f fn hf hfn => by
      obtain rfl : f = 7 := Option.some.inj (q4.symm.trans hf) |>.symm
      obtain rfl : fn = Tryz.f7 := (Option.some.inj (Tryz.func7.symm.trans hfn)).symm
      exact ⟨q5, fun j t ht => by
        rw [Tryz.params7] at ht
        have h3 : t ∈ [22, 22] := by
          have hm := Array.mem_of_getElem? ht
          simpa using hm
        simp only [List.mem_cons, List.not_mem_nil, or_false] at h3
        rcases h3 with rfl | rfl
        · exact s22
        · exact s22⟩)
    q6
end Go.Proofs.YtnclplgaicdapaaGreatDoor.fnWake
