/- The law FnIdle: for every input it returns true, and each argument reads behind the call as it read before. No condition beyond what the card ties: errors.errorType as the program lays it. -/
import Derived.Test.YtnclplgaicdapaaGreatDoorTie
import Derived.Test.YtnclplgaicdapaaGreatDoorCards
import Derived.SevenTiedAt
import Derived.Test.YtnclplgaicdapaaGreatDoorFnIdleFa
import Derived.Test.YtnclplgaicdapaaGreatDoorFnIdleFb
import Derived.Test.YtnclplgaicdapaaGreatDoorFnIdleFc
namespace Go.Proofs.YtnclplgaicdapaaGreatDoor.fnIdle
open Go.ChangeShapes Go.WideShapes Go.ChangeAt Go.RowKit
set_option maxRecDepth 100000
theorem o1 : Rows.fnIdleRow.program = Tryz.pinned.name := rfl
theorem o2 : Rows.fnIdleRow.sum = Tryz.pinned.sum := rfl
theorem o3 : Rows.fnIdleRow.spec = Rows.fnIdleSpec.name := rfl
theorem o4 : Rows.fnIdleRow.start = .entering ∧ Rows.fnIdleRow.outside = [] ∧ Rows.fnIdleRow.inits = [] ∧ Rows.fnIdleRow.under = none := ⟨rfl, rfl, rfl, rfl⟩
theorem o5 : Rows.fnIdleRow.initsInPlace = [] ∧ Rows.fnIdleRow.initsUnfollowed = false ∧ Rows.fnIdleRow.initsRecurse = false ∧ Rows.fnIdleRow.initsNamed = [] ∧ Rows.fnIdleRow.initsPassed = [] := ⟨rfl, rfl, rfl, rfl, rfl⟩
theorem o6 : Rows.fnIdleRow.noBlocks = false ∧ Rows.fnIdleRow.leaving = false ∧ Rows.fnIdleRow.followed = none ∧ Rows.fnIdleRow.narrowed = false ∧ Rows.fnIdleRow.still = false := ⟨rfl, rfl, rfl, rfl, rfl⟩
theorem o7 : Tryz.pinned.checked.prog.funcs[9]? = some Tryz.f9 := Tryz.func9
theorem o8 (os : Os) (st : os.Started) (H : Type) (enc : TypeId × Value → H) : ReturnsInHanded Rows.fnIdleRow.assume Tryz.pinned.checked os 9 .any (Rows.fnIdleRow.pre enc Tryz.pinned.checked.prog Tryz.f9 (OpenSpec.ofChange Rows.fnIdleSpec)) (Rows.fnIdleSpec.post enc Tryz.pinned.checked.prog Tryz.f9 Rows.fnIdleRow.apart Rows.fnIdleRow.fresh Rows.fnIdleRow.handsOn Rows.fnIdleRow.again) := lifted os st H enc
theorem over : Rows.fnIdleRow.holds Tryz.pinned (OpenSpec.ofChange Rows.fnIdleSpec) :=
  OpenClaim.holds_of_wide 9 Tryz.f9 o1 o2 o3 o4.1 o4.2.1 o4.2.2.1 o4.2.2.2 o5 o6.1 o6.2.1 o6.2.2.1 o6.2.2.2.1 o6.2.2.2.2 fact1 o7 fact2 fact3 fact4
    (fun os started H enc _ => o8 os started H enc)
theorem proved : Rows.FnIdleCardSaid :=
  Claim7.holds_tied_plain_at .later [] [.handle] true Rows.fnIdleCard.stood.harness true
    over (fun _ h => by cases h) q1 (fun _ h => by cases h) fnIdle_row_tie rfl ⟨rfl, rfl⟩ q2 q3
    (fun f fn hf hfn => by
      obtain rfl : f = 9 := Option.some.inj (q4.symm.trans hf) |>.symm
      obtain rfl : fn = Tryz.f9 := (Option.some.inj (Tryz.func9.symm.trans hfn)).symm
      exact ⟨q5, fun j t ht => by
        rw [Tryz.params9] at ht
        have h3 : t ∈ [22, 22] := by
          have hm := Array.mem_of_getElem? ht
          simpa using hm
        simp only [List.mem_cons, List.not_mem_nil, or_false] at h3
        rcases h3 with rfl | rfl
        · exact s22
        · exact s22⟩)
    q6
end Go.Proofs.YtnclplgaicdapaaGreatDoor.fnIdle
