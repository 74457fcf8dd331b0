/- The law FnFork: for every input it returns true, and each argument reads behind the call as it read before. No condition beyond what the card ties: errors.errorType as the program lays it. -/
import Derived.Test.YtnclplgaicdapaaGreatDoorTie
import Derived.Test.YtnclplgaicdapaaGreatDoorCards
import Derived.SevenTiedAt
import Derived.Test.YtnclplgaicdapaaGreatDoorFnForkFa
import Derived.Test.YtnclplgaicdapaaGreatDoorFnForkFb
import Derived.Test.YtnclplgaicdapaaGreatDoorFnForkFc
namespace Go.Proofs.YtnclplgaicdapaaGreatDoor.fnFork
open Go.ChangeShapes Go.WideShapes Go.ChangeAt Go.RowKit
set_option maxRecDepth 100000
theorem o1 : Rows.fnForkRow.program = Tryz.pinned.name := rfl
theorem o2 : Rows.fnForkRow.sum = Tryz.pinned.sum := rfl
theorem o3 : Rows.fnForkRow.spec = Rows.fnForkSpec.name := rfl
theorem o4 : Rows.fnForkRow.start = .entering ∧ Rows.fnForkRow.outside = [] ∧ Rows.fnForkRow.inits = [] ∧ Rows.fnForkRow.under = none := ⟨rfl, rfl, rfl, rfl⟩
theorem o5 : Rows.fnForkRow.initsInPlace = [] ∧ Rows.fnForkRow.initsUnfollowed = false ∧ Rows.fnForkRow.initsRecurse = false ∧ Rows.fnForkRow.initsNamed = [] ∧ Rows.fnForkRow.initsPassed = [] := ⟨rfl, rfl, rfl, rfl, rfl⟩
theorem o6 : Rows.fnForkRow.noBlocks = false ∧ Rows.fnForkRow.leaving = false ∧ Rows.fnForkRow.followed = none ∧ Rows.fnForkRow.narrowed = false ∧ Rows.fnForkRow.still = false := ⟨rfl, rfl, rfl, rfl, rfl⟩
theorem o7 : Tryz.pinned.checked.prog.funcs[8]? = some Tryz.f8 := Tryz.func8
theorem o8 (os : Os) (st : os.Started) (H : Type) (enc : TypeId × Value → H) : ReturnsInHanded Rows.fnForkRow.assume Tryz.pinned.checked os 8 .any (Rows.fnForkRow.pre enc Tryz.pinned.checked.prog Tryz.f8 (OpenSpec.ofChange Rows.fnForkSpec)) (Rows.fnForkSpec.post enc Tryz.pinned.checked.prog Tryz.f8 Rows.fnForkRow.apart Rows.fnForkRow.fresh Rows.fnForkRow.handsOn Rows.fnForkRow.again) := lifted os st H enc
theorem over : Rows.fnForkRow.holds Tryz.pinned (OpenSpec.ofChange Rows.fnForkSpec) :=
  OpenClaim.holds_of_wide 8 Tryz.f8 o1 o2 o3 o4.1 o4.2.1 o4.2.2.1 o4.2.2.2 o5 o6.1 o6.2.1 o6.2.2.1 o6.2.2.2.1 o6.2.2.2.2 fact1 o7 fact2 fact3 fact4
    (fun os started H enc _ => o8 os started H enc)
theorem proved : Rows.FnForkCardSaid :=
  Claim7.holds_tied_plain_at .later [] [.handle] true Rows.fnForkCard.stood.harness true
    over (fun _ h => by cases h) q1 (fun _ h => by cases h) fnFork_row_tie rfl ⟨rfl, rfl⟩ q2 q3
    (fun f fn hf hfn => by
      obtain rfl : f = 8 := Option.some.inj (q4.symm.trans hf) |>.symm
      obtain rfl : fn = Tryz.f8 := (Option.some.inj (Tryz.func8.symm.trans hfn)).symm
      exact ⟨q5, fun j t ht => by
        rw [Tryz.params8] at ht
        have h3 : t ∈ [22] := by
          have hm := Array.mem_of_getElem? ht
          simpa using hm
        simp only [List.mem_cons, List.not_mem_nil, or_false] at h3
        rcases h3 with rfl
        · exact s22⟩)
    q6
end Go.Proofs.YtnclplgaicdapaaGreatDoor.fnFork
