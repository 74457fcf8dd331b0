/- The law FnExactTaskPin returns true for all arguments. No condition beyond what the card ties: errors.errorType as the program lays it. -/
import Derived.Test.YthhmnlcimojhlaaGreatDoorTie
import Derived.Test.YthhmnlcimojhlaaGreatDoorCards
import Derived.SevenTiedAt
import Derived.Test.YthhmnlcimojhlaaGreatDoorFnExactTaskPinFa
import Derived.Test.YthhmnlcimojhlaaGreatDoorFnExactTaskPinFb
import Derived.Test.YthhmnlcimojhlaaGreatDoorFnExactTaskPinFc
namespace Go.Proofs.YthhmnlcimojhlaaGreatDoor.fnExactTaskPin
open Go.ChangeShapes Go.WideShapes Go.ChangeAt Go.RowKit
set_option maxRecDepth 100000
theorem o1 : Rows.fnExactTaskPinRow.program = Tryz.pinned.name := rfl
theorem o2 : Rows.fnExactTaskPinRow.sum = Tryz.pinned.sum := rfl
theorem o3 : Rows.fnExactTaskPinRow.spec = Rows.fnExactTaskPinSpec.name := rfl
theorem o4 : Rows.fnExactTaskPinRow.start = .entering ∧ Rows.fnExactTaskPinRow.outside = [] ∧ Rows.fnExactTaskPinRow.inits = [] ∧ Rows.fnExactTaskPinRow.under = none := ⟨rfl, rfl, rfl, rfl⟩
theorem o5 : Rows.fnExactTaskPinRow.initsInPlace = [] ∧ Rows.fnExactTaskPinRow.initsUnfollowed = false ∧ Rows.fnExactTaskPinRow.initsRecurse = false ∧ Rows.fnExactTaskPinRow.initsNamed = [] ∧ Rows.fnExactTaskPinRow.initsPassed = [] := ⟨rfl, rfl, rfl, rfl, rfl⟩
theorem o6 : Rows.fnExactTaskPinRow.noBlocks = false ∧ Rows.fnExactTaskPinRow.leaving = false ∧ Rows.fnExactTaskPinRow.followed = none ∧ Rows.fnExactTaskPinRow.narrowed = false ∧ Rows.fnExactTaskPinRow.still = false := ⟨rfl, rfl, rfl, rfl, rfl⟩
theorem o7 : Tryz.pinned.checked.prog.funcs[4]? = some Tryz.f4 := Tryz.func4
theorem o8 (os : Os) (st : os.Started) (H : Type) (enc : TypeId × Value → H) : ReturnsInHanded Rows.fnExactTaskPinRow.assume Tryz.pinned.checked os 4 .any (Rows.fnExactTaskPinRow.pre enc Tryz.pinned.checked.prog Tryz.f4 (OpenSpec.ofChange Rows.fnExactTaskPinSpec)) (Rows.fnExactTaskPinSpec.post enc Tryz.pinned.checked.prog Tryz.f4 Rows.fnExactTaskPinRow.apart Rows.fnExactTaskPinRow.fresh Rows.fnExactTaskPinRow.handsOn Rows.fnExactTaskPinRow.again) := lifted os st H enc
theorem over : Rows.fnExactTaskPinRow.holds Tryz.pinned (OpenSpec.ofChange Rows.fnExactTaskPinSpec) :=
  OpenClaim.holds_of_wide 4 Tryz.f4 o1 o2 o3 o4.1 o4.2.1 o4.2.2.1 o4.2.2.2 o5 o6.1 o6.2.1 o6.2.2.1 o6.2.2.2.1 o6.2.2.2.2 fact1 o7 fact2 fact3 fact4
    (fun os started H enc _ => o8 os started H enc)
theorem proved : Rows.FnExactTaskPinCardSaid :=
  Claim7.holds_tied_plain_at .later [] [.handle] true Rows.fnExactTaskPinCard.stood.harness true
    over (fun _ h => by cases h) q1 (fun _ h => by cases h) fnExactTaskPin_row_tie rfl ⟨rfl, rfl⟩ q2 q3
    (fun f fn hf hfn => by
      obtain rfl : f = 4 := Option.some.inj (q4.symm.trans hf) |>.symm
      obtain rfl : fn = Tryz.f4 := (Option.some.inj (Tryz.func4.symm.trans hfn)).symm
      exact ⟨q5, fun j t ht => by
        rw [Tryz.params4] at ht
        have h3 : t ∈ [26, 3, 3] := by
          have hm := Array.mem_of_getElem? ht
          simpa using hm
        simp only [List.mem_cons, List.not_mem_nil, or_false] at h3
        rcases h3 with rfl | rfl | rfl
        · exact s26
        · exact s3
        · exact s3⟩)
    q6
end Go.Proofs.YthhmnlcimojhlaaGreatDoor.fnExactTaskPin
