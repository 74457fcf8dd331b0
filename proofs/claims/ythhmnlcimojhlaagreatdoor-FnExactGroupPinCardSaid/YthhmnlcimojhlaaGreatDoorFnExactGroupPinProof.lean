/- The law FnExactGroupPin returns true for all arguments. No condition beyond what the card ties: errors.errorType as the program lays it. -/
import Derived.Test.YthhmnlcimojhlaaGreatDoorTie
import Derived.Test.YthhmnlcimojhlaaGreatDoorCards
import Derived.SevenTiedAt
import Derived.Test.YthhmnlcimojhlaaGreatDoorFnExactGroupPinFa
import Derived.Test.YthhmnlcimojhlaaGreatDoorFnExactGroupPinFb
import Derived.Test.YthhmnlcimojhlaaGreatDoorFnExactGroupPinFc
namespace Go.Proofs.YthhmnlcimojhlaaGreatDoor.fnExactGroupPin
open Go.ChangeShapes Go.WideShapes Go.ChangeAt Go.RowKit
set_option maxRecDepth 100000
theorem o1 : Rows.fnExactGroupPinRow.program = Tryz.pinned.name := rfl
theorem o2 : Rows.fnExactGroupPinRow.sum = Tryz.pinned.sum := rfl
theorem o3 : Rows.fnExactGroupPinRow.spec = Rows.fnExactGroupPinSpec.name := rfl
theorem o4 : Rows.fnExactGroupPinRow.start = .entering ∧ Rows.fnExactGroupPinRow.outside = [] ∧ Rows.fnExactGroupPinRow.inits = [] ∧ Rows.fnExactGroupPinRow.under = none := ⟨rfl, rfl, rfl, rfl⟩
theorem o5 : Rows.fnExactGroupPinRow.initsInPlace = [] ∧ Rows.fnExactGroupPinRow.initsUnfollowed = false ∧ Rows.fnExactGroupPinRow.initsRecurse = false ∧ Rows.fnExactGroupPinRow.initsNamed = [] ∧ Rows.fnExactGroupPinRow.initsPassed = [] := ⟨rfl, rfl, rfl, rfl, rfl⟩
theorem o6 : Rows.fnExactGroupPinRow.noBlocks = false ∧ Rows.fnExactGroupPinRow.leaving = false ∧ Rows.fnExactGroupPinRow.followed = none ∧ Rows.fnExactGroupPinRow.narrowed = false ∧ Rows.fnExactGroupPinRow.still = false := ⟨rfl, rfl, rfl, rfl, rfl⟩
theorem o7 : Tryz.pinned.checked.prog.funcs[5]? = some Tryz.f5 := Tryz.func5
theorem o8 (os : Os) (st : os.Started) (H : Type) (enc : TypeId × Value → H) : ReturnsInHanded Rows.fnExactGroupPinRow.assume Tryz.pinned.checked os 5 .any (Rows.fnExactGroupPinRow.pre enc Tryz.pinned.checked.prog Tryz.f5 (OpenSpec.ofChange Rows.fnExactGroupPinSpec)) (Rows.fnExactGroupPinSpec.post enc Tryz.pinned.checked.prog Tryz.f5 Rows.fnExactGroupPinRow.apart Rows.fnExactGroupPinRow.fresh Rows.fnExactGroupPinRow.handsOn Rows.fnExactGroupPinRow.again) := lifted os st H enc
theorem over : Rows.fnExactGroupPinRow.holds Tryz.pinned (OpenSpec.ofChange Rows.fnExactGroupPinSpec) :=
  OpenClaim.holds_of_wide 5 Tryz.f5 o1 o2 o3 o4.1 o4.2.1 o4.2.2.1 o4.2.2.2 o5 o6.1 o6.2.1 o6.2.2.1 o6.2.2.2.1 o6.2.2.2.2 fact1 o7 fact2 fact3 fact4
    (fun os started H enc _ => o8 os started H enc)
theorem proved : Rows.FnExactGroupPinCardSaid :=
  Claim7.holds_tied_plain_at .later [] [.handle] true Rows.fnExactGroupPinCard.stood.harness true
    over (fun _ h => by cases h) q1 (fun _ h => by cases h) fnExactGroupPin_row_tie rfl ⟨rfl, rfl⟩ q2 q3
    (fun f fn hf hfn => by
      obtain rfl : f = 5 := Option.some.inj (q4.symm.trans hf) |>.symm
      obtain rfl : fn = Tryz.f5 := (Option.some.inj (Tryz.func5.symm.trans hfn)).symm
      exact ⟨q5, fun j t ht => by
        rw [Tryz.params5] at ht
        have h3 : t ∈ [26, 3, 3] := by
          have hm := Array.mem_of_getElem? ht
          simpa using hm
        simp only [List.mem_cons, List.not_mem_nil, or_false] at h3
        rcases h3 with rfl | rfl | rfl
        · exact s26
        · exact s3
        · exact s3⟩)
    q6
end Go.Proofs.YthhmnlcimojhlaaGreatDoor.fnExactGroupPin
