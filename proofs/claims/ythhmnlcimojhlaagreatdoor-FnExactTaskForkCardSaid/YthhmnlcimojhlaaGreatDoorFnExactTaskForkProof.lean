/- The law FnExactTaskFork returns true for all arguments. No condition beyond what the card ties: errors.errorType as the program lays it. -/
import Derived.Test.YthhmnlcimojhlaaGreatDoorTie
import Derived.Test.YthhmnlcimojhlaaGreatDoorCards
import Derived.SevenTiedAt
import Derived.Test.YthhmnlcimojhlaaGreatDoorFnExactTaskForkFa
import Derived.Test.YthhmnlcimojhlaaGreatDoorFnExactTaskForkFb
import Derived.Test.YthhmnlcimojhlaaGreatDoorFnExactTaskForkFc
namespace Go.Proofs.YthhmnlcimojhlaaGreatDoor.fnExactTaskFork
open Go.ChangeShapes Go.WideShapes Go.ChangeAt Go.RowKit
set_option maxRecDepth 100000
theorem o1 : Rows.fnExactTaskForkRow.program = Tryz.pinned.name := rfl
theorem o2 : Rows.fnExactTaskForkRow.sum = Tryz.pinned.sum := rfl
theorem o3 : Rows.fnExactTaskForkRow.spec = Rows.fnExactTaskForkSpec.name := rfl
theorem o4 : Rows.fnExactTaskForkRow.start = .entering ∧ Rows.fnExactTaskForkRow.outside = [] ∧ Rows.fnExactTaskForkRow.inits = [] ∧ Rows.fnExactTaskForkRow.under = none := ⟨rfl, rfl, rfl, rfl⟩
theorem o5 : Rows.fnExactTaskForkRow.initsInPlace = [] ∧ Rows.fnExactTaskForkRow.initsUnfollowed = false ∧ Rows.fnExactTaskForkRow.initsRecurse = false ∧ Rows.fnExactTaskForkRow.initsNamed = [] ∧ Rows.fnExactTaskForkRow.initsPassed = [] := ⟨rfl, rfl, rfl, rfl, rfl⟩
theorem o6 : Rows.fnExactTaskForkRow.noBlocks = false ∧ Rows.fnExactTaskForkRow.leaving = false ∧ Rows.fnExactTaskForkRow.followed = none ∧ Rows.fnExactTaskForkRow.narrowed = false ∧ Rows.fnExactTaskForkRow.still = false := ⟨rfl, rfl, rfl, rfl, rfl⟩
theorem o7 : Tryz.pinned.checked.prog.funcs[7]? = some Tryz.f7 := Tryz.func7
theorem o8 (os : Os) (st : os.Started) (H : Type) (enc : TypeId × Value → H) : ReturnsInHanded Rows.fnExactTaskForkRow.assume Tryz.pinned.checked os 7 .any (Rows.fnExactTaskForkRow.pre enc Tryz.pinned.checked.prog Tryz.f7 (OpenSpec.ofChange Rows.fnExactTaskForkSpec)) (Rows.fnExactTaskForkSpec.post enc Tryz.pinned.checked.prog Tryz.f7 Rows.fnExactTaskForkRow.apart Rows.fnExactTaskForkRow.fresh Rows.fnExactTaskForkRow.handsOn Rows.fnExactTaskForkRow.again) := lifted os st H enc
theorem over : Rows.fnExactTaskForkRow.holds Tryz.pinned (OpenSpec.ofChange Rows.fnExactTaskForkSpec) :=
  OpenClaim.holds_of_wide 7 Tryz.f7 o1 o2 o3 o4.1 o4.2.1 o4.2.2.1 o4.2.2.2 o5 o6.1 o6.2.1 o6.2.2.1 o6.2.2.2.1 o6.2.2.2.2 fact1 o7 fact2 fact3 fact4
    (fun os started H enc _ => o8 os started H enc)
theorem proved : Rows.FnExactTaskForkCardSaid :=
  Claim7.holds_tied_plain_at .later [] [.handle] true Rows.fnExactTaskForkCard.stood.harness true
    over (fun _ h => by cases h) q1 (fun _ h => by cases h) fnExactTaskFork_row_tie rfl ⟨rfl, rfl⟩ q2 q3
    (fun f fn hf hfn => by
      obtain rfl : f = 7 := Option.some.inj (q4.symm.trans hf) |>.symm
      obtain rfl : fn = Tryz.f7 := (Option.some.inj (Tryz.func7.symm.trans hfn)).symm
      exact ⟨q5, fun j t ht => by
        rw [Tryz.params7] at ht
        have h3 : t ∈ [26, 3, 3, 3] := by
          have hm := Array.mem_of_getElem? ht
          simpa using hm
        simp only [List.mem_cons, List.not_mem_nil, or_false] at h3
        rcases h3 with rfl | rfl | rfl | rfl
        · exact s26
        · exact s3
        · exact s3
        · exact s3⟩)
    q6
end Go.Proofs.YthhmnlcimojhlaaGreatDoor.fnExactTaskFork
