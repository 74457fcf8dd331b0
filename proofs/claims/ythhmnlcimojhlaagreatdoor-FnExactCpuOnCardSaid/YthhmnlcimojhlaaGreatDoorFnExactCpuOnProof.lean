/- The law FnExactCpuOn returns true for all arguments. No condition beyond what the card ties: errors.errorType as the program lays it. -/
import Derived.Test.YthhmnlcimojhlaaGreatDoorTie
import Derived.Test.YthhmnlcimojhlaaGreatDoorCards
import Derived.SevenTiedAt
import Derived.Test.YthhmnlcimojhlaaGreatDoorFnExactCpuOnFa
import Derived.Test.YthhmnlcimojhlaaGreatDoorFnExactCpuOnFb
import Derived.Test.YthhmnlcimojhlaaGreatDoorFnExactCpuOnFc
namespace Go.Proofs.YthhmnlcimojhlaaGreatDoor.fnExactCpuOn
open Go.ChangeShapes Go.WideShapes Go.ChangeAt Go.RowKit
set_option maxRecDepth 100000
theorem o1 : Rows.fnExactCpuOnRow.program = Tryz.pinned.name := rfl
theorem o2 : Rows.fnExactCpuOnRow.sum = Tryz.pinned.sum := rfl
theorem o3 : Rows.fnExactCpuOnRow.spec = Rows.fnExactCpuOnSpec.name := rfl
theorem o4 : Rows.fnExactCpuOnRow.start = .entering ∧ Rows.fnExactCpuOnRow.outside = [] ∧ Rows.fnExactCpuOnRow.inits = [] ∧ Rows.fnExactCpuOnRow.under = none := ⟨rfl, rfl, rfl, rfl⟩
theorem o5 : Rows.fnExactCpuOnRow.initsInPlace = [] ∧ Rows.fnExactCpuOnRow.initsUnfollowed = false ∧ Rows.fnExactCpuOnRow.initsRecurse = false ∧ Rows.fnExactCpuOnRow.initsNamed = [] ∧ Rows.fnExactCpuOnRow.initsPassed = [] := ⟨rfl, rfl, rfl, rfl, rfl⟩
theorem o6 : Rows.fnExactCpuOnRow.noBlocks = false ∧ Rows.fnExactCpuOnRow.leaving = false ∧ Rows.fnExactCpuOnRow.followed = none ∧ Rows.fnExactCpuOnRow.narrowed = false ∧ Rows.fnExactCpuOnRow.still = false := ⟨rfl, rfl, rfl, rfl, rfl⟩
theorem o7 : Tryz.pinned.checked.prog.funcs[6]? = some Tryz.f6 := Tryz.func6
theorem o8 (os : Os) (st : os.Started) (H : Type) (enc : TypeId × Value → H) : ReturnsInHanded Rows.fnExactCpuOnRow.assume Tryz.pinned.checked os 6 .any (Rows.fnExactCpuOnRow.pre enc Tryz.pinned.checked.prog Tryz.f6 (OpenSpec.ofChange Rows.fnExactCpuOnSpec)) (Rows.fnExactCpuOnSpec.post enc Tryz.pinned.checked.prog Tryz.f6 Rows.fnExactCpuOnRow.apart Rows.fnExactCpuOnRow.fresh Rows.fnExactCpuOnRow.handsOn Rows.fnExactCpuOnRow.again) := lifted os st H enc
theorem over : Rows.fnExactCpuOnRow.holds Tryz.pinned (OpenSpec.ofChange Rows.fnExactCpuOnSpec) :=
  OpenClaim.holds_of_wide 6 Tryz.f6 o1 o2 o3 o4.1 o4.2.1 o4.2.2.1 o4.2.2.2 o5 o6.1 o6.2.1 o6.2.2.1 o6.2.2.2.1 o6.2.2.2.2 fact1 o7 fact2 fact3 fact4
    (fun os started H enc _ => o8 os started H enc)
theorem proved : Rows.FnExactCpuOnCardSaid :=
  Claim7.holds_tied_plain_at .later [] [.handle] true Rows.fnExactCpuOnCard.stood.harness true
    over (fun _ h => by cases h) q1 (fun _ h => by cases h) fnExactCpuOn_row_tie rfl ⟨rfl, rfl⟩ q2 q3
    (fun f fn hf hfn => by
      obtain rfl : f = 6 := Option.some.inj (q4.symm.trans hf) |>.symm
      obtain rfl : fn = Tryz.f6 := (Option.some.inj (Tryz.func6.symm.trans hfn)).symm
      exact ⟨q5, fun j t ht => by
        rw [Tryz.params6] at ht
        have h3 : t ∈ [26, 3] := by
          have hm := Array.mem_of_getElem? ht
          simpa using hm
        simp only [List.mem_cons, List.not_mem_nil, or_false] at h3
        rcases h3 with rfl | rfl
        · exact s26
        · exact s3⟩)
    q6
end Go.Proofs.YthhmnlcimojhlaaGreatDoor.fnExactCpuOn
