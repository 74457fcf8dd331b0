/- The law FnExactTaskWake returns true for all arguments. No condition beyond what the card ties: errors.errorType as the program lays it. -/
import Derived.Test.YtajdcjidpolloaaGreatDoorTie
import Derived.Test.YtajdcjidpolloaaGreatDoorCards
import Derived.SevenTiedAt
import Derived.Test.YtajdcjidpolloaaGreatDoorFnExactTaskWakeFa
import Derived.Test.YtajdcjidpolloaaGreatDoorFnExactTaskWakeFb
import Derived.Test.YtajdcjidpolloaaGreatDoorFnExactTaskWakeFc
namespace Go.Proofs.YtajdcjidpolloaaGreatDoor.fnExactTaskWake
open Go.ChangeShapes Go.WideShapes Go.ChangeAt Go.RowKit
set_option maxRecDepth 100000
theorem o1 : Rows.fnExactTaskWakeRow.program = Tryz.pinned.name := rfl
theorem o2 : Rows.fnExactTaskWakeRow.sum = Tryz.pinned.sum := rfl
theorem o3 : Rows.fnExactTaskWakeRow.spec = Rows.fnExactTaskWakeSpec.name := rfl
theorem o4 : Rows.fnExactTaskWakeRow.start = .entering ∧ Rows.fnExactTaskWakeRow.outside = [] ∧ Rows.fnExactTaskWakeRow.inits = [] ∧ Rows.fnExactTaskWakeRow.under = none := ⟨rfl, rfl, rfl, rfl⟩
theorem o5 : Rows.fnExactTaskWakeRow.initsInPlace = [] ∧ Rows.fnExactTaskWakeRow.initsUnfollowed = false ∧ Rows.fnExactTaskWakeRow.initsRecurse = false ∧ Rows.fnExactTaskWakeRow.initsNamed = [] ∧ Rows.fnExactTaskWakeRow.initsPassed = [] := ⟨rfl, rfl, rfl, rfl, rfl⟩
theorem o6 : Rows.fnExactTaskWakeRow.noBlocks = false ∧ Rows.fnExactTaskWakeRow.leaving = false ∧ Rows.fnExactTaskWakeRow.followed = none ∧ Rows.fnExactTaskWakeRow.narrowed = false ∧ Rows.fnExactTaskWakeRow.still = false := ⟨rfl, rfl, rfl, rfl, rfl⟩
theorem o7 : Tryz.pinned.checked.prog.funcs[4]? = some Tryz.f4 := Tryz.func4
theorem o8 (os : Os) (st : os.Started) (H : Type) (enc : TypeId × Value → H) : ReturnsInHanded Rows.fnExactTaskWakeRow.assume Tryz.pinned.checked os 4 .any (Rows.fnExactTaskWakeRow.pre enc Tryz.pinned.checked.prog Tryz.f4 (OpenSpec.ofChange Rows.fnExactTaskWakeSpec)) (Rows.fnExactTaskWakeSpec.post enc Tryz.pinned.checked.prog Tryz.f4 Rows.fnExactTaskWakeRow.apart Rows.fnExactTaskWakeRow.fresh Rows.fnExactTaskWakeRow.handsOn Rows.fnExactTaskWakeRow.again) := lifted os st H enc
theorem over : Rows.fnExactTaskWakeRow.holds Tryz.pinned (OpenSpec.ofChange Rows.fnExactTaskWakeSpec) :=
  OpenClaim.holds_of_wide 4 Tryz.f4 o1 o2 o3 o4.1 o4.2.1 o4.2.2.1 o4.2.2.2 o5 o6.1 o6.2.1 o6.2.2.1 o6.2.2.2.1 o6.2.2.2.2 fact1 o7 fact2 fact3 fact4
    (fun os started H enc _ => o8 os started H enc)
theorem proved : Rows.FnExactTaskWakeCardSaid :=
  Claim7.holds_tied_plain_at .later [] [.handle] true Rows.fnExactTaskWakeCard.stood.harness true
    over (fun _ h => by cases h) q1 (fun _ h => by cases h) fnExactTaskWake_row_tie rfl ⟨rfl, rfl⟩ q2 q3
    (fun f fn hf hfn => by
      obtain rfl : f = 4 := Option.some.inj (q4.symm.trans hf) |>.symm
      obtain rfl : fn = Tryz.f4 := (Option.some.inj (Tryz.func4.symm.trans hfn)).symm
      exact ⟨q5, fun j t ht => by
        rw [Tryz.params4] at ht
        have h3 : t ∈ [26, 3] := by
          have hm := Array.mem_of_getElem? ht
          simpa using hm
        simp only [List.mem_cons, List.not_mem_nil, or_false] at h3
        rcases h3 with rfl | rfl
        · exact s26
        · exact s3⟩)
    q6
end Go.Proofs.YtajdcjidpolloaaGreatDoor.fnExactTaskWake
