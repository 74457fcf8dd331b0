/- The law FnExactCpuOff returns true for all arguments. No condition beyond what the card ties: errors.errorType as the program lays it. -/
import Derived.Test.YtajdcjidpolloaaGreatDoorTie
import Derived.Test.YtajdcjidpolloaaGreatDoorCards
import Derived.SevenTiedAt
import Derived.Test.YtajdcjidpolloaaGreatDoorFnExactCpuOffFa
import Derived.Test.YtajdcjidpolloaaGreatDoorFnExactCpuOffFb
import Derived.Test.YtajdcjidpolloaaGreatDoorFnExactCpuOffFc
namespace Go.Proofs.YtajdcjidpolloaaGreatDoor.fnExactCpuOff
open Go.ChangeShapes Go.WideShapes Go.ChangeAt Go.RowKit
set_option maxRecDepth 100000
theorem o1 : Rows.fnExactCpuOffRow.program = Tryz.pinned.name := rfl
theorem o2 : Rows.fnExactCpuOffRow.sum = Tryz.pinned.sum := rfl
theorem o3 : Rows.fnExactCpuOffRow.spec = Rows.fnExactCpuOffSpec.name := rfl
theorem o4 : Rows.fnExactCpuOffRow.start = .entering ∧ Rows.fnExactCpuOffRow.outside = [] ∧ Rows.fnExactCpuOffRow.inits = [] ∧ Rows.fnExactCpuOffRow.under = none := ⟨rfl, rfl, rfl, rfl⟩
theorem o5 : Rows.fnExactCpuOffRow.initsInPlace = [] ∧ Rows.fnExactCpuOffRow.initsUnfollowed = false ∧ Rows.fnExactCpuOffRow.initsRecurse = false ∧ Rows.fnExactCpuOffRow.initsNamed = [] ∧ Rows.fnExactCpuOffRow.initsPassed = [] := ⟨rfl, rfl, rfl, rfl, rfl⟩
theorem o6 : Rows.fnExactCpuOffRow.noBlocks = false ∧ Rows.fnExactCpuOffRow.leaving = false ∧ Rows.fnExactCpuOffRow.followed = none ∧ Rows.fnExactCpuOffRow.narrowed = false ∧ Rows.fnExactCpuOffRow.still = false := ⟨rfl, rfl, rfl, rfl, rfl⟩
theorem o7 : Tryz.pinned.checked.prog.funcs[3]? = some Tryz.f3 := Tryz.func3
theorem o8 (os : Os) (st : os.Started) (H : Type) (enc : TypeId × Value → H) : ReturnsInHanded Rows.fnExactCpuOffRow.assume Tryz.pinned.checked os 3 .any (Rows.fnExactCpuOffRow.pre enc Tryz.pinned.checked.prog Tryz.f3 (OpenSpec.ofChange Rows.fnExactCpuOffSpec)) (Rows.fnExactCpuOffSpec.post enc Tryz.pinned.checked.prog Tryz.f3 Rows.fnExactCpuOffRow.apart Rows.fnExactCpuOffRow.fresh Rows.fnExactCpuOffRow.handsOn Rows.fnExactCpuOffRow.again) := lifted os st H enc
theorem over : Rows.fnExactCpuOffRow.holds Tryz.pinned (OpenSpec.ofChange Rows.fnExactCpuOffSpec) :=
  OpenClaim.holds_of_wide 3 Tryz.f3 o1 o2 o3 o4.1 o4.2.1 o4.2.2.1 o4.2.2.2 o5 o6.1 o6.2.1 o6.2.2.1 o6.2.2.2.1 o6.2.2.2.2 fact1 o7 fact2 fact3 fact4
    (fun os started H enc _ => o8 os started H enc)
theorem proved : Rows.FnExactCpuOffCardSaid :=
  Claim7.holds_tied_plain_at .later [] [.handle] true Rows.fnExactCpuOffCard.stood.harness true
    over (fun _ h => by cases h) q1 (fun _ h => by cases h) fnExactCpuOff_row_tie rfl ⟨rfl, rfl⟩ q2 q3
    (fun f fn hf hfn => by
      obtain rfl : f = 3 := Option.some.inj (q4.symm.trans hf) |>.symm
      obtain rfl : fn = Tryz.f3 := (Option.some.inj (Tryz.func3.symm.trans hfn)).symm
      exact ⟨q5, fun j t ht => by
        rw [Tryz.params3] at ht
        have h3 : t ∈ [26, 3] := by
          have hm := Array.mem_of_getElem? ht
          simpa using hm
        simp only [List.mem_cons, List.not_mem_nil, or_false] at h3
        rcases h3 with rfl | rfl
        · exact s26
        · exact s3⟩)
    q6
end Go.Proofs.YtajdcjidpolloaaGreatDoor.fnExactCpuOff
