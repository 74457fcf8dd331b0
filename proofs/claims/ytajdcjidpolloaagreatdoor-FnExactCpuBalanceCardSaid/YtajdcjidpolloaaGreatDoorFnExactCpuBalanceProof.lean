/- The law FnExactCpuBalance returns true for all arguments. No condition beyond what the card ties: errors.errorType as the program lays it. -/
import Derived.Test.YtajdcjidpolloaaGreatDoorTie
import Derived.Test.YtajdcjidpolloaaGreatDoorCards
import Derived.SevenTiedAt
import Derived.Test.YtajdcjidpolloaaGreatDoorFnExactCpuBalanceFa
import Derived.Test.YtajdcjidpolloaaGreatDoorFnExactCpuBalanceFb
import Derived.Test.YtajdcjidpolloaaGreatDoorFnExactCpuBalanceFc
namespace Go.Proofs.YtajdcjidpolloaaGreatDoor.fnExactCpuBalance
open Go.ChangeShapes Go.WideShapes Go.ChangeAt Go.RowKit
set_option maxRecDepth 100000
theorem o1 : Rows.fnExactCpuBalanceRow.program = Tryz.pinned.name := rfl
theorem o2 : Rows.fnExactCpuBalanceRow.sum = Tryz.pinned.sum := rfl
theorem o3 : Rows.fnExactCpuBalanceRow.spec = Rows.fnExactCpuBalanceSpec.name := rfl
theorem o4 : Rows.fnExactCpuBalanceRow.start = .entering ∧ Rows.fnExactCpuBalanceRow.outside = [] ∧ Rows.fnExactCpuBalanceRow.inits = [] ∧ Rows.fnExactCpuBalanceRow.under = none := ⟨rfl, rfl, rfl, rfl⟩
theorem o5 : Rows.fnExactCpuBalanceRow.initsInPlace = [] ∧ Rows.fnExactCpuBalanceRow.initsUnfollowed = false ∧ Rows.fnExactCpuBalanceRow.initsRecurse = false ∧ Rows.fnExactCpuBalanceRow.initsNamed = [] ∧ Rows.fnExactCpuBalanceRow.initsPassed = [] := ⟨rfl, rfl, rfl, rfl, rfl⟩
theorem o6 : Rows.fnExactCpuBalanceRow.noBlocks = false ∧ Rows.fnExactCpuBalanceRow.leaving = false ∧ Rows.fnExactCpuBalanceRow.followed = none ∧ Rows.fnExactCpuBalanceRow.narrowed = false ∧ Rows.fnExactCpuBalanceRow.still = false := ⟨rfl, rfl, rfl, rfl, rfl⟩
theorem o7 : Tryz.pinned.checked.prog.funcs[5]? = some Tryz.f5 := Tryz.func5
theorem o8 (os : Os) (st : os.Started) (H : Type) (enc : TypeId × Value → H) : ReturnsInHanded Rows.fnExactCpuBalanceRow.assume Tryz.pinned.checked os 5 .any (Rows.fnExactCpuBalanceRow.pre enc Tryz.pinned.checked.prog Tryz.f5 (OpenSpec.ofChange Rows.fnExactCpuBalanceSpec)) (Rows.fnExactCpuBalanceSpec.post enc Tryz.pinned.checked.prog Tryz.f5 Rows.fnExactCpuBalanceRow.apart Rows.fnExactCpuBalanceRow.fresh Rows.fnExactCpuBalanceRow.handsOn Rows.fnExactCpuBalanceRow.again) := lifted os st H enc
theorem over : Rows.fnExactCpuBalanceRow.holds Tryz.pinned (OpenSpec.ofChange Rows.fnExactCpuBalanceSpec) :=
  OpenClaim.holds_of_wide 5 Tryz.f5 o1 o2 o3 o4.1 o4.2.1 o4.2.2.1 o4.2.2.2 o5 o6.1 o6.2.1 o6.2.2.1 o6.2.2.2.1 o6.2.2.2.2 fact1 o7 fact2 fact3 fact4
    (fun os started H enc _ => o8 os started H enc)
theorem proved : Rows.FnExactCpuBalanceCardSaid :=
  Claim7.holds_tied_plain_at .later [] [.handle] true Rows.fnExactCpuBalanceCard.stood.harness true
    over (fun _ h => by cases h) q1 (fun _ h => by cases h) fnExactCpuBalance_row_tie rfl ⟨rfl, rfl⟩ q2 q3
    (fun f fn hf hfn => by
      obtain rfl : f = 5 := Option.some.inj (q4.symm.trans hf) |>.symm
      obtain rfl : fn = Tryz.f5 := (Option.some.inj (Tryz.func5.symm.trans hfn)).symm
      exact ⟨q5, fun j t ht => by
        rw [Tryz.params5] at ht
        have h3 : t ∈ [26, 3] := by
          have hm := Array.mem_of_getElem? ht
          simpa using hm
        simp only [List.mem_cons, List.not_mem_nil, or_false] at h3
        rcases h3 with rfl | rfl
        · exact s26
        · exact s3⟩)
    q6
end Go.Proofs.YtajdcjidpolloaaGreatDoor.fnExactCpuBalance
