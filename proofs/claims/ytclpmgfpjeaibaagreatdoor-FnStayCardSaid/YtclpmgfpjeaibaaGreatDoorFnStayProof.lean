/- The law FnStay: for every input it returns true, and each argument reads behind the call as it read before. No condition beyond what the card ties: errors.errorType as the program lays it. -/
import Derived.Test.YtclpmgfpjeaibaaGreatDoorTie
import Derived.Test.YtclpmgfpjeaibaaGreatDoorCards
import Derived.SevenTiedAt
import Derived.Test.YtclpmgfpjeaibaaGreatDoorFnStayFa
import Derived.Test.YtclpmgfpjeaibaaGreatDoorFnStayFb
import Derived.Test.YtclpmgfpjeaibaaGreatDoorFnStayFc
namespace Go.Proofs.YtclpmgfpjeaibaaGreatDoor.fnStay
open Go.ChangeShapes Go.WideShapes Go.ChangeAt Go.RowKit
set_option maxRecDepth 100000
theorem o1 : Rows.fnStayRow.program = Tryz.pinned.name := rfl
theorem o2 : Rows.fnStayRow.sum = Tryz.pinned.sum := rfl
theorem o3 : Rows.fnStayRow.spec = Rows.fnStaySpec.name := rfl
theorem o4 : Rows.fnStayRow.start = .entering ∧ Rows.fnStayRow.outside = [] ∧ Rows.fnStayRow.inits = [] ∧ Rows.fnStayRow.under = none := ⟨rfl, rfl, rfl, rfl⟩
theorem o5 : Rows.fnStayRow.initsInPlace = [] ∧ Rows.fnStayRow.initsUnfollowed = false ∧ Rows.fnStayRow.initsRecurse = false ∧ Rows.fnStayRow.initsNamed = [] ∧ Rows.fnStayRow.initsPassed = [] := ⟨rfl, rfl, rfl, rfl, rfl⟩
theorem o6 : Rows.fnStayRow.noBlocks = false ∧ Rows.fnStayRow.leaving = false ∧ Rows.fnStayRow.followed = none ∧ Rows.fnStayRow.narrowed = false ∧ Rows.fnStayRow.still = false := ⟨rfl, rfl, rfl, rfl, rfl⟩
theorem o7 : Tryz.pinned.checked.prog.funcs[4]? = some Tryz.f4 := Tryz.func4
theorem o8 (os : Os) (st : os.Started) (H : Type) (enc : TypeId × Value → H) : ReturnsInHanded Rows.fnStayRow.assume Tryz.pinned.checked os 4 .any (Rows.fnStayRow.pre enc Tryz.pinned.checked.prog Tryz.f4 (OpenSpec.ofChange Rows.fnStaySpec)) (Rows.fnStaySpec.post enc Tryz.pinned.checked.prog Tryz.f4 Rows.fnStayRow.apart Rows.fnStayRow.fresh Rows.fnStayRow.handsOn Rows.fnStayRow.again) := lifted os st H enc
theorem over : Rows.fnStayRow.holds Tryz.pinned (OpenSpec.ofChange Rows.fnStaySpec) :=
  OpenClaim.holds_of_wide 4 Tryz.f4 o1 o2 o3 o4.1 o4.2.1 o4.2.2.1 o4.2.2.2 o5 o6.1 o6.2.1 o6.2.2.1 o6.2.2.2.1 o6.2.2.2.2 fact1 o7 fact2 fact3 fact4
    (fun os started H enc _ => o8 os started H enc)
theorem proved : Rows.FnStayCardSaid :=
  Claim7.holds_tied_plain_at .later [] [.handle] true Rows.fnStayCard.stood.harness true
    over (fun _ h => by cases h) q1 (fun _ h => by cases h) fnStay_row_tie rfl ⟨rfl, rfl⟩ q2 q3
    (fun f fn hf hfn => by
      obtain rfl : f = 4 := Option.some.inj (q4.symm.trans hf) |>.symm
      obtain rfl : fn = Tryz.f4 := (Option.some.inj (Tryz.func4.symm.trans hfn)).symm
      exact ⟨q5, fun j t ht => by
        rw [Tryz.params4] at ht
        have h3 : t ∈ [22, 22] := by
          have hm := Array.mem_of_getElem? ht
          simpa using hm
        simp only [List.mem_cons, List.not_mem_nil, or_false] at h3
        rcases h3 with rfl | rfl
        · exact s22
        · exact s22⟩)
    q6
end Go.Proofs.YtclpmgfpjeaibaaGreatDoor.fnStay
