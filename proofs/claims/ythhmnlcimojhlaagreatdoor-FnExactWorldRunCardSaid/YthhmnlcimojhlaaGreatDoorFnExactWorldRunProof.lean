/- The law FnExactWorldRun: the program's WorldRun returns what the reference's returns. No condition beyond what the card ties: errors.errorType as the program lays it. -/
import Derived.Test.YthhmnlcimojhlaaGreatDoorTie
import Derived.Test.YthhmnlcimojhlaaGreatDoorCards
import Derived.SevenTiedAt
import Derived.Test.YthhmnlcimojhlaaGreatDoorFnExactWorldRunFa
import Derived.Test.YthhmnlcimojhlaaGreatDoorFnExactWorldRunFb
import Derived.Test.YthhmnlcimojhlaaGreatDoorFnExactWorldRunFc
namespace Go.Proofs.YthhmnlcimojhlaaGreatDoor.fnExactWorldRun
open Go.ChangeShapes Go.WideShapes Go.ChangeAt Go.RowKit
set_option maxRecDepth 100000
theorem o1 : Rows.fnExactWorldRunRow.program = Tryz.pinned.name := rfl
theorem o2 : Rows.fnExactWorldRunRow.sum = Tryz.pinned.sum := rfl
theorem o3 : Rows.fnExactWorldRunRow.spec = Rows.fnExactWorldRunSpec.name := rfl
theorem o4 : Rows.fnExactWorldRunRow.start = .entering ∧ Rows.fnExactWorldRunRow.outside = [] ∧ Rows.fnExactWorldRunRow.inits = [] ∧ Rows.fnExactWorldRunRow.under = none := ⟨rfl, rfl, rfl, rfl⟩
theorem o5 : Rows.fnExactWorldRunRow.initsInPlace = [] ∧ Rows.fnExactWorldRunRow.initsUnfollowed = false ∧ Rows.fnExactWorldRunRow.initsRecurse = false ∧ Rows.fnExactWorldRunRow.initsNamed = [] ∧ Rows.fnExactWorldRunRow.initsPassed = [] := ⟨rfl, rfl, rfl, rfl, rfl⟩
theorem o6 : Rows.fnExactWorldRunRow.noBlocks = false ∧ Rows.fnExactWorldRunRow.leaving = false ∧ Rows.fnExactWorldRunRow.followed = none ∧ Rows.fnExactWorldRunRow.narrowed = false ∧ Rows.fnExactWorldRunRow.still = false := ⟨rfl, rfl, rfl, rfl, rfl⟩
theorem o7 : Tryz.pinned.checked.prog.funcs[10]? = some Tryz.f10 := Tryz.func10
theorem o8 (os : Os) (st : os.Started) (H : Type) (enc : TypeId × Value → H) : ReturnsInHanded Rows.fnExactWorldRunRow.assume Tryz.pinned.checked os 10 .any (Rows.fnExactWorldRunRow.pre enc Tryz.pinned.checked.prog Tryz.f10 (OpenSpec.ofChange Rows.fnExactWorldRunSpec)) (Rows.fnExactWorldRunSpec.post enc Tryz.pinned.checked.prog Tryz.f10 Rows.fnExactWorldRunRow.apart Rows.fnExactWorldRunRow.fresh Rows.fnExactWorldRunRow.handsOn Rows.fnExactWorldRunRow.again) := lifted os st H enc
theorem over : Rows.fnExactWorldRunRow.holds Tryz.pinned (OpenSpec.ofChange Rows.fnExactWorldRunSpec) :=
  OpenClaim.holds_of_wide 10 Tryz.f10 o1 o2 o3 o4.1 o4.2.1 o4.2.2.1 o4.2.2.2 o5 o6.1 o6.2.1 o6.2.2.1 o6.2.2.2.1 o6.2.2.2.2 fact1 o7 fact2 fact3 fact4
    (fun os started H enc _ => o8 os started H enc)
theorem proved : Rows.FnExactWorldRunCardSaid :=
  Claim7.holds_tied_plain_at .later [] [.handle] true Rows.fnExactWorldRunCard.stood.harness true
    over (fun _ h => by cases h) q1 (fun _ h => by cases h) fnExactWorldRun_row_tie rfl ⟨rfl, rfl⟩ q2 q3
    (fun f fn hf hfn => by
      obtain rfl : f = 10 := Option.some.inj (q4.symm.trans hf) |>.symm
      obtain rfl : fn = Tryz.f10 := (Option.some.inj (Tryz.func10.symm.trans hfn)).symm
      exact ⟨q5, fun j t ht => by
        rw [Tryz.params10] at ht
        have h3 : t ∈ [26, 3, 3] := by
          have hm := Array.mem_of_getElem? ht
          simpa using hm
        simp only [List.mem_cons, List.not_mem_nil, or_false] at h3
        rcases h3 with rfl | rfl | rfl
        · exact s26
        · exact s3
        · exact s3⟩)
    q6
end Go.Proofs.YthhmnlcimojhlaaGreatDoor.fnExactWorldRun
