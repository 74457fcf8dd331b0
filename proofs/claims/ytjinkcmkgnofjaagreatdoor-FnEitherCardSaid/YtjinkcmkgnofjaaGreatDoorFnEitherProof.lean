/- The law FnEither returns true for every input. No condition beyond what the card ties: errors.errorType as the program lays it. -/
import Derived.Test.YtjinkcmkgnofjaaGreatDoorTie
import Derived.Test.YtjinkcmkgnofjaaGreatDoorCards
import Derived.SevenTiedAt
import Derived.Test.YtjinkcmkgnofjaaGreatDoorFnEitherFa
import Derived.Test.YtjinkcmkgnofjaaGreatDoorFnEitherFb
import Derived.Test.YtjinkcmkgnofjaaGreatDoorFnEitherFc
namespace Go.Proofs.YtjinkcmkgnofjaaGreatDoor.fnEither
open Go.ChangeShapes Go.WideShapes Go.ChangeAt Go.RowKit
set_option maxRecDepth 100000
theorem o1 : Rows.fnEitherRow.program = Tryz.pinned.name := rfl
theorem o2 : Rows.fnEitherRow.sum = Tryz.pinned.sum := rfl
theorem o3 : Rows.fnEitherRow.spec = Rows.fnEitherSpec.name := rfl
theorem o4 : Rows.fnEitherRow.start = .entering ∧ Rows.fnEitherRow.outside = [] ∧ Rows.fnEitherRow.inits = [] ∧ Rows.fnEitherRow.under = none := ⟨rfl, rfl, rfl, rfl⟩
theorem o5 : Rows.fnEitherRow.initsInPlace = [] ∧ Rows.fnEitherRow.initsUnfollowed = false ∧ Rows.fnEitherRow.initsRecurse = false ∧ Rows.fnEitherRow.initsNamed = [] ∧ Rows.fnEitherRow.initsPassed = [] := ⟨rfl, rfl, rfl, rfl, rfl⟩
theorem o6 : Rows.fnEitherRow.noBlocks = false ∧ Rows.fnEitherRow.leaving = false ∧ Rows.fnEitherRow.followed = none ∧ Rows.fnEitherRow.narrowed = false ∧ Rows.fnEitherRow.still = false := ⟨rfl, rfl, rfl, rfl, rfl⟩
theorem o7 : Tryz.pinned.checked.prog.funcs[3]? = some Tryz.f3 := Tryz.func3
theorem o8 (os : Os) (st : os.Started) (H : Type) (enc : TypeId × Value → H) : ReturnsInHanded Rows.fnEitherRow.assume Tryz.pinned.checked os 3 .any (Rows.fnEitherRow.pre enc Tryz.pinned.checked.prog Tryz.f3 (OpenSpec.ofChange Rows.fnEitherSpec)) (Rows.fnEitherSpec.post enc Tryz.pinned.checked.prog Tryz.f3 Rows.fnEitherRow.apart Rows.fnEitherRow.fresh Rows.fnEitherRow.handsOn Rows.fnEitherRow.again) := lifted os st H enc
theorem over : Rows.fnEitherRow.holds Tryz.pinned (OpenSpec.ofChange Rows.fnEitherSpec) :=
  OpenClaim.holds_of_wide 3 Tryz.f3 o1 o2 o3 o4.1 o4.2.1 o4.2.2.1 o4.2.2.2 o5 o6.1 o6.2.1 o6.2.2.1 o6.2.2.2.1 o6.2.2.2.2 fact1 o7 fact2 fact3 fact4
    (fun os started H enc _ => o8 os started H enc)
theorem proved : Rows.FnEitherCardSaid :=
  Claim7.holds_tied_plain_at .later [] [.handle] true Rows.fnEitherCard.stood.harness true
    over (fun _ h => by cases h) q1 (fun _ h => by cases h) fnEither_row_tie rfl ⟨rfl, rfl⟩ q2 q3
    (fun f fn hf hfn => by
      obtain rfl : f = 3 := Option.some.inj (q4.symm.trans hf) |>.symm
      obtain rfl : fn = Tryz.f3 := (Option.some.inj (Tryz.func3.symm.trans hfn)).symm
      exact ⟨q5, fun j t ht => by
        rw [Tryz.params3] at ht
        have h3 : t ∈ [22, 22] := by
          have hm := Array.mem_of_getElem? ht
          simpa using hm
        simp only [List.mem_cons, List.not_mem_nil, or_false] at h3
        rcases h3 with rfl | rfl
        · exact s22
        · exact s22⟩)
    q6
end Go.Proofs.YtjinkcmkgnofjaaGreatDoor.fnEither
