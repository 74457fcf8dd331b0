/- The law FnParts returns true for every input. No condition beyond what the card ties: errors.errorType as the program lays it. -/
import Derived.Test.YtjinkcmkgnofjaaGreatDoorTie
import Derived.Test.YtjinkcmkgnofjaaGreatDoorCards
import Derived.SevenTiedAt
import Derived.Test.YtjinkcmkgnofjaaGreatDoorFnPartsFa
import Derived.Test.YtjinkcmkgnofjaaGreatDoorFnPartsFb
import Derived.Test.YtjinkcmkgnofjaaGreatDoorFnPartsFc
namespace Go.Proofs.YtjinkcmkgnofjaaGreatDoor.fnParts
open Go.ChangeShapes Go.WideShapes Go.ChangeAt Go.RowKit
set_option maxRecDepth 100000
theorem o1 : Rows.fnPartsRow.program = Tryz.pinned.name := rfl
theorem o2 : Rows.fnPartsRow.sum = Tryz.pinned.sum := rfl
theorem o3 : Rows.fnPartsRow.spec = Rows.fnPartsSpec.name := rfl
theorem o4 : Rows.fnPartsRow.start = .entering ∧ Rows.fnPartsRow.outside = [] ∧ Rows.fnPartsRow.inits = [] ∧ Rows.fnPartsRow.under = none := ⟨rfl, rfl, rfl, rfl⟩
theorem o5 : Rows.fnPartsRow.initsInPlace = [] ∧ Rows.fnPartsRow.initsUnfollowed = false ∧ Rows.fnPartsRow.initsRecurse = false ∧ Rows.fnPartsRow.initsNamed = [] ∧ Rows.fnPartsRow.initsPassed = [] := ⟨rfl, rfl, rfl, rfl, rfl⟩
theorem o6 : Rows.fnPartsRow.noBlocks = false ∧ Rows.fnPartsRow.leaving = false ∧ Rows.fnPartsRow.followed = none ∧ Rows.fnPartsRow.narrowed = false ∧ Rows.fnPartsRow.still = false := ⟨rfl, rfl, rfl, rfl, rfl⟩
theorem o7 : Tryz.pinned.checked.prog.funcs[4]? = some Tryz.f4 := Tryz.func4
theorem o8 (os : Os) (st : os.Started) (H : Type) (enc : TypeId × Value → H) : ReturnsInHanded Rows.fnPartsRow.assume Tryz.pinned.checked os 4 .any (Rows.fnPartsRow.pre enc Tryz.pinned.checked.prog Tryz.f4 (OpenSpec.ofChange Rows.fnPartsSpec)) (Rows.fnPartsSpec.post enc Tryz.pinned.checked.prog Tryz.f4 Rows.fnPartsRow.apart Rows.fnPartsRow.fresh Rows.fnPartsRow.handsOn Rows.fnPartsRow.again) := lifted os st H enc
theorem over : Rows.fnPartsRow.holds Tryz.pinned (OpenSpec.ofChange Rows.fnPartsSpec) :=
  OpenClaim.holds_of_wide 4 Tryz.f4 o1 o2 o3 o4.1 o4.2.1 o4.2.2.1 o4.2.2.2 o5 o6.1 o6.2.1 o6.2.2.1 o6.2.2.2.1 o6.2.2.2.2 fact1 o7 fact2 fact3 fact4
    (fun os started H enc _ => o8 os started H enc)
theorem proved : Rows.FnPartsCardSaid :=
  Claim7.holds_tied_plain_at .later [] [.handle] true Rows.fnPartsCard.stood.harness true
    over (fun _ h => by cases h) q1 (fun _ h => by cases h) fnParts_row_tie rfl ⟨rfl, rfl⟩ q2 q3
    (fun f fn hf hfn => by
      obtain rfl : f = 4 := Option.some.inj (q4.symm.trans hf) |>.symm
      obtain rfl : fn = Tryz.f4 := (Option.some.inj (Tryz.func4.symm.trans hfn)).symm
      exact ⟨q5, fun j t ht => by
        rw [Tryz.params4] at ht
        have h3 : t ∈ [22, 22] := by
          have hm := Array.mem_of_getElem? ht
          simpa using hm
        simp only [List.mem_cons, List.not_mem_nil, or_false] at h3
        rcases h3 with rfl | rfl
        · exact s22
        · exact s22⟩)
    q6
end Go.Proofs.YtjinkcmkgnofjaaGreatDoor.fnParts
