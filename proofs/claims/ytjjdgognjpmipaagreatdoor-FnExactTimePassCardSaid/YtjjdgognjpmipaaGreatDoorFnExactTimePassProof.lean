/- The law FnExactTimePass: for every input it returns true, and each argument reads behind the call as it read before. No condition beyond what the card ties: errors.errorType as the program lays it. -/
import Derived.Test.YtjjdgognjpmipaaGreatDoorTie
import Derived.Test.YtjjdgognjpmipaaGreatDoorCards
import Derived.SevenTiedAt
import Derived.Test.YtjjdgognjpmipaaGreatDoorFnExactTimePassFa
import Derived.Test.YtjjdgognjpmipaaGreatDoorFnExactTimePassFb
namespace Go.Proofs.YtjjdgognjpmipaaGreatDoor.fnExactTimePass
open Go.ChangeShapes Go.WideShapes Go.ChangeAt Go.RowKit
set_option maxRecDepth 100000
theorem over : Rows.fnExactTimePassRow.holds Tryz.pinned (OpenSpec.ofChange Rows.fnExactTimePassSpec) :=
  OpenClaim.holds_of_wide 6 Tryz.f6 rfl rfl rfl rfl rfl rfl rfl ⟨rfl, rfl, rfl, rfl, rfl⟩ rfl rfl rfl rfl rfl fact1 Tryz.func6 fact2 fact3 fact4
    (fun os started H enc _ => lifted os started H enc)
theorem proved : Rows.FnExactTimePassCardSaid :=
  Claim7.holds_tied_plain_at .later [] [.handle] true Rows.fnExactTimePassCard.stood.harness true
    over (fun _ h => by cases h) (by kernel_rfl) (fun _ h => by cases h) fnExactTimePass_row_tie rfl ⟨rfl, rfl⟩ (by kernel_rfl) rfl
    (fun f fn hf hfn => by
      obtain rfl : f = 6 := Option.some.inj ((show Tryz.prog.funcNamed "loop.example/stint/laws.FnExactTimePass" = some 6 by kernel_rfl).symm.trans hf) |>.symm
      obtain rfl : fn = Tryz.f6 := (Option.some.inj (Tryz.func6.symm.trans hfn)).symm
      exact ⟨by kernel_rfl, fun j t ht => by
        rw [Tryz.params6] at ht
        have h3 : t ∈ [26, 3] := by
          have hm := Array.mem_of_getElem? ht
          simpa using hm
        simp only [List.mem_cons, List.not_mem_nil, or_false] at h3
        rcases h3 with rfl | rfl
        · exact (show Tryz.prog.wantsStandIn 26 = false by kernel_rfl)
        · exact (show Tryz.prog.wantsStandIn 3 = false by kernel_rfl)⟩)
    (by kernel_rfl)
end Go.Proofs.YtjjdgognjpmipaaGreatDoor.fnExactTimePass
