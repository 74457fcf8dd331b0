/- The law FnExactTaskNice: for every input it returns true, and each argument reads behind the call as it read before. No condition beyond what the card ties: errors.errorType as the program lays it. -/
import Derived.Test.YtjjdgognjpmipaaGreatDoorTie
import Derived.Test.YtjjdgognjpmipaaGreatDoorCards
import Derived.SevenTiedAt
import Derived.Test.YtjjdgognjpmipaaGreatDoorFnExactTaskNiceFa
import Derived.Test.YtjjdgognjpmipaaGreatDoorFnExactTaskNiceFb
namespace Go.Proofs.YtjjdgognjpmipaaGreatDoor.fnExactTaskNice
open Go.ChangeShapes Go.WideShapes Go.ChangeAt Go.RowKit
set_option maxRecDepth 100000
theorem over : Rows.fnExactTaskNiceRow.holds Tryz.pinned (OpenSpec.ofChange Rows.fnExactTaskNiceSpec) :=
  OpenClaim.holds_of_wide 4 Tryz.f4 rfl rfl rfl rfl rfl rfl rfl ⟨rfl, rfl, rfl, rfl, rfl⟩ rfl rfl rfl rfl rfl fact1 Tryz.func4 fact2 fact3 fact4
    (fun os started H enc _ => lifted os started H enc)
theorem proved : Rows.FnExactTaskNiceCardSaid :=
  Claim7.holds_tied_plain_at .later [] [.handle] true Rows.fnExactTaskNiceCard.stood.harness true
    over (fun _ h => by cases h) (by kernel_rfl) (fun _ h => by cases h) fnExactTaskNice_row_tie rfl ⟨rfl, rfl⟩ (by kernel_rfl) rfl
    (fun f fn hf hfn => by
      obtain rfl : f = 4 := Option.some.inj ((show Tryz.prog.funcNamed "loop.example/stint/laws.FnExactTaskNice" = some 4 by kernel_rfl).symm.trans hf) |>.symm
      obtain rfl : fn = Tryz.f4 := (Option.some.inj (Tryz.func4.symm.trans hfn)).symm
      exact ⟨by kernel_rfl, fun j t ht => by
        rw [Tryz.params4] at ht
        have h3 : t ∈ [26, 3, 3] := by
          have hm := Array.mem_of_getElem? ht
          simpa using hm
        simp only [List.mem_cons, List.not_mem_nil, or_false] at h3
        rcases h3 with rfl | rfl | rfl
        · exact (show Tryz.prog.wantsStandIn 26 = false by kernel_rfl)
        · exact (show Tryz.prog.wantsStandIn 3 = false by kernel_rfl)
        · exact (show Tryz.prog.wantsStandIn 3 = false by kernel_rfl)⟩)
    (by kernel_rfl)
end Go.Proofs.YtjjdgognjpmipaaGreatDoor.fnExactTaskNice
