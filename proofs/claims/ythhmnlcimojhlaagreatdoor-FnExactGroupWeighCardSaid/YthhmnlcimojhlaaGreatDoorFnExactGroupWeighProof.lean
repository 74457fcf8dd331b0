/- The law FnExactGroupWeigh: for every input it returns true, and each argument reads behind the call as it read before. No condition beyond what the card ties: errors.errorType as the program lays it. -/
import Derived.Test.YthhmnlcimojhlaaGreatDoorTie
import Derived.Test.YthhmnlcimojhlaaGreatDoorCards
import Derived.SevenTiedAt
import Derived.Test.YthhmnlcimojhlaaGreatDoorFnExactGroupWeighFa
import Derived.Test.YthhmnlcimojhlaaGreatDoorFnExactGroupWeighFb
namespace Go.Proofs.YthhmnlcimojhlaaGreatDoor.fnExactGroupWeigh
open Go.ChangeShapes Go.WideShapes Go.ChangeAt Go.RowKit
set_option maxRecDepth 100000
theorem over : Rows.fnExactGroupWeighRow.holds Tryz.pinned (OpenSpec.ofChange Rows.fnExactGroupWeighSpec) :=
  OpenClaim.holds_of_wide 3 Tryz.f3 rfl rfl rfl rfl rfl rfl rfl ⟨rfl, rfl, rfl, rfl, rfl⟩ rfl rfl rfl rfl rfl fact1 Tryz.func3 fact2 fact3 fact4
    (fun os started H enc _ => lifted os started H enc)
theorem proved : Rows.FnExactGroupWeighCardSaid :=
  Claim7.holds_tied_plain_at .later [] [.handle] true Rows.fnExactGroupWeighCard.stood.harness true
    over (fun _ h => by cases h) (by kernel_rfl) (fun _ h => by cases h) fnExactGroupWeigh_row_tie rfl ⟨rfl, rfl⟩ (by kernel_rfl) rfl
    (fun f fn hf hfn => by
      obtain rfl : f = 3 := Option.some.inj ((show Tryz.prog.funcNamed "loop.example/stint/laws.FnExactGroupWeigh" = some 3 by kernel_rfl).symm.trans hf) |>.symm
      obtain rfl : fn = Tryz.f3 := (Option.some.inj (Tryz.func3.symm.trans hfn)).symm
      exact ⟨by kernel_rfl, fun j t ht => by
        rw [Tryz.params3] at ht
        have h3 : t ∈ [26, 3, 3] := by
          have hm := Array.mem_of_getElem? ht
          simpa using hm
        simp only [List.mem_cons, List.not_mem_nil, or_false] at h3
        rcases h3 with rfl | rfl | rfl
        · exact (show Tryz.prog.wantsStandIn 26 = false by kernel_rfl)
        · exact (show Tryz.prog.wantsStandIn 3 = false by kernel_rfl)
        · exact (show Tryz.prog.wantsStandIn 3 = false by kernel_rfl)⟩)
    (by kernel_rfl)
end Go.Proofs.YthhmnlcimojhlaaGreatDoor.fnExactGroupWeigh
