/- The law FnExactWorldPick: it returns true. -/
import Derived.Test.YthojnihahmlboaaGreatWldQ
namespace Go.Proofs.YthojnihahmlboaaGreat
open Go.RowKit
set_option linter.unusedVariables false
set_option maxRecDepth 10000
theorem k_FnExactWorldPick {W : Wld} {m : MW} {w : World} {c : Int} (ft : FitW w W m) (_ : InR .i64 c) :
    Calls Tryz.prog fn_laws_FnExactWorldPick #[.agg (encW W m).toArray, .int .i64 c] w fun e w' => e = .returned (.bool true) ∧ ExtX [] w w' := by
  refine (e_laws_FnExactWorldPick W.now m.cO W.cpus.length m.cC m.tO W.tasks.length m.tC m.gO W.groups.length m.gC c (R := fun v w' => v = .bool true ∧ ExtX [] w w') ?_).mono fun e w' ⟨v, he, hv, h3⟩ => ⟨by rw [he, hv], h3⟩
  intro b hb
  have hl : LenW W := ⟨ft.lc, ft.lt, ft.lg, ft.ft⟩
  refine ⟨_, k_szWorld ft (by decide) (by decide), fun _ w1 hx1 => ⟨rfl, hx1⟩, fun hs wr1 hx1 hs1 => ?_⟩
  have hs := of_decide_eq_false hs
  obtain ⟨sm, _⟩ := szWd_nn (W := W) (left := 1048576) (by decide) (by omega)
  have hbn : ∀ x ∈ [b], w.heap.size ≤ x := by simpa using hb
  refine (k_toWorld (ft.at hx1) sm).mono fun e w2 ⟨m2, he, hO2, hx2⟩ => ⟨_, _, _, _, _, _, _, _, _, _, he, kept_of hx2 hs1, ?_⟩
  have R2 := hO2.rd (bs := [b]) hs1
  have X2 := hx1.trans hx2
  refine ⟨_, k_spec_WorldPick R2 hl, fun wr3 hx3 hs3 => ?_⟩
  have X3 : ExtX [] w wr3 := X2.fresh hx3 fun x hm => .inl (hbn x hm)
  refine (k_toWorld (ft.at X3) sm).mono fun e w4 ⟨m4, he, hO4, hx4⟩ => ⟨_, _, _, _, _, _, _, _, _, _, he, kept_of hx4 hs3, fun b1 hb1 => ?_⟩
  have R4 := hO4.rd (bs := [b]) hs3
  have X4 := X3.trans hx4
  refine ⟨_, k_impl_WorldPick R4 hl, fun g => by simp at g, fun _ wr5 hx5 hs5 => ?_⟩
  have X5 : ExtX [] w wr5 := X4.fresh hx5 fun x hm => .inl (hbn x hm)
  refine (k_toWorld (ft.at X5) sm).mono fun e w6 ⟨m6, he, hO6, hx6⟩ => ⟨_, _, _, _, _, _, _, _, _, _, he, kept_of hx6 hs5, rfl, ?_⟩
  have R6 := hO6.rd (bs := [b, b1]) hs5
  have R4' : RdW [b, b1] w6 W m4 := ((R4.wide (cs := [b, b1]) fun x hm => by
    simp only [List.mem_cons, List.not_mem_nil, or_false] at hm
    rcases hm with rfl | rfl
    · exact .inl (by simp)
    · exact .inr hb1).ext (hx5.mono (by simp))).ext hx6.of_nil
  refine ⟨_, k_eqWorld R4' R6 sm, fun g => ?_, fun _ w7 hx7 => ⟨rfl, (X5.trans hx6).fresh hx7 fun x hm => .inl ?_⟩⟩
  · rw [decide_eq_true rfl] at g; cases g
  · simp only [List.mem_cons, List.not_mem_nil, or_false] at hm
    rcases hm with rfl | rfl
    · exact hb
    · exact Nat.le_trans X4.size hb1
end Go.Proofs.YthojnihahmlboaaGreat
