/- The law FnExactFileList: it returns true. -/
import Derived.Test.YthojnihahmlboaaGreatFil
namespace Go.Proofs.YthojnihahmlboaaGreat
open Go.RowKit
set_option linter.unusedVariables false
set_option linter.unusedSimpArgs false
set_option maxRecDepth 10000
theorem k_FnExactFileList {W : Wld} {m : MW} {w : World} {p : ByteArray} (ft : FitW w W m) (_ : p.size ≤ maxLen) :
    Calls Tryz.prog fn_laws_FnExactFileList #[.agg (encW W m).toArray, .string p] w fun e w' => e = .returned (.bool true) ∧ ExtX [] w w' := by
  refine (e_laws_FnExactFileList W.now m.cO W.cpus.length m.cC m.tO W.tasks.length m.tC m.gO W.groups.length m.gC p (R := fun v w' => v = .bool true ∧ ExtX [] w w') ?_).mono fun e w' ⟨v, he, hv, h3⟩ => ⟨by rw [he, hv], h3⟩
  intro b hb
  have hl : LenW W := ⟨ft.lc, ft.lt, ft.lg, ft.ft⟩
  refine ⟨fun _ w1 hx1 => ⟨rfl, hx1⟩, fun hp => ?_⟩
  have hp := of_decide_eq_false hp
  have hpm : p.size ≤ 1048576 := by omega
  refine ⟨_, k_szWorld ft (by decide) (by decide), fun _ w1 hx1 => ⟨rfl, hx1⟩, fun hs wr1 hx1 hs1 => ?_⟩
  have hs := of_decide_eq_false hs
  obtain ⟨sm, _⟩ := szWd_nn (W := W) (left := 1048576) (by decide) (by omega)
  have hbn : ∀ x ∈ [b], w.heap.size ≤ x := by simpa using hb
  refine (k_toWorld (ft.at hx1) sm).mono fun e w2 ⟨m2, he, hO2, hx2⟩ => ⟨_, _, _, _, _, _, _, _, _, _, he, kept_of hx2 hs1, fun wr3 hx3 hs3 => ?_⟩
  have X3 : ExtX [] w wr3 := (hx1.trans hx2).fresh hx3 fun x hm => .inl (hbn x hm)
  have R3 := ((hO2.rd (bs := [b]) hs1).ext hx3).less (cs := []) (by simp)
  refine (k_spec_FileList (p := p) R3 hl).mono fun e w4 ⟨he, hx4⟩ => ⟨_, _, he, kept_of hx4 hs3, fun wr5 hx5 hs5 => ?_⟩
  have X5 : ExtX [] w wr5 := (X3.trans hx4).fresh hx5 fun x hm => .inl (hbn x hm)
  refine (k_toWorld (ft.at X5) sm).mono fun e w6 ⟨m6, he, hO6, hx6⟩ => ⟨_, _, _, _, _, _, _, _, _, _, he, kept_of hx6 hs5, fun b1 hb1 wr7 hx7 hs7 => ?_⟩
  have X6 := X5.trans hx6
  have X7 : ExtX [] w wr7 := X6.fresh hx7 fun x hm => .inl (hbn x hm)
  have R6 := hO6.rd (bs := [b]) hs5
  have R7 := (R6.ext hx7).less (cs := []) (by simp)
  refine (k_impl_FileList (p := p) R7 hl hpm).mono fun e w8 ⟨he, hx8⟩ => ⟨_, _, he, kept_of hx8 hs7, fun g => ?_, fun _ wr9 hx9 hs9 => ?_⟩
  · have e1 : strEq (listA W p) (listA W p) = true := strEq_iff.2 rfl
    rw [e1] at g
    simp at g
  have X9 : ExtX [] w wr9 := (X7.trans hx8).fresh hx9 fun x hm => .inl (by
    simp only [List.mem_cons, List.not_mem_nil, or_false] at hm
    rcases hm with rfl | rfl
    · exact hb
    · exact Nat.le_trans X6.size hb1)
  refine (k_toWorld (ft.at X9) sm).mono fun e w10 ⟨m10, he, hO10, hx10⟩ => ⟨_, _, _, _, _, _, _, _, _, _, he, kept_of hx10 hs9, rfl, ?_⟩
  have R10 := hO10.rd (bs := [b, b1]) hs9
  have R6' : RdW [b, b1] w10 W m6 := ((((R6.wide (cs := [b, b1]) fun x hm => by
    simp only [List.mem_cons, List.not_mem_nil, or_false] at hm
    rcases hm with rfl | rfl
    · exact .inl (by simp)
    · exact .inr hb1).ext (hx7.mono (by simp))).ext hx8.of_nil).ext hx9).ext hx10.of_nil
  refine ⟨_, k_eqWorld R6' R10 sm, fun g => ?_, fun _ w11 hx11 => ⟨rfl, (X9.trans hx10).fresh hx11 fun x hm => .inl ?_⟩⟩
  · rw [decide_eq_true rfl] at g; cases g
  · simp only [List.mem_cons, List.not_mem_nil, or_false] at hm
    rcases hm with rfl | rfl
    · exact hb
    · exact Nat.le_trans X6.size hb1
end Go.Proofs.YthojnihahmlboaaGreat
