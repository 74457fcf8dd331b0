/- Contracts, part d: the draws and the law FnWeights. -/
import Derived.Test.YtopaajbfnpmjcaaKc
namespace Go.Proofs.Ytopaajbfnpmjcaa
open Go.RowKit
set_option maxRecDepth 10000

theorem k_DrawVirtualStep {c : Option Addr} {L C : Nat} {w : World} (h : Bytes c L w) (hC : L ≤ C) :
    Calls Try.prog fn_spec_DrawVirtualStep #[.slice c L C] w fun e w' => ∃ n k, e = .returned (.tuple #[.int .i64 n, .int .i64 k]) ∧ (-1 ≤ n ∧ n ≤ 200000000) ∧ WtV k ∧ ExtX [] w w' := by
  refine (e_spec_DrawVirtualStep c L C (R := fun v w' => ∃ n k, v = .tuple #[.int .i64 n, .int .i64 k] ∧ (-1 ≤ n ∧ n ≤ 200000000) ∧ WtV k ∧ ExtX [] w w') ?_).mono fun e w' ⟨v, he, n, k, hv, h1, h2, h3⟩ => ⟨n, k, by rw [he, hv], h1, h2, h3⟩
  refine fun wr hx _ => (k_l20Open (h.ext hx) hC).mono fun e w1 ⟨b, c', L', he, hb, hr1, hx1⟩ => ⟨_, he, kept_nil, ?_⟩
  have hb0 : w.heap.size ≤ b := Nat.le_trans hx.size hb
  have g1 : ExtX [] w w1 := hx.trans hx1
  refine fun wr1 hy1 _ => (k_pick (hr1.ext0 hy1) (by omega)).mono fun e w2 ⟨p, he, hp, hr2, hx2⟩ => ⟨_, he, kept_nil, ?_⟩
  have g2 : ExtX [] w w2 := (g1.trans hy1).fresh hx2 fun y hy => by rw [List.mem_singleton.1 hy]; exact .inl hb0
  have hp1 := hp.1; have hp2 := hp.2.2 (by decide)
  refine fun wr2 hy2 _ => (k_big (hr2.ext0 hy2) (by omega)).mono fun e w3 ⟨g, he, hg, hr3, hx3⟩ => ⟨_, he, kept_nil, ?_⟩
  have g3 : ExtX [] w w3 := (g2.trans hy2).fresh hx3 fun y hy => by rw [List.mem_singleton.1 hy]; exact .inl hb0
  have hm1 := Int.tmod_nonneg (200000000 : Int) hg.1
  have hm2 := Int.tmod_lt_of_pos g (show (0 : Int) < 200000000 by decide)
  have pk : ∀ u : Int, 0 ≤ u → u < 5 → ∃ x, (0 ≤ u ∧ ([.int .i64 p, .int .i64 100000000, .int .i64 100000001, .int .i64 (-1), .int .i64 (Int.tmod g 200000000)] : List Value)[Int.toNat u + 0]? = some (.int .i64 x)) ∧ -1 ≤ x ∧ x ≤ 200000000 := fun u h0 h5 => by
    have : u = 0 ∨ u = 1 ∨ u = 2 ∨ u = 3 ∨ u = 4 := by omega
    rcases this with rfl | rfl | rfl | rfl | rfl <;> exact ⟨_, ⟨by decide, rfl⟩, by omega, by omega⟩
  refine ⟨by decide, fun b1 hb1 wr3 hy3 hs3 => ?_, fun wr6 hy3 _ => ?_⟩
  · refine (k_pick (hr3.ext0 hy3) (by omega)).mono fun e w4 ⟨u, he, hu, hr4, hx4⟩ => ⟨_, he, kept_one hx4 (hs3 b1 (by simp)) (by have := hr3.lt; omega), ?_⟩
    have hu1 := hu.1; have hu2 := hu.2.2 (by decide)
    have g4 : ExtX [] w w4 := (g3.trans hy3).fresh hx4 fun y hy => by rw [List.mem_singleton.1 hy]; exact .inl hb0
    obtain ⟨x, hx, hx0, hx9⟩ := pk u hu1 hu2
    refine ⟨⟨hu1, hu2⟩, x, hx, fun wr4 hy4 hs4 => ?_⟩
    have hbn : ∀ y ∈ [b1], w3.heap.size ≤ y := by simpa using hb1
    have g4' : ExtX [] w wr4 := g4.fresh hy4 fun y hy => .inl (Nat.le_trans g3.size (hbn y hy))
    have hr4' := hr3.extN hr4 hy4 hbn
    refine (k_weight hr4' (by omega)).mono fun e w5 ⟨k, he, hk, hr5, hx5⟩ => ⟨_, he, kept_one hx5 (hs4 b1 (by simp)) (by have := hr3.lt; omega), rfl, fun wr5 hy5 => ⟨_, _, rfl, ⟨hx0, hx9⟩, hk, ?_⟩⟩
    exact (g4'.fresh hx5 fun y hy => by rw [List.mem_singleton.1 hy]; exact .inl hb0).fresh hy5 fun y hy => .inl (Nat.le_trans g3.size (hbn y hy))
  · refine (k_pick (hr3.ext0 hy3) (by omega)).mono fun e w4 ⟨u, he, hu, hr4, hx4⟩ => ⟨_, he, kept_nil, ?_⟩
    have hu1 := hu.1; have hu2 := hu.2.2 (by decide)
    have g4 : ExtX [] w w4 := (g3.trans hy3).fresh hx4 fun y hy => by rw [List.mem_singleton.1 hy]; exact .inl hb0
    obtain ⟨x, hx, hx0, hx9⟩ := pk u hu1 hu2
    refine ⟨fun b1 hb1 => ⟨⟨hu1, hu2⟩, x, hx, fun wr4 hy4 hs4 => ?_⟩, fun wr4 hy4 _ => ?_⟩
    · refine (k_weight (hr4.ext0 hy4) (by omega)).mono fun e w5 ⟨k, he, hk, hr5, hx5⟩ => ⟨_, he, kept_one hx5 (hs4 b1 (by simp)) (by have := hr4.lt; omega), rfl, fun wr5 hy5 => ⟨_, _, rfl, ⟨hx0, hx9⟩, hk, ?_⟩⟩
      exact ((g4.trans hy4).fresh hx5 fun y hy => by rw [List.mem_singleton.1 hy]; exact .inl hb0).fresh hy5 fun y hy => by rw [List.mem_singleton.1 hy]; exact .inl (Nat.le_trans g4.size hb1)
    · refine (k_weight (hr4.ext0 hy4) (by omega)).mono fun e w5 ⟨k, he, hk, hr5, hx5⟩ => ⟨_, he, kept_nil, fun b2 hb2 => ⟨⟨hu1, hu2⟩, x, hx, fun wr5 hy5 => ⟨_, _, rfl, ⟨hx0, hx9⟩, hk, ?_⟩⟩⟩
      exact ((g4.trans hy4).fresh hx5 fun y hy => by rw [List.mem_singleton.1 hy]; exact .inl hb0).trans hy5

theorem k_DrawLagCut {c : Option Addr} {L C : Nat} {w : World} (h : Bytes c L w) (hC : L ≤ C) :
    Calls Try.prog fn_spec_DrawLagCut #[.slice c L C] w fun e w' => ∃ n k, e = .returned (.tuple #[.int .i64 n, .int .i64 k]) ∧ WtV k ∧ ExtX [] w w' := by
  refine (e_spec_DrawLagCut c L C (R := fun v w' => ∃ n k, v = .tuple #[.int .i64 n, .int .i64 k] ∧ WtV k ∧ ExtX [] w w') ?_).mono fun e w' ⟨v, he, n, k, hv, h2, h3⟩ => ⟨n, k, by rw [he, hv], h2, h3⟩
  refine fun wr hx _ => (k_l20Open (h.ext hx) hC).mono fun e w1 ⟨b, c', L', he, hb, hr1, hx1⟩ => ⟨_, he, kept_nil, ?_⟩
  have hb0 : w.heap.size ≤ b := Nat.le_trans hx.size hb
  have hbb : ∀ y ∈ [b], w.heap.size ≤ y ∨ y ∈ [] := fun y hy => by rw [List.mem_singleton.1 hy]; exact .inl hb0
  have g1 : ExtX [] w w1 := hx.trans hx1
  refine fun wr1 hy1 _ => (k_weight (hr1.ext0 hy1) (by omega)).mono fun e w2 ⟨k, he, hk, hr2, hx2⟩ => ⟨_, he, kept_nil, ?_⟩
  have g2 : ExtX [] w w2 := (g1.trans hy1).fresh hx2 hbb
  refine fun wr2 hy2 _ => (k_big (hr2.ext0 hy2) (by omega)).mono fun e w3 ⟨g, he, hg, hr3, hx3⟩ => ⟨_, he, kept_nil, ?_⟩
  have g3 : ExtX [] w w3 := (g2.trans hy2).fresh hx3 hbb
  refine fun wr3 hy3 _ => (k_big (hr3.ext0 hy3) (by omega)).mono fun e w4 ⟨g', he, hg', hr4, hx4⟩ => ⟨_, he, kept_nil, ?_⟩
  have g4 : ExtX [] w w4 := (g3.trans hy3).fresh hx4 hbb
  have hl := lagMost_range k
  refine ⟨inR64 (by omega) (by omega), _, k_spec_LagMost, _, k_spec_LagMost, inR64 (by omega) (by omega), fun wr4 hy4 _ => (k_pick (hr4.ext0 hy4) (by omega)).mono fun e w5 ⟨p, he, hp, hr5, hx5⟩ => ⟨_, he, kept_nil, _, k_spec_VirtualStep, fun b1 hb1 wr5 hy5 hs5 => ?_⟩⟩
  have g5 : ExtX [] w w5 := (g4.trans hy4).fresh hx5 hbb
  refine (k_pick (hr5.ext0 hy5) (by omega)).mono fun e w6 ⟨u, he, hu, hr6, hx6⟩ => ⟨_, he, kept_one hx6 (hs5 b1 (by simp)) (by have := hr5.lt; omega), ?_⟩
  have hu1 := hu.1; have hu2 := hu.2.2 (by decide)
  have g6 : ExtX [] w w6 := (g5.trans hy5).fresh hx6 hbb
  have fin : ∀ (x : Int) (wr6 : World), ExtX [b1] w6 wr6 → ∃ n k', Value.tuple #[.int .i64 x, .int .i64 k] = .tuple #[.int .i64 n, .int .i64 k'] ∧ WtV k' ∧ ExtX [] w wr6 := fun x wr6 hy6 => ⟨_, _, rfl, hk, g6.fresh hy6 fun y hy => by
    rw [List.mem_singleton.1 hy]; exact .inl (Nat.le_trans g5.size hb1)⟩
  have : u = 0 ∨ u = 1 ∨ u = 2 ∨ u = 3 ∨ u = 4 ∨ u = 5 := by omega
  refine ⟨⟨hu1, hu2⟩, ?_⟩
  rcases this with rfl | rfl | rfl | rfl | rfl | rfl <;> exact ⟨_, ⟨by decide, rfl⟩, fin _⟩

theorem vunits_exact {n k v : Int} (hn1 : 1 ≤ n) (hn2 : n ≤ 100000001) (h3 : 1 ≤ k) (h4 : k ≤ 20) (hlo : (n - 1) * stp k < v) (hhi : v ≤ n * stp k) : vunits v k = n := by
  have hs := stp_lo h3 h4
  have h0 : 0 ≤ (n - 1) * stp k := Int.mul_nonneg (by omega) (by omega)
  have h9 : n * stp k ≤ 100000001 * 232792560 := Int.le_trans (Int.mul_le_mul_of_nonneg_right hn2 (by omega)) (Int.mul_le_mul_of_nonneg_left hs.2 (by decide))
  rw [vunits_in (by omega) (by omega) h3 h4]
  exact ceil_eq (by omega) hlo hhi

theorem k_FnWeights {c : Option Addr} {L C : Nat} {c2 : Option Addr} {L2 C2 : Nat} {w : World} (h : Bytes c L w) (hC : L ≤ C) (h2 : Bytes c2 L2 w) (hC2 : L2 ≤ C2) :
    Calls Try.prog fn_laws_FnWeights #[.slice c L C, .slice c2 L2 C2] w fun e w' => e = .returned (.bool true) ∧ ExtX [] w w' := by
  refine (e_laws_FnWeights c L C c2 L2 C2 (R := fun v w' => v = .bool true ∧ ExtX [] w w') ?_).mono fun e w' ⟨v, he, hv, h3⟩ => ⟨by rw [he, hv], h3⟩
  refine ⟨fun _ wr hx => ⟨rfl, hx⟩, fun _ wr1 hx1 _ => (k_DrawVirtualStep (h.ext hx1) hC).mono fun e w1 ⟨n, k, he, hn, hk, hy1⟩ => ⟨_, _, he, kept_nil, ?_⟩⟩
  have g1 := hx1.trans hy1
  refine fun wr2 hx2 _ => (k_DrawVirtualStep (h2.ext (g1.trans hx2)) hC2).mono fun e w2 ⟨m, k2, he, hm, hk2, hy2⟩ => ⟨_, _, he, kept_nil, ?_⟩
  have g2 := (g1.trans hx2).trans hy2
  have hvr := vstep_range n k
  refine ⟨_, k_impl_VirtualStep, _, k_spec_VirtualStep, fun hne => by simp at hne, fun _ => ⟨vunits (vstep n k) k, fun _ => k_impl_VirtualUnits, fun _ _ => inR64 (by omega) (by omega), vunits (vstep n k - 1) k, fun _ _ => k_impl_VirtualUnits, fun _ _ => inR64 (by omega) (by omega), vunits (vstep n k + 1) k, fun _ _ => k_impl_VirtualUnits,
    fun _ _ => inR64 (by omega) (by omega), fun hbad => ?_, fun _ => ⟨fun _ => inR64 (by omega) (by omega), vstep m k, fun _ => k_impl_VirtualStep, fun _ => ?_, fun _ => inR64 (by omega) (by omega), vstep (m + n) k, fun _ => k_impl_VirtualStep, fun hbad => ?_, fun _ => ?_⟩⟩⟩
  · exfalso
    simp only [Bool.and_eq_true, Bool.or_eq_true, decide_eq_true_eq, bne_iff_ne] at hbad
    obtain ⟨hpos, hbad⟩ := hbad
    have hin : 0 ≤ n ∧ n ≤ 100000000 ∧ 1 ≤ k ∧ k ≤ 20 := Decidable.byContradiction fun hc => by rw [vstep_out hc] at hpos; omega
    obtain ⟨i1, i2, i3, i4⟩ := hin
    have hs := stp_lo i3 i4
    have hv := vstep_in i1 i2 i3 i4
    have hn1 : 1 ≤ n := Decidable.byContradiction fun hc => by
      have : n = 0 := by omega
      rw [hv, this, Int.zero_mul] at hpos; omega
    have e1 : (n - 1) * stp k = n * stp k - stp k := by rw [Int.sub_mul, Int.one_mul]
    have e2 : (n + 1 - 1) * stp k = n * stp k := by rw [Int.add_sub_cancel]
    have e3 : (n + 1) * stp k = n * stp k + stp k := by rw [Int.add_mul, Int.one_mul]
    rcases hbad with (hb | hb) | hb
    · exact hb (vunits_exact hn1 (by omega) i3 i4 (by rw [hv, e1]; omega) (by rw [hv]; omega))
    · exact hb.1 (vunits_exact hn1 (by omega) i3 i4 (by rw [hv, e1]; omega) (by rw [hv]; omega))
    · exact hb (vunits_exact (by omega) (by omega) i3 i4 (by rw [hv, e2]; omega) (by rw [hv, e3]; omega))
  · have := vstep_range m k
    exact inR64 (by omega) (by omega)
  · exfalso
    simp only [Bool.and_eq_true, decide_eq_true_eq, bne_iff_ne] at hbad
    obtain ⟨⟨⟨h1, h2⟩, h3⟩, h4⟩ := hbad
    refine h4 ?_
    by_cases hk : 1 ≤ k ∧ k ≤ 20
    · rw [vstep_in h1 (by omega) hk.1 hk.2, vstep_in h2 (by omega) hk.1 hk.2, vstep_in (by omega) h3 hk.1 hk.2, Int.add_mul]
    · rw [vstep_out (by omega), vstep_out (by omega), vstep_out (by omega)]; rfl
  · refine fun wr6 hx6 _ => (k_DrawLagCut (h.ext (g2.trans hx6)) hC).mono fun e w3 ⟨l, u, he, hu, hy3⟩ => ⟨_, _, he, kept_nil, ?_⟩
    have g3 := (g2.trans hx6).trans hy3
    have hl := lagMost_range u
    have hc1 := lagCut_range l u
    have hcc : lagCut (lagCut l u) u = lagCut l u := by
      generalize lagCut l u = z at hc1
      unfold lagCut
      by_cases h1 : lagMost u < z <;> simp only [h1, if_true, if_false] <;> split <;> omega
    refine ⟨_, k_impl_LagCut, _, k_spec_LagCut, lagCut (lagCut l u) u, fun _ => k_impl_LagCut, lagMost u, fun _ => k_impl_LagMost, fun hbad => ?_, fun _ => ⟨_, _, k_impl_NiceOf, weightOf (if inB u 1 20 then 10 - u else 0), fun _ _ => k_impl_WeightOf, fun wr8 hx8 => ⟨?_, g3.trans hx8⟩⟩⟩
    · exfalso
      rw [hcc] at hbad
      simp only [Bool.or_eq_true, decide_eq_true_eq, bne_iff_ne] at hbad
      omega
    · congr 1
      cases hb : inB u 1 20 with
      | false =>
        have := inB_f.1 hb
        simp; omega
      | true =>
        have := inB_t.1 hb
        have h9 : weightOf (10 - u) = u := by unfold weightOf; rw [if_pos (inB_t.2 (by omega))]; omega
        simp [h9]; omega
end Go.Proofs.Ytopaajbfnpmjcaa
