/- Contracts, part a: numbers, weights. -/
import Derived.Test.YthojnihahmlboaaGreatVc
namespace Go.Proofs.YthojnihahmlboaaGreat
open Go.RowKit
set_option linter.unusedVariables false
set_option linter.unusedSimpArgs false
set_option maxRecDepth 10000

theorem inR64 {z : Int} (h1 : -9223372036854775808 ≤ z) (h2 : z ≤ 9223372036854775807) : InR .i64 z := ⟨h1, h2⟩
def stp (w : Int) : Int := Int.tdiv 232792560 w
def inB (n a b : Int) : Bool := decide (n ≥ a) && decide (n ≤ b)
theorem inB_t {n a b : Int} : inB n a b = true ↔ a ≤ n ∧ n ≤ b := by simp [inB]
theorem inB_f {n a b : Int} : inB n a b = false ↔ ¬ (a ≤ n ∧ n ≤ b) := by rw [← inB_t]; simp
def vstep (n w : Int) : Int := if inB n 0 100000000 && inB w 1 20 then n * stp w else 0
def vunits (v w : Int) : Int := if inB v 1 300000000000000000 && inB w 1 20 then Int.tdiv (v + stp w - 1) (stp w) else 0
def lagMost (w : Int) : Int := vstep 149 w

/-! ### Plain laws -/
theorem stp_fin : ∀ k : Fin 20, stp ((k.val : Int) + 1) * ((k.val : Int) + 1) = 232792560 := by decide
theorem stp_mul {w : Int} (h1 : 1 ≤ w) (h2 : w ≤ 20) : stp w * w = 232792560 := by
  have := stp_fin ⟨(w - 1).toNat, by omega⟩
  have e : (((w - 1).toNat : Nat) : Int) + 1 = w := by omega
  simp only [e] at this
  exact this
theorem stp_lo {w : Int} (h1 : 1 ≤ w) (h2 : w ≤ 20) : 11639628 ≤ stp w ∧ stp w ≤ 232792560 := by
  have h := stp_mul h1 h2
  have hp : 0 ≤ stp w := by
    rcases Int.lt_or_le (stp w) 0 with hn | hn
    · have := Int.mul_neg_of_neg_of_pos hn (show 0 < w by omega)
      omega
    · exact hn
  constructor
  · have := Int.mul_le_mul_of_nonneg_left h2 hp
    omega
  · have := Int.mul_le_mul_of_nonneg_left h1 hp
    omega
theorem vstep_in {n w : Int} (h1 : 0 ≤ n) (h2 : n ≤ 100000000) (h3 : 1 ≤ w) (h4 : w ≤ 20) : vstep n w = n * stp w := by
  unfold vstep
  rw [if_pos]
  rw [Bool.and_eq_true, inB_t, inB_t]; exact ⟨⟨h1, h2⟩, h3, h4⟩
theorem vstep_out {n w : Int} (h : ¬ (0 ≤ n ∧ n ≤ 100000000 ∧ 1 ≤ w ∧ w ≤ 20)) : vstep n w = 0 := by
  unfold vstep
  rw [if_neg]
  rw [Bool.and_eq_true, inB_t, inB_t]; omega
theorem vunits_in {v w : Int} (h1 : 1 ≤ v) (h2 : v ≤ 300000000000000000) (h3 : 1 ≤ w) (h4 : w ≤ 20) : vunits v w = (v + stp w - 1) / stp w := by
  unfold vunits
  rw [if_pos]
  · have := stp_lo h3 h4
    exact Int.tdiv_eq_ediv_of_nonneg (by omega)
  · rw [Bool.and_eq_true, inB_t, inB_t]; exact ⟨⟨h1, h2⟩, h3, h4⟩
theorem vunits_out {v w : Int} (h : ¬ (1 ≤ v ∧ v ≤ 300000000000000000 ∧ 1 ≤ w ∧ w ≤ 20)) : vunits v w = 0 := by
  unfold vunits
  rw [if_neg]
  rw [Bool.and_eq_true, inB_t, inB_t]; omega
theorem mul_stp {n w : Int} (h1 : 0 ≤ n) (h2 : n ≤ 100000000) (h3 : 1 ≤ w) (h4 : w ≤ 20) : 0 ≤ n * stp w ∧ n * stp w ≤ 23279256000000000 := by
  have hs := stp_lo h3 h4
  refine ⟨Int.mul_nonneg h1 (by omega), ?_⟩
  calc n * stp w ≤ 100000000 * stp w := Int.mul_le_mul_of_nonneg_right h2 (by omega)
    _ ≤ 100000000 * 232792560 := Int.mul_le_mul_of_nonneg_left hs.2 (by decide)
    _ = 23279256000000000 := rfl
theorem vstep_range (n w : Int) : 0 ≤ vstep n w ∧ vstep n w ≤ 23279256000000000 := by
  by_cases h : 0 ≤ n ∧ n ≤ 100000000 ∧ 1 ≤ w ∧ w ≤ 20
  · rw [vstep_in h.1 h.2.1 h.2.2.1 h.2.2.2]; exact mul_stp h.1 h.2.1 h.2.2.1 h.2.2.2
  · rw [vstep_out h]; omega
/-- A stretch's units, when it is a whole number of steps and something. -/
theorem ceil_eq {n s v : Int} (hs : 0 < s) (h1 : (n - 1) * s < v) (h2 : v ≤ n * s) : (v + s - 1) / s = n := by
  have e : (n - 1) * s = n * s - s := by rw [Int.sub_mul, Int.one_mul]
  rw [show v + s - 1 = (v - (n - 1) * s - 1) + n * s by rw [e]; omega, Int.add_mul_ediv_right _ _ (by omega), Int.ediv_eq_zero_of_lt (by omega) (by rw [e] at *; omega), Int.zero_add]

/-! ### The program's functions -/
theorem k_impl_inRange {n a b : Int} {w : World} {bs : List Nat} : PureX bs Tryz.prog fn_impl_inRange #[.int .i64 n, .int .i64 a, .int .i64 b] w (.bool (inB n a b)) :=
  p_impl_inRange n a b fun wr hx => by unfold V_impl_inRange; rfl
theorem k_spec_l1In {n a b : Int} {w : World} {bs : List Nat} : PureX bs Tryz.prog fn_spec_l1In #[.int .i64 n, .int .i64 a, .int .i64 b] w (.bool (inB n a b)) :=
  p_spec_l1In n a b fun wr hx => by unfold V_spec_l1In; rfl
theorem k_impl_weightOk {n : Int} {w : World} {bs : List Nat} : PureX bs Tryz.prog fn_impl_weightOk #[.int .i64 n] w (.bool (inB n 1 20)) :=
  p_impl_weightOk n fun wr hx => ⟨_, k_impl_inRange, rfl⟩
theorem k_spec_l1Weight {n : Int} {w : World} {bs : List Nat} : PureX bs Tryz.prog fn_spec_l1Weight #[.int .i64 n] w (.bool (inB n 1 20)) :=
  p_spec_l1Weight n fun wr hx => ⟨_, k_spec_l1In, rfl⟩
theorem k_impl_niceOk {n : Int} {w : World} {bs : List Nat} : PureX bs Tryz.prog fn_impl_niceOk #[.int .i64 n] w (.bool (inB n (-10) 9)) :=
  p_impl_niceOk n fun wr hx => ⟨_, k_impl_inRange, rfl⟩

def wsC (k j : Nat) : Int := if j ≤ k then stp (j : Int) else 0
def wsT (k : Nat) : List Value := [.int .i64 ((k : Int) + 1), .int .i64 0, .int .i64 (wsC k 1), .int .i64 (wsC k 2), .int .i64 (wsC k 3), .int .i64 (wsC k 4), .int .i64 (wsC k 5), .int .i64 (wsC k 6), .int .i64 (wsC k 7),
  .int .i64 (wsC k 8), .int .i64 (wsC k 9), .int .i64 (wsC k 10), .int .i64 (wsC k 11), .int .i64 (wsC k 12), .int .i64 (wsC k 13), .int .i64 (wsC k 14), .int .i64 (wsC k 15), .int .i64 (wsC k 16), .int .i64 (wsC k 17), .int .i64 (wsC k 18), .int .i64 (wsC k 19), .int .i64 (wsC k 20)]
theorem k_impl_weightSteps {w : World} {bs : List Nat} : PureX bs Tryz.prog fn_impl_weightSteps #[] w (.agg #[.int .i64 0, .int .i64 (wsC 20 1), .int .i64 (wsC 20 2), .int .i64 (wsC 20 3), .int .i64 (wsC 20 4), .int .i64 (wsC 20 5), .int .i64 (wsC 20 6), .int .i64 (wsC 20 7),
  .int .i64 (wsC 20 8), .int .i64 (wsC 20 9), .int .i64 (wsC 20 10), .int .i64 (wsC 20 11), .int .i64 (wsC 20 12), .int .i64 (wsC 20 13), .int .i64 (wsC 20 14), .int .i64 (wsC 20 15), .int .i64 (wsC 20 16), .int .i64 (wsC 20 17), .int .i64 (wsC 20 18), .int .i64 (wsC 20 19), .int .i64 (wsC 20 20)]) :=
  p_impl_weightSteps fun wr hx => by
    intro _ _ _ _
    refine ⟨fun vs => ∃ k : Nat, k ≤ 20 ∧ vs = wsT k, fun vs => match vs with
      | .int _ i :: _ => (21 - i).toNat
      | _ => 0, ⟨0, by omega, rfl⟩, ?_⟩
    rintro i l l1 l2 l3 l4 l5 l6 l7 l8 l9 l10 l11 l12 l13 l14 l15 l16 l17 l18 l19 l20 ⟨k, hk, he⟩
    simp only [wsT, List.cons.injEq, Value.int.injEq, true_and, and_true] at he
    obtain ⟨rfl, rfl, rfl, rfl, rfl, rfl, rfl, rfl, rfl, rfl, rfl, rfl, rfl, rfl, rfl, rfl, rfl, rfl, rfl, rfl, rfl, rfl⟩ := he
    constructor
    · intro h
      have h := of_decide_eq_true h
      refine ⟨⟨by omega, ?_⟩, ⟨by omega, by omega⟩, by omega, ?_⟩
      · have := stp_lo (w := (k : Int) + 1) (by omega) (by omega)
        exact inR64 (by unfold stp at this; omega) (by unfold stp at this; omega)
      · refine ⟨_, _, _, _, _, _, _, _, _, _, _, _, _, _, _, _, _, _, _, _, _, ?_, inR64 (by omega) (by omega), ⟨k + 1, by omega, rfl⟩, ?_⟩
        · have : k = 0 ∨ k = 1 ∨ k = 2 ∨ k = 3 ∨ k = 4 ∨ k = 5 ∨ k = 6 ∨ k = 7 ∨ k = 8 ∨ k = 9 ∨ k = 10 ∨ k = 11 ∨ k = 12 ∨ k = 13 ∨ k = 14 ∨ k = 15 ∨ k = 16 ∨ k = 17 ∨ k = 18 ∨ k = 19 := by omega
          rcases this with rfl | rfl | rfl | rfl | rfl | rfl | rfl | rfl | rfl | rfl | rfl | rfl | rfl | rfl | rfl | rfl | rfl | rfl | rfl | rfl <;> rfl
        · show (21 - (((k : Int) + 1) + 1)).toNat < (21 - ((k : Int) + 1)).toNat
          omega
    · intro h
      have h := of_decide_eq_false h
      have hk : k = 20 := by omega
      subst hk
      rfl
theorem ws_get {k : Int} (h1 : 1 ≤ k) (h2 : k ≤ 20) : (#[.int .i64 0, .int .i64 (wsC 20 1), .int .i64 (wsC 20 2), .int .i64 (wsC 20 3), .int .i64 (wsC 20 4), .int .i64 (wsC 20 5), .int .i64 (wsC 20 6), .int .i64 (wsC 20 7),
  .int .i64 (wsC 20 8), .int .i64 (wsC 20 9), .int .i64 (wsC 20 10), .int .i64 (wsC 20 11), .int .i64 (wsC 20 12), .int .i64 (wsC 20 13), .int .i64 (wsC 20 14), .int .i64 (wsC 20 15), .int .i64 (wsC 20 16), .int .i64 (wsC 20 17), .int .i64 (wsC 20 18), .int .i64 (wsC 20 19), .int .i64 (wsC 20 20)] : Array Value)[Int.toNat k]? = some (.int .i64 (stp k)) := by
  have : k = 1 ∨ k = 2 ∨ k = 3 ∨ k = 4 ∨ k = 5 ∨ k = 6 ∨ k = 7 ∨ k = 8 ∨ k = 9 ∨ k = 10 ∨ k = 11 ∨ k = 12 ∨ k = 13 ∨ k = 14 ∨ k = 15 ∨ k = 16 ∨ k = 17 ∨ k = 18 ∨ k = 19 ∨ k = 20 := by omega
  rcases this with rfl | rfl | rfl | rfl | rfl | rfl | rfl | rfl | rfl | rfl | rfl | rfl | rfl | rfl | rfl | rfl | rfl | rfl | rfl | rfl <;> rfl
theorem k_impl_VirtualStep {n k : Int} {w : World} {bs : List Nat} : PureX bs Tryz.prog fn_impl_VirtualStep #[.int .i64 n, .int .i64 k] w (.int .i64 (vstep n k)) :=
  p_impl_VirtualStep n k fun wr hx => by
    refine ⟨_, k_impl_inRange, _, fun _ => k_impl_weightOk, fun h => ?_, fun h => ?_⟩
    · congr 1; unfold vstep; rw [if_neg]; intro h2; simp only [Bool.and_eq_true] at h2; simp [h2] at h
    · have h2 : inB n 0 100000000 = true ∧ inB k 1 20 = true := by simpa using h
      rw [inB_t, inB_t] at h2
      have hm := mul_stp h2.1.1 h2.1.2 h2.2.1 h2.2.2
      refine ⟨_, _, _, _, _, _, _, _, _, _, _, _, _, _, _, _, _, _, _, _, _, k_impl_weightSteps, stp k, ⟨by omega, by omega, ws_get h2.2.1 h2.2.2⟩, inR64 (by omega) (by omega), ?_⟩
      rw [vstep_in h2.1.1 h2.1.2 h2.2.1 h2.2.2]
theorem k_impl_LagMost {k : Int} {w : World} {bs : List Nat} : PureX bs Tryz.prog fn_impl_LagMost #[.int .i64 k] w (.int .i64 (lagMost k)) :=
  p_impl_LagMost k fun wr hx => ⟨_, k_impl_VirtualStep, rfl⟩
end Go.Proofs.YthojnihahmlboaaGreat
