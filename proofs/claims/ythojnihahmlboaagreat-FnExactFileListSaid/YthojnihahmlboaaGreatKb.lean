/- Contracts, part b: the reference's numbers; the reader that draws. -/
import Derived.Test.YthojnihahmlboaaGreatKa
import Derived.Test.YthojnihahmlboaaGreatLib
namespace Go.Proofs.YthojnihahmlboaaGreat
open Go.RowKit
set_option linter.unusedVariables false
set_option linter.unusedSimpArgs false
set_option maxRecDepth 10000

theorem k_spec_VirtualStep {n k : Int} {w : World} {bs : List Nat} : PureX bs Tryz.prog fn_spec_VirtualStep #[.int .i64 n, .int .i64 k] w (.int .i64 (vstep n k)) :=
  p_spec_VirtualStep n k fun wr hx => by
    refine ⟨_, k_spec_l1Weight, _, fun _ => k_spec_l1In, fun h => ?_, fun h => ?_⟩
    · congr 1; unfold vstep; rw [if_neg]; intro h2; simp only [Bool.and_eq_true] at h2; simp [h2] at h
    · have h2 : inB k 1 20 = true ∧ inB n 0 100000000 = true := by simpa using h
      rw [inB_t, inB_t] at h2
      have hm := mul_stp h2.2.1 h2.2.2 h2.1.1 h2.1.2
      have hs := stp_lo h2.1.1 h2.1.2
      unfold stp at hm hs
      refine ⟨⟨by omega, inR64 (by omega) (by omega)⟩, inR64 (by omega) (by omega), ?_⟩
      rw [vstep_in h2.2.1 h2.2.2 h2.1.1 h2.1.2]; rfl
theorem k_spec_LagMost {k : Int} {w : World} {bs : List Nat} : PureX bs Tryz.prog fn_spec_LagMost #[.int .i64 k] w (.int .i64 (lagMost k)) :=
  p_spec_LagMost k fun wr hx => ⟨_, k_spec_VirtualStep, rfl⟩
def minI (a b : Int) : Int := if a < b then a else b
def maxI (a b : Int) : Int := if a > b then a else b
theorem k_spec_l1Max {a b : Int} {w : World} {bs : List Nat} : PureX bs Tryz.prog fn_spec_l1Max #[.int .i64 a, .int .i64 b] w (.int .i64 (maxI a b)) :=
  p_spec_l1Max a b fun wr hx => ⟨fun h => by rw [maxI, if_pos (of_decide_eq_true h)], fun h => by rw [maxI, if_neg (of_decide_eq_false h)]⟩
def lagCut (l k : Int) : Int := if (if lagMost k < l then lagMost k else l) > 0 then (if lagMost k < l then lagMost k else l) else 0
theorem lagMost_range (k : Int) : 0 ≤ lagMost k ∧ lagMost k ≤ 34686091440 := by
  unfold lagMost
  by_cases h : 1 ≤ k ∧ k ≤ 20
  · rw [vstep_in (by decide) (by decide) h.1 h.2]
    have := stp_lo h.1 h.2
    omega
  · rw [vstep_out (by omega)]; omega
theorem lagCut_range (l k : Int) : 0 ≤ lagCut l k ∧ lagCut l k ≤ lagMost k := by
  have := lagMost_range k
  unfold lagCut; by_cases h1 : lagMost k < l <;> simp only [h1, if_true, if_false] <;> split <;> omega
def weightOf (n : Int) : Int := if inB n (-10) 9 then 10 - n else 0
theorem k_impl_WeightOf {k : Int} {w : World} {bs : List Nat} : PureX bs Tryz.prog fn_impl_WeightOf #[.int .i64 k] w (.int .i64 (weightOf k)) :=
  p_impl_WeightOf k fun wr hx => by
    refine ⟨_, k_impl_niceOk, fun h => ?_, fun h => ?_⟩
    · have h : inB k (-10) 9 = false := by simpa using h
      rw [weightOf, h]; rfl
    · have h : inB k (-10) 9 = true := by simpa using h
      have h2 := inB_t.1 h
      refine ⟨inR64 (by omega) (by omega), ?_⟩
      rw [weightOf, h]; rfl

/-! ### The reader -/
def PickV (n v : Int) : Prop := 0 ≤ v ∧ (n < 1 → v = 0) ∧ (1 ≤ n → v < n)
theorem pickV_mod {x n : Int} (hx : 0 ≤ x) (hn : 1 ≤ n) : PickV n (Int.tmod x n) := by
  refine ⟨Int.tmod_nonneg _ hx, by omega, fun _ => Int.tmod_lt_of_pos _ (by omega)⟩
theorem xor_nonneg {x y : Int} (h1 : 0 ≤ x) (h2 : x ≤ 9223372036854775807) (h3 : 0 ≤ y) (h4 : y ≤ 9223372036854775807) : 0 ≤ BitI .xor .i64 x y := by
  have hlt : (BitVec.ofInt 64 x ^^^ BitVec.ofInt 64 y).toNat < 2 ^ 63 := by
    rw [BitVec.toNat_xor]
    refine Nat.xor_lt_two_pow ?_ ?_
    · rw [BitVec.toNat_ofInt]; omega
    · rw [BitVec.toNat_ofInt]; omega
  have h := InR.wrap (k := .i64) (z := ((BitVec.ofInt 64 x ^^^ BitVec.ofInt 64 y).toNat : Int)) (inR64 (by omega) (by omega))
  show 0 ≤ IntKind.i64.wrap ((BitVec.ofInt 64 x ^^^ BitVec.ofInt 64 y).toNat : Int)
  rw [h]; omega
end Go.Proofs.YthojnihahmlboaaGreat
