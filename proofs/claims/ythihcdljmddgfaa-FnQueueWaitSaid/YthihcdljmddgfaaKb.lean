/- Contracts, part b: the reference's numbers; the reader that draws. -/
import Derived.Test.YthihcdljmddgfaaKa
import Derived.Test.YthihcdljmddgfaaLib
namespace Go.Proofs.Ythihcdljmddgfaa
open Go.RowKit
set_option linter.unusedVariables false
set_option maxRecDepth 10000

theorem k_spec_VirtualStep {n k : Int} {w : World} {bs : List Nat} : PureX bs Try.prog fn_spec_VirtualStep #[.int .i64 n, .int .i64 k] w (.int .i64 (vstep n k)) :=
  p_spec_VirtualStep n k fun wr hx => by
    refine ⟨_, k_spec_l1Weight, _, fun _ => k_spec_l1In, fun h => ?_, fun h => ?_⟩
    · congr 1; unfold vstep; rw [if_neg]; intro h2; simp only [Bool.and_eq_true] at h2; simp [h2] at h
    · have h2 : inB k 1 20 = true ∧ inB n 0 100000000 = true := by simpa using h
      rw [inB_t, inB_t] at h2
      have hm := mul_stp h2.2.1 h2.2.2 h2.1.1 h2.1.2
      have hs := stp_lo h2.1.1 h2.1.2
      unfold stp at hm hs
      refine ⟨⟨by omega, inR64 (by omega) (by omega)⟩, inR64 (by omega) (by omega), ?_⟩
      rw [vstep_in h2.2.1 h2.2.2 h2.1.1 h2.1.2]; rfl
theorem k_spec_LagMost {k : Int} {w : World} {bs : List Nat} : PureX bs Try.prog fn_spec_LagMost #[.int .i64 k] w (.int .i64 (lagMost k)) :=
  p_spec_LagMost k fun wr hx => ⟨_, k_spec_VirtualStep, rfl⟩
def minI (a b : Int) : Int := if a < b then a else b
def maxI (a b : Int) : Int := if a > b then a else b
theorem k_spec_l1Min {a b : Int} {w : World} {bs : List Nat} : PureX bs Try.prog fn_spec_l1Min #[.int .i64 a, .int .i64 b] w (.int .i64 (minI a b)) :=
  p_spec_l1Min a b fun wr hx => ⟨fun h => by rw [minI, if_pos (of_decide_eq_true h)], fun h => by rw [minI, if_neg (of_decide_eq_false h)]⟩
theorem k_spec_l1Max {a b : Int} {w : World} {bs : List Nat} : PureX bs Try.prog fn_spec_l1Max #[.int .i64 a, .int .i64 b] w (.int .i64 (maxI a b)) :=
  p_spec_l1Max a b fun wr hx => ⟨fun h => by rw [maxI, if_pos (of_decide_eq_true h)], fun h => by rw [maxI, if_neg (of_decide_eq_false h)]⟩
def lagCut (l k : Int) : Int := if (if lagMost k < l then lagMost k else l) > 0 then (if lagMost k < l then lagMost k else l) else 0
theorem lagMost_range (k : Int) : 0 ≤ lagMost k ∧ lagMost k ≤ 34686091440 := by
  unfold lagMost
  by_cases h : 1 ≤ k ∧ k ≤ 20
  · rw [vstep_in (by decide) (by decide) h.1 h.2]
    have := stp_lo h.1 h.2
    omega
  · rw [vstep_out (by omega)]; omega
theorem lagCut_range (l k : Int) : 0 ≤ lagCut l k ∧ lagCut l k ≤ lagMost k := by
  have := lagMost_range k
  unfold lagCut; by_cases h1 : lagMost k < l <;> simp only [h1, if_true, if_false] <;> split <;> omega
theorem k_impl_LagCut {l k : Int} {w : World} {bs : List Nat} : PureX bs Try.prog fn_impl_LagCut #[.int .i64 l, .int .i64 k] w (.int .i64 (lagCut l k)) :=
  p_impl_LagCut l k fun wr hx => ⟨_, k_impl_LagMost, rfl⟩
theorem k_spec_LagCut {l k : Int} {w : World} {bs : List Nat} : PureX bs Try.prog fn_spec_LagCut #[.int .i64 l, .int .i64 k] w (.int .i64 (lagCut l k)) :=
  p_spec_LagCut l k fun wr hx => by
    have hr := lagMost_range k
    refine ⟨_, k_spec_l1Weight, fun h => ?_, fun h => ⟨_, k_spec_l1Max, _, k_spec_LagMost, _, k_spec_l1Min, ?_⟩⟩
    · have h : inB k 1 20 = false := by simpa using h
      rw [inB_f] at h
      have h0 : lagMost k = 0 := vstep_out (by omega)
      congr 1; unfold lagCut; rw [h0]; by_cases h1 : 0 < l <;> simp only [h1, if_true, if_false] <;> (repeat' split) <;> omega
    · congr 1; unfold lagCut minI maxI; by_cases h1 : lagMost k < l <;> simp only [h1, if_true, if_false] <;> by_cases h2 : l > 0 <;> simp only [h2, if_true, if_false] <;> (repeat' split) <;> omega
def weightOf (n : Int) : Int := if inB n (-10) 9 then 10 - n else 0
/-! ### The reader -/
/-- A reader in block b over L bytes; it has drawn at most N times. -/
structure Rdr (b : Nat) (c : Option Addr) (L N : Nat) (w : World) : Prop where
  hd : ∃ (C : Nat) (p : Int), w.heap[b]? = some (.cells [.slice c L C, .int .i64 p].toArray ty_spec_l20Rd (0, 0)) ∧ 0 ≤ p ∧ p ≤ N
  bytes : ∀ i < L, ∃ (a : Addr) (x : Int), c = some a ∧ a.block ≠ b ∧ 0 ≤ x ∧ x ≤ 255 ∧ w.cell? (a.add i) = some (.int .u8 x)
theorem Rdr.ext {b : Nat} {c : Option Addr} {L N : Nat} {w w' : World} {bs : List Nat} (h : Rdr b c L N w) (hx : ExtX bs w w') (hb : b ∉ bs) (hc : ∀ a, c = some a → a.block ∉ bs ∨ L = 0) : Rdr b c L N w' := by
  obtain ⟨⟨C, p, h1, h2, h3⟩, hby⟩ := h
  refine ⟨⟨C, p, blk_ext h1 hx hb, h2, h3⟩, fun i hi => ?_⟩
  obtain ⟨a, x, ha, hne, hx1, hx2, hx3⟩ := hby i hi
  refine ⟨a, x, ha, hne, hx1, hx2, ?_⟩
  have hbk : a.block ∉ bs := by
    rcases hc a ha with h | h
    · exact h
    · omega
  obtain ⟨a', e, _, h''⟩ := (show CellX bs w c i (.int .u8 x) from ⟨a, ha, hbk, hx3⟩).ext hx
  rw [ha] at e; cases e; exact h''
theorem Rdr.ext0 {b : Nat} {c : Option Addr} {L N : Nat} {w w' : World} (h : Rdr b c L N w) (hx : ExtX [] w w') : Rdr b c L N w' := h.ext hx (by simp) (fun _ _ => .inl (by simp))
theorem Rdr.mono {b : Nat} {c : Option Addr} {L N M : Nat} {w : World} (h : Rdr b c L N w) (hm : N ≤ M) : Rdr b c L M w := by
  obtain ⟨⟨C, p, h1, h2, h3⟩, hby⟩ := h
  exact ⟨⟨C, p, h1, h2, by omega⟩, hby⟩
theorem Rdr.lt {b : Nat} {c : Option Addr} {L N : Nat} {w : World} (h : Rdr b c L N w) : b < w.heap.size := by
  obtain ⟨⟨C, p, h1, h2, h3⟩, hby⟩ := h
  exact blk_lt h1
theorem Rdr.ltc {b : Nat} {c : Option Addr} {L N : Nat} {w : World} (h : Rdr b c L N w) (a : Addr) (ha : c = some a) : a.block < w.heap.size ∨ L = 0 := by
  rcases Nat.eq_zero_or_pos L with h0 | h0
  · exact .inr h0
  · obtain ⟨a', x, ha', hne, hx1, hx2, hx3⟩ := h.bytes 0 h0
    rw [ha] at ha'; cases ha'
    have := World.block_lt_of_cell? w _ hx3
    rw [add_block] at this
    exact .inl this
/-- Blocks that are newer than a state of the reader do not touch it. -/
theorem Rdr.extN {b : Nat} {c : Option Addr} {L N M : Nat} {w0 w w' : World} {bs : List Nat} (h0 : Rdr b c L M w0) (h : Rdr b c L N w) (hx : ExtX bs w w') (hb : ∀ x ∈ bs, w0.heap.size ≤ x) : Rdr b c L N w' :=
  h.ext hx (fun hm => by have := hb _ hm; have := h0.lt; omega) fun a ha => by
    rcases h0.ltc a ha with hl | hl
    · exact .inl fun hm => by have := hb _ hm; omega
    · exact .inr hl
def PickV (n v : Int) : Prop := 0 ≤ v ∧ (n < 1 → v = 0) ∧ (1 ≤ n → v < n)
theorem pickV_mod {x n : Int} (hx : 0 ≤ x) (hn : 1 ≤ n) : PickV n (Int.tmod x n) := by
  refine ⟨Int.tmod_nonneg _ hx, by omega, fun _ => Int.tmod_lt_of_pos _ (by omega)⟩
theorem xor_nonneg {x y : Int} (h1 : 0 ≤ x) (h2 : x ≤ 9223372036854775807) (h3 : 0 ≤ y) (h4 : y ≤ 9223372036854775807) : 0 ≤ BitI .xor .i64 x y := by
  have hlt : (BitVec.ofInt 64 x ^^^ BitVec.ofInt 64 y).toNat < 2 ^ 63 := by
    rw [BitVec.toNat_xor]
    refine Nat.xor_lt_two_pow ?_ ?_
    · rw [BitVec.toNat_ofInt]; omega
    · rw [BitVec.toNat_ofInt]; omega
  have h := InR.wrap (k := .i64) (z := ((BitVec.ofInt 64 x ^^^ BitVec.ofInt 64 y).toNat : Int)) (inR64 (by omega) (by omega))
  show 0 ≤ IntKind.i64.wrap ((BitVec.ofInt 64 x ^^^ BitVec.ofInt 64 y).toNat : Int)
  rw [h]; omega
theorem k_pick {b : Nat} {c : Option Addr} {L N : Nat} {w : World} {n : Int} (h : Rdr b c L N w) (hN : N ≤ 1000000000000) :
    Calls Try.prog fn_spec_l20Rd_pick #[.pointer (some ⟨b, 0, none⟩), .int .i64 n] w fun e w' => ∃ v, e = .returned (.int .i64 v) ∧ PickV n v ∧ Rdr b c L (N + 1) w' ∧ ExtX [b] w w' := by
  refine (e_spec_l20Rd_pick (some ⟨b, 0, none⟩) n (R := fun v w' => ∃ x, v = .int .i64 x ∧ PickV n x ∧ Rdr b c L (N + 1) w' ∧ ExtX [b] w w') ?_).mono fun e w' ⟨v, he, x, hv, h1, h2, h3⟩ => ⟨x, by rw [he, hv], h1, h2, h3⟩
  obtain ⟨C, p, hh, hp0, hpN⟩ := h.hd
  have hs := sto_blk (k := 0) (n := 1) (vs := [.int .i64 (p + 1)]) hh
  have hxt : ExtX [b] w (sto w (some ⟨b, 0, none⟩) 1 [.int .i64 (p + 1)]) := sto_ext fun a ha => by cases ha; exact List.mem_singleton.2 rfl
  generalize hw1 : sto w (some ⟨b, 0, none⟩) 1 [.int .i64 (p + 1)] = w1 at hs hxt
  have hs : w1.heap[b]? = some (.cells [.slice c L C, .int .i64 (p + 1)].toArray ty_spec_l20Rd (0, 0)) := hs
  have hc : CellsX [] w1 (some ⟨b, 0, none⟩) (0 + 0) [.slice c L C] := cellX_blk hs (by simp) rfl
  have hpp : CellsX [] w1 (some ⟨b, 0, none⟩) (0 + 1) [.int .i64 (p + 1)] := cellX_blk hs (by simp) rfl
  have hby : ∀ i : Int, 0 ≤ i → i < L → ∃ x : Int, 0 ≤ x ∧ x ≤ 255 ∧ c.isSome = true ∧ CellsX [] w1 c (Int.toNat i * 1) [.int .u8 x] := fun i h0 hi => by
    obtain ⟨a, x, ha, hne, hx1, hx2, hx3⟩ := h.bytes i.toNat (by omega)
    refine ⟨x, hx1, hx2, by rw [ha]; rfl, ?_⟩
    have := (show CellX [b] w c i.toNat (.int .u8 x) from ⟨a, ha, by simpa using hne, hx3⟩).ext hxt
    rw [Nat.mul_one]
    exact cellsX_one (this.less (by simp))
  have fin : ∀ (v : Int), PickV n v → ∀ wr, ExtX [] w1 wr → ∃ x, Value.int .i64 v = .int .i64 x ∧ PickV n x ∧ Rdr b c L (N + 1) wr ∧ ExtX [b] w wr := fun v hv wr hr =>
    ⟨v, rfl, hv, Rdr.ext0 ⟨⟨C, p + 1, hs, by omega, by omega⟩, fun i hi => by
      obtain ⟨a, x, ha, hne, hx1, hx2, hx3⟩ := h.bytes i hi
      have := (show CellX [b] w c i (.int .u8 x) from ⟨a, ha, by simpa using hne, hx3⟩).ext hxt
      obtain ⟨a', ha', _, hc'⟩ := this
      rw [ha] at ha'; cases ha'
      exact ⟨a, x, ha, hne, hx1, hx2, hc'⟩⟩ hr, hxt.trans hr.of_nil⟩
  refine ⟨rfl, p, cellX_blk hh (by simp) rfl, inR64 (by omega) (by omega), rfl, wrX_blk hh (by simp) (by simp), ?_⟩
  rw [show (0 + 1 : Nat) = 1 from rfl, hw1]
  refine ⟨fun _ => rfl, c, L, C, fun _ => hc, fun h => ?_, fun h => ?_⟩
  · simp only [Bool.or_eq_true, decide_eq_true_eq, beq_iff_eq] at h
    refine fin 0 ⟨by omega, by omega, fun hn => by omega⟩
  · have h : 1 ≤ n ∧ L ≠ 0 := by simpa using h
    refine ⟨rfl, p + 1, hpp, inR64 (by omega) (by omega), rfl, c, L, C, hc, fun hlt => ?_, fun hlt => ?_⟩
    · have hlt := of_decide_eq_true hlt
      obtain ⟨x, hx1, hx2, hx3, hx4⟩ := hby (p + 1 - 1) (by omega) hlt
      exact ⟨rfl, c, L, C, hc, ⟨by omega, hlt, hx3⟩, x, hx4, inR64 (by omega) (by omega), by omega, fin _ (pickV_mod hx1 h.1)⟩
    · have hLp : (0 : Int) < (L : Int) := by omega
      have hm1 := Int.tmod_nonneg (L : Int) (show 0 ≤ p + 1 - 1 by omega)
      have hm2 := Int.tmod_lt_of_pos (p + 1 - 1) hLp
      have hm3 := Int.tmod_nonneg (L : Int) (show 0 ≤ (p + 1 - 1) * 7 + 3 by omega)
      have hm4 := Int.tmod_lt_of_pos ((p + 1 - 1) * 7 + 3) hLp
      have hd1 : 0 ≤ Int.tdiv (p + 1 - 1) (L : Int) := Int.tdiv_nonneg (by omega) (by omega)
      have hd2 : Int.tdiv (p + 1 - 1) (L : Int) ≤ p + 1 - 1 := by
        rw [Int.tdiv_eq_ediv_of_nonneg (by omega)]; exact Int.ediv_le_self _ (by omega)
      obtain ⟨x1, hx1, hx2, hx3, hx4⟩ := hby _ hm1 hm2
      obtain ⟨x2, hy1, hy2, hy3, hy4⟩ := hby _ hm3 hm4
      have hX0 : 0 ≤ (x1 * 131 + x2 * 1117 + (p + 1 - 1) * 29) + Int.tdiv (p + 1 - 1) (L : Int) * 53 := by omega
      have hX1 : (x1 * 131 + x2 * 1117 + (p + 1 - 1) * 29) + Int.tdiv (p + 1 - 1) (L : Int) * 53 ≤ 1000000000000000 := by omega
      have hq0 := Int.tdiv_nonneg hX0 (show (0 : Int) ≤ 64 by decide)
      have hq1 : Int.tdiv ((x1 * 131 + x2 * 1117 + (p + 1 - 1) * 29) + Int.tdiv (p + 1 - 1) (L : Int) * 53) 64 ≤ (x1 * 131 + x2 * 1117 + (p + 1 - 1) * 29) + Int.tdiv (p + 1 - 1) (L : Int) * 53 := by
        rw [Int.tdiv_eq_ediv_of_nonneg hX0]; exact Int.ediv_le_self _ hX0
      refine ⟨rfl, c, L, C, hc, rfl, c, L, C, hc, by omega, ⟨hm1, hm2, hx3⟩, x1, hx4, inR64 (by omega) (by omega), inR64 (by omega) (by omega), rfl, c, L, C, hc, inR64 (by omega) (by omega), inR64 (by omega) (by omega), rfl, c, L, C, hc, by omega, ⟨hm3, hm4, hy3⟩, x2, hy4,
        inR64 (by omega) (by omega), inR64 (by omega) (by omega), inR64 (by omega) (by omega), inR64 (by omega) (by omega), inR64 (by omega) (by omega), rfl, c, L, C, hc, ⟨by omega, inR64 (by omega) (by omega)⟩, inR64 (by omega) (by omega), inR64 (by omega) (by omega), ⟨by decide, inR64 (by omega) (by omega)⟩, by omega, ?_⟩
      exact fin _ (pickV_mod (xor_nonneg hX0 (by omega) hq0 (by omega)) h.1)
end Go.Proofs.Ythihcdljmddgfaa
