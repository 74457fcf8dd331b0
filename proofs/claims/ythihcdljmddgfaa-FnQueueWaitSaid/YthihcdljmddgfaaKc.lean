/- Contracts, part c: the reader's draws of numbers and weights. -/
import Derived.Test.YthihcdljmddgfaaKb
import Derived.Test.YthihcdljmddgfaaOwn
namespace Go.Proofs.Ythihcdljmddgfaa
open Go.RowKit
set_option linter.unusedVariables false
set_option maxRecDepth 10000

theorem ExtX.kept {bs B : List Nat} {w w' : World} (h : ExtX bs w w') (hB : ∀ x ∈ B, x < w.heap.size ∧ x ∉ bs) : Kept B w w' := fun x hx => h.block x (hB x hx).1 (hB x hx).2
theorem kept_one {b x : Nat} {w w' : World} (h : ExtX [b] w w') (h1 : x < w.heap.size) (h2 : x ≠ b) : Kept [x] w w' := h.kept fun y hy => by
  rw [List.mem_singleton.1 hy]; exact ⟨h1, by simpa using h2⟩

theorem k_big {b : Nat} {c : Option Addr} {L N : Nat} {w : World} (h : Rdr b c L N w) (hN : N ≤ 900000000000) :
    Calls Try.prog fn_spec_l20Rd_big #[.pointer (some ⟨b, 0, none⟩)] w fun e w' => ∃ v, e = .returned (.int .i64 v) ∧ (0 ≤ v ∧ v < 72057594037927936) ∧ Rdr b c L (N + 7) w' ∧ ExtX [b] w w' := by
  refine (e_spec_l20Rd_big (some ⟨b, 0, none⟩) (R := fun v w' => ∃ x, v = .int .i64 x ∧ (0 ≤ x ∧ x < 72057594037927936) ∧ Rdr b c L (N + 7) w' ∧ ExtX [b] w w') ?_).mono fun e w' ⟨v, he, x, hv, h1, h2, h3⟩ => ⟨x, by rw [he, hv], h1, h2, h3⟩
  refine ⟨fun vs w' => ∃ (n : Int) (i : Nat), vs = [.int .i64 n, .int .i64 i] ∧ i ≤ 7 ∧ 0 ≤ n ∧ n < 256 ^ i ∧ Rdr b c L (N + i) w' ∧ ExtX [b] w w', fun vs _ => match vs with
    | [_, .int _ i] => (7 - i).toNat
    | _ => 0, fun wr hx _ => ⟨0, 0, rfl, by omega, by omega, by decide, h.ext0 hx, hx.of_nil⟩, ?_⟩
  rintro n i wv _ ⟨n', i', he, hi, hn0, hn1, hr, hx⟩
  simp only [List.cons.injEq, Value.int.injEq, true_and, and_true] at he
  obtain ⟨rfl, rfl⟩ := he
  have hp : (256 : Int) ^ i' ≤ 256 ^ 7 := by
    have h1 : (256 : Nat) ^ i' ≤ 256 ^ 7 := Nat.pow_le_pow_right (by decide) hi
    exact_mod_cast h1
  have hp7 : (256 : Int) ^ 7 = 72057594037927936 := by decide
  refine ⟨fun hlt => ?_, fun hge => ?_⟩
  · have hlt := of_decide_eq_true hlt
    have hp6 : (256 : Int) ^ i' ≤ 256 ^ 6 := by
      have h1 : (256 : Nat) ^ i' ≤ 256 ^ 6 := Nat.pow_le_pow_right (by decide) (by omega)
      exact_mod_cast h1
    have h6 : (256 : Int) ^ 6 = 281474976710656 := by decide
    refine ⟨inR64 (by omega) (by omega), fun wr1 hx1 _ => (k_pick (hr.ext0 hx1) (by omega)).mono fun e w2 ⟨v, he, hv, hr2, hx2⟩ => ⟨v, he, kept_nil, ?_⟩⟩
    have hv1 := hv.1
    have hv2 := hv.2.2 (by decide)
    refine ⟨inR64 (by omega) (by omega), inR64 (by omega) (by omega), fun wr2 hx3 _ => ⟨⟨n * 256 + v, i' + 1, rfl, by omega, by omega, ?_, by rw [← Nat.add_assoc]; exact hr2.ext0 hx3, (hx.trans hx1.of_nil).trans (hx2.trans hx3.of_nil)⟩, ?_⟩⟩
    · rw [Int.pow_succ]; omega
    · show (7 - ((i' : Int) + 1)).toNat < (7 - (i' : Int)).toNat
      omega
  · have hge := of_decide_eq_false hge
    have : i' = 7 := by omega
    subst this
    exact fun wr3 hx3 => ⟨n, rfl, ⟨hn0, by omega⟩, hr.ext0 hx3, hx.trans hx3.of_nil⟩

def WtV (v : Int) : Prop := -2 ≤ v ∧ v ≤ 21
theorem k_weight {b : Nat} {c : Option Addr} {L N : Nat} {w : World} (h : Rdr b c L N w) (hN : N ≤ 900000000000) :
    Calls Try.prog fn_spec_l20Rd_weight #[.pointer (some ⟨b, 0, none⟩)] w fun e w' => ∃ v, e = .returned (.int .i64 v) ∧ WtV v ∧ Rdr b c L (N + 2) w' ∧ ExtX [b] w w' := by
  refine (e_spec_l20Rd_weight (some ⟨b, 0, none⟩) (R := fun v w' => ∃ x, v = .int .i64 x ∧ WtV x ∧ Rdr b c L (N + 2) w' ∧ ExtX [b] w w') ?_).mono fun e w' ⟨v, he, x, hv, h1, h2, h3⟩ => ⟨x, by rw [he, hv], h1, h2, h3⟩
  refine fun wr hx _ => (k_pick (h.ext0 hx) (by omega)).mono fun e w1 ⟨v, he, hv, hr1, hx1⟩ => ⟨v, he, kept_nil, fun _ => ?_, fun _ b1 hb1 wr3 hx3 hsz => ?_⟩
  · refine fun wr1 hy _ => (k_pick (hr1.ext0 hy) (by omega)).mono fun e w2 ⟨u, he, hu, hr2, hx2⟩ => ⟨u, he, kept_nil, ?_⟩
    have hu1 := hu.1
    have hu2 := hu.2.2 (by decide)
    exact ⟨inR64 (by omega) (by omega), fun wr2 hz => ⟨_, rfl, ⟨by omega, by omega⟩, hr2.ext0 hz, (hx.of_nil.trans hx1).trans (hy.of_nil.trans (hx2.trans hz.of_nil))⟩⟩
  · refine (k_pick (hr1.ext0 hx3) (by omega)).mono fun e w2 ⟨u, he, hu, hr2, hx2⟩ => ⟨u, he, kept_one hx2 (hsz b1 (by simp)) (by have := hr1.lt; omega), ?_⟩
    have hu1 := hu.1
    have hu2 := hu.2.2 (by decide)
    have fin : ∀ (x : Int), WtV x → ∀ wr4, ExtX [b1] w2 wr4 → ∃ x', Value.int .i64 x = .int .i64 x' ∧ WtV x' ∧ Rdr b c L (N + 2) wr4 ∧ ExtX [b] w wr4 := fun x hxv wr4 hz =>
      ⟨x, rfl, hxv, hr1.extN hr2 hz (by simpa using hb1), (hx.of_nil.trans hx1).trans ((hx3.of_nil.trans hx2)) |>.fresh hz (fun y hy => by
        rw [List.mem_singleton.1 hy]
        have h1 := hx.size; have h2 := hx1.size
        exact .inl (by omega))⟩
    have : u = 0 ∨ u = 1 ∨ u = 2 ∨ u = 3 ∨ u = 4 ∨ u = 5 ∨ u = 6 ∨ u = 7 ∨ u = 8 ∨ u = 9 := by omega
    refine ⟨⟨hu1, hu2⟩, ?_⟩
    rcases this with rfl | rfl | rfl | rfl | rfl | rfl | rfl | rfl | rfl | rfl <;> exact ⟨_, ⟨by decide, rfl⟩, fin _ ⟨by decide, by decide⟩⟩

/-! ### The draws -/
/-- The bytes of a slice can be read. -/
def Bytes (c : Option Addr) (L : Nat) (w : World) : Prop := ∀ i < L, ∃ (a : Addr) (x : Int), c = some a ∧ 0 ≤ x ∧ x ≤ 255 ∧ w.cell? (a.add i) = some (.int .u8 x)
theorem Bytes.ext {c : Option Addr} {L : Nat} {w w' : World} (h : Bytes c L w) (hx : ExtX [] w w') : Bytes c L w' := fun i hi => by
  obtain ⟨a, x, ha, h1, h2, h3⟩ := h i hi
  obtain ⟨a', e, _, h''⟩ := (show CellX [] w c i (.int .u8 x) from ⟨a, ha, by simp, h3⟩).ext hx
  rw [ha] at e; cases e; exact ⟨a, x, ha, h1, h2, h''⟩
theorem k_l20Open {c : Option Addr} {L C : Nat} {w : World} (h : Bytes c L w) (hC : L ≤ C) :
    Calls Try.prog fn_spec_l20Open #[.slice c L C] w fun e w' => ∃ b c' L', e = .returned (.pointer (some ⟨b, 0, none⟩)) ∧ w.heap.size ≤ b ∧ Rdr b c' L' 0 w' ∧ ExtX [] w w' := by
  refine (e_spec_l20Open c L C (R := fun v w' => ∃ b c' L', v = .pointer (some ⟨b, 0, none⟩) ∧ w.heap.size ≤ b ∧ Rdr b c' L' 0 w' ∧ ExtX [] w w') ?_).mono fun e w' ⟨v, he, b, c', L', hv, h1, h2, h3⟩ => ⟨b, c', L', by rw [he, hv], h1, h2, h3⟩
  refine ⟨fun hlt => ⟨⟨by omega, by omega, by have := of_decide_eq_true hlt; omega⟩, fun b wb hx hb hh _ wr hy => ⟨b, if C = Int.toNat 0 then c else c.map (·.add (Int.toNat 0 * 1)), Int.toNat 2000 - Int.toNat 0, rfl, hb, ?_, hx.trans hy⟩⟩, fun hlt b wb hx hb hh _ wr hy => ⟨b, c, L, rfl, hb, ?_, hx.trans hy⟩⟩
  · refine Rdr.ext0 ⟨⟨_, 0, hh, by omega, by omega⟩, fun i hi => ?_⟩ hy
    have hlt := of_decide_eq_true hlt
    obtain ⟨a, x, ha, h1, h2, h3⟩ := h.ext hx i (by have : i < 2000 - 0 := hi; omega)
    obtain ⟨a0, x0, ha0, _, _, h30⟩ := h i (by have : i < 2000 - 0 := hi; omega)
    have hlt2 := World.block_lt_of_cell? w _ h30
    rw [add_block] at hlt2
    rw [ha] at ha0; cases ha0
    rw [if_neg (show ¬ C = Int.toNat 0 from fun e => by have : C = 0 := e; omega), ha]
    refine ⟨a.add 0, x, rfl, by rw [add_block]; omega, h1, h2, ?_⟩
    rw [add_add', Nat.zero_add]; exact h3
  · refine Rdr.ext0 ⟨⟨_, 0, hh, by omega, by omega⟩, fun i hi => ?_⟩ hy
    obtain ⟨a, x, ha, h1, h2, h3⟩ := h.ext hx i hi
    obtain ⟨a0, x0, ha0, _, _, h30⟩ := h i hi
    have hlt2 := World.block_lt_of_cell? w _ h30
    rw [add_block] at hlt2
    rw [ha] at ha0; cases ha0
    exact ⟨a, x, ha, by omega, h1, h2, h3⟩
end Go.Proofs.Ythihcdljmddgfaa
