/- The reader in a walk; what it draws of deeds. -/
import Derived.Test.YthihcdljmddgfaaQueL
import Derived.Test.YthihcdljmddgfaaKc
namespace Go.Proofs.Ythihcdljmddgfaa
open Go.RowKit
set_option linter.unusedVariables false
set_option maxRecDepth 10000

/-- The reader, and blocks that are none of its. -/
structure RS (rb : Nat) (c : Option Addr) (L N : Nat) (bs : List Nat) (w : World) : Prop where
  rd : Rdr rb c L N w
  nb : rb ∉ bs
  oc : ∀ a, c = some a → a.block ∉ bs ∨ L = 0
section
variable {rb : Nat} {c : Option Addr} {L N : Nat} {bs cs : List Nat} {w w' : World} {b : Nat}
theorem RS.step (h : RS rb c L N bs w) (hx : ExtX bs w w') : RS rb c L N bs w' := ⟨h.rd.ext hx h.nb h.oc, h.nb, h.oc⟩
theorem RS.call0 (h : RS rb c L N bs w) (hx : ExtX [] w w') : RS rb c L N bs w' := ⟨h.rd.ext0 hx, h.nb, h.oc⟩
theorem RS.call (h : RS rb c L N bs w) (hx : ExtX cs w w') (h1 : rb ∉ cs) (h2 : ∀ a, c = some a → a.block ∉ cs ∨ L = 0) : RS rb c L N bs w' := ⟨h.rd.ext hx h1 h2, h.nb, h.oc⟩
theorem RS.add (h : RS rb c L N bs w) (hb : w.heap.size ≤ b) : RS rb c L N (bs ++ [b]) w := ⟨h.rd, fun hm => by
  rcases List.mem_append.1 hm with hm | hm
  · exact h.nb hm
  · have : rb = b := by simpa using hm
    have := h.rd.lt
    omega, fun a ha => by
  rcases h.oc a ha with h1 | h1
  · rcases h.rd.ltc a ha with h2 | h2
    · refine .inl fun hm => ?_
      rcases List.mem_append.1 hm with hm | hm
      · exact h1 hm
      · have : a.block = b := by simpa using hm
        omega
    · exact .inr h2
  · exact .inr h1⟩
theorem RS.put (h : RS rb c L N bs w) (hx : ExtX bs w w') (hb : w.heap.size ≤ b) : RS rb c L N (bs ++ [b]) w' := ⟨(h.step hx).rd, (h.add hb).nb, (h.add hb).oc⟩
theorem RS.sub (h : RS rb c L N bs w) (hs : ∀ x ∈ cs, x ∈ bs) : RS rb c L N cs w := ⟨h.rd, fun hm => h.nb (hs _ hm), fun a ha => by
  rcases h.oc a ha with h1 | h1
  · exact .inl fun hm => h1 (hs _ hm)
  · exact .inr h1⟩
theorem RS.upd {M : Nat} (h : RS rb c L N bs w) (k : Rdr rb c L M w') : RS rb c L M bs w' := ⟨k, h.nb, h.oc⟩
theorem RS.mono {M : Nat} (h : RS rb c L N bs w) (hm : N ≤ M) : RS rb c L M bs w := ⟨h.rd.mono hm, h.nb, h.oc⟩
theorem Sc.stepB {w0 : World} (h : Sc w0 (rb :: bs) w) (hx : ExtX bs w w') : Sc w0 (rb :: bs) w' := h.step (hx.mono fun _ hm => List.mem_cons_of_mem _ hm)
theorem Sc.stepR {w0 : World} (h : Sc w0 (rb :: bs) w) (hx : ExtX [rb] w w') : Sc w0 (rb :: bs) w' := h.step (hx.mono fun x hm => by
  have : x = rb := by simpa using hm
  subst this; simp)
theorem Sc.putB {w0 : World} (h : Sc w0 (rb :: bs) w) (hx : ExtX bs w w') (hb : w.heap.size ≤ b) : Sc w0 (rb :: (bs ++ [b])) w' := h.put (hx.mono fun _ hm => List.mem_cons_of_mem _ hm) hb
theorem kept_R (h : RS rb c L N bs w) (hx : ExtX [rb] w w') (hs : ∀ x ∈ bs, x < w.heap.size) : Kept bs w w' := kept_sep hx hs fun x hm hm' => by
  have : x = rb := by simpa using hm
  subst this; exact h.nb hm'
end
section
variable {α : Type} {enc : α → List Value} {z : Nat} {ty : TypeId} {base rb : Nat} {bs : List Nat} {w w' : World} {o : Option Addr} {cap : Nat} {l : List α} {b : Nat}
theorem Ob.stepB (h : Ob enc z ty base (rb :: bs) w o cap l) (hx : ExtX bs w w') : Ob enc z ty base (rb :: bs) w' o cap l := h.step (hx.mono fun _ hm => List.mem_cons_of_mem _ hm)
theorem Ob.stepR (h : Ob enc z ty base (rb :: bs) w o cap l) (hx : ExtX [rb] w w') : Ob enc z ty base (rb :: bs) w' o cap l := h.step (hx.mono fun x hm => by
  have : x = rb := by simpa using hm
  subst this; simp)
theorem Ob.putB (h : Ob enc z ty base (rb :: bs) w o cap l) (hx : ExtX bs w w') (hb : w.heap.size ≤ b) : Ob enc z ty base (rb :: (bs ++ [b])) w' o cap l := h.put (hx.mono fun _ hm => List.mem_cons_of_mem _ hm) hb
end
theorem k_l20OpenB {c : Option Addr} {L C : Nat} {w : World} (h : Bytes c L w) (hC : L ≤ C) :
    Calls Try.prog fn_spec_l20Open #[.slice c L C] w fun e w' => ∃ b c' L', e = .returned (.pointer (some ⟨b, 0, none⟩)) ∧ w.heap.size ≤ b ∧ Rdr b c' L' 0 w' ∧ ExtX [] w w' ∧ ∀ a', c' = some a' → L' = 0 ∨ (0 < L ∧ ∃ a, c = some a ∧ a'.block = a.block) := by
  refine (e_spec_l20Open c L C (R := fun v w' => ∃ b c' L', v = .pointer (some ⟨b, 0, none⟩) ∧ w.heap.size ≤ b ∧ Rdr b c' L' 0 w' ∧ ExtX [] w w' ∧ ∀ a', c' = some a' → L' = 0 ∨ (0 < L ∧ ∃ a, c = some a ∧ a'.block = a.block)) ?_).mono fun e w' ⟨v, he, b, c', L', hv, h1, h2, h3⟩ => ⟨b, c', L', by rw [he, hv], h1, h2, h3⟩
  refine ⟨fun hlt => ⟨⟨by omega, by omega, by have := of_decide_eq_true hlt; omega⟩, fun b wb hx hb hh _ wr hy => ⟨b, if C = Int.toNat 0 then c else c.map (·.add (Int.toNat 0 * 1)), Int.toNat 2000 - Int.toNat 0, rfl, hb, ?_, hx.trans hy, fun a' ha' => ?_⟩⟩, fun hlt b wb hx hb hh _ wr hy => ⟨b, c, L, rfl, hb, ?_, hx.trans hy, fun a' ha' => ?_⟩⟩
  · refine Rdr.ext0 ⟨⟨_, 0, hh, by omega, by omega⟩, fun i hi => ?_⟩ hy
    have hlt := of_decide_eq_true hlt
    obtain ⟨a, x, ha, h1, h2, h3⟩ := h.ext hx i (by have : i < 2000 - 0 := hi; omega)
    obtain ⟨a0, x0, ha0, _, _, h30⟩ := h i (by have : i < 2000 - 0 := hi; omega)
    have hlt2 := World.block_lt_of_cell? w _ h30
    rw [add_block] at hlt2
    rw [ha] at ha0; cases ha0
    rw [if_neg (show ¬ C = Int.toNat 0 from fun e => by have : C = 0 := e; omega), ha]
    refine ⟨a.add 0, x, rfl, by rw [add_block]; omega, h1, h2, ?_⟩
    rw [add_add', Nat.zero_add]; exact h3
  · have hlt := of_decide_eq_true hlt
    refine .inr ⟨by omega, ?_⟩
    rw [if_neg (show ¬ C = Int.toNat 0 from fun e => by have : C = 0 := e; omega)] at ha'
    cases c with
    | none => cases ha'
    | some a =>
      simp only [Option.map_some, Option.some.injEq] at ha'
      exact ⟨a, rfl, by rw [← ha', add_block]⟩
  · refine Rdr.ext0 ⟨⟨_, 0, hh, by omega, by omega⟩, fun i hi => ?_⟩ hy
    obtain ⟨a, x, ha, h1, h2, h3⟩ := h.ext hx i hi
    obtain ⟨a0, x0, ha0, _, _, h30⟩ := h i hi
    have hlt2 := World.block_lt_of_cell? w _ h30
    rw [add_block] at hlt2
    rw [ha] at ha0; cases ha0
    exact ⟨a, x, ha, by omega, h1, h2, h3⟩
  · rcases Nat.eq_zero_or_pos L with h0 | h0
    · exact .inl h0
    · exact .inr ⟨h0, a', ha', rfl⟩

section
variable {rb : Nat} {c : Option Addr} {L N : Nat} {w : World}
theorem k_units (h : Rdr rb c L N w) (hN : N ≤ 900000000000) :
    Calls Try.prog fn_spec_l20Rd_units #[.pointer (some ⟨rb, 0, none⟩)] w fun e w' => ∃ v, e = .returned (.int .i64 v) ∧ Rdr rb c L (N + 2) w' ∧ ExtX [rb] w w' := by
  refine (e_spec_l20Rd_units (some ⟨rb, 0, none⟩) (R := fun v w' => ∃ x, v = .int .i64 x ∧ Rdr rb c L (N + 2) w' ∧ ExtX [rb] w w') ?_).mono fun e w' ⟨v, he, x, hv, h1⟩ => ⟨x, by rw [he, hv], h1⟩
  intro wr hx hs
  refine (k_pick (h.ext0 hx) (by omega)).mono fun e w1 ⟨v, he, hv, hr1, hx1⟩ => ⟨v, he, kept_nil, fun _ bt hbt wr1 hy hs1 => ?_, fun _ bt hbt wr1 hy hs1 => ?_⟩
  all_goals
    have hR : RS rb c L (N + 1) [bt] wr1 := (RS.put (bs := []) ⟨hr1, by simp, fun a _ => .inl (by simp)⟩ hy hbt)
    refine (k_pick hR.rd (by omega)).mono fun e w2 ⟨u, he, hu, hr2, hx2⟩ => ⟨u, he, kept_R hR hx2 hs1, ?_⟩
    have hu1 := hu.1
    have hu2 := hu.2.2 (by decide)
    have fin : ∀ (x : Int), ∀ wr4, ExtX [bt] w2 wr4 → ∃ x', Value.int .i64 x = .int .i64 x' ∧ Rdr rb c L (N + 2) wr4 ∧ ExtX [rb] w wr4 := fun x wr4 hz =>
      ⟨x, rfl, ((hR.upd hr2).step hz).rd, (((hx.of_nil.trans hx1).trans hy.of_nil).trans hx2).fresh hz fun y hy' => .inl (le_mem1 hy' (by
        have h1 := hx.size; have h2 := hx1.size
        omega))⟩
  · have : u = 0 ∨ u = 1 ∨ u = 2 ∨ u = 3 := by omega
    refine ⟨⟨hu1, hu2⟩, ?_⟩
    rcases this with rfl | rfl | rfl | rfl <;> exact ⟨_, ⟨by decide, rfl⟩, fin _⟩
  · have : u = 0 ∨ u = 1 ∨ u = 2 ∨ u = 3 ∨ u = 4 ∨ u = 5 ∨ u = 6 ∨ u = 7 := by omega
    refine ⟨⟨hu1, hu2⟩, ?_⟩
    rcases this with rfl | rfl | rfl | rfl | rfl | rfl | rfl | rfl <;> exact ⟨_, ⟨by decide, rfl⟩, fin _⟩
/-- A deed that is drawn: nothing is said of it. -/
theorem k_op {n : Int} (h : Rdr rb c L N w) (hN : N ≤ 800000000000) :
    Calls Try.prog fn_spec_l20Rd_op #[.pointer (some ⟨rb, 0, none⟩), .int .i64 n] w fun e w' => ∃ op : QOp, e = .returned (.agg (encO op).toArray) ∧ Rdr rb c L (N + 10) w' ∧ ExtX [rb] w w' := by
  refine (e_spec_l20Rd_op (some ⟨rb, 0, none⟩) n (R := fun v w' => ∃ op : QOp, v = .agg (encO op).toArray ∧ Rdr rb c L (N + 10) w' ∧ ExtX [rb] w w') ?_).mono fun e w' ⟨v, he, x, hv, h1⟩ => ⟨x, by rw [he, hv], h1⟩
  intro b hb wr hx hs
  have fin : ∀ {bs : List Nat} {w1 wr' : World} {M : Nat} (k a m : Int), RS rb c L M bs w1 → Sc w (bs) w → ExtX [rb] w w1 → M ≤ N + 10 → ExtX bs w1 wr' → ∃ op : QOp, (Value.agg #[.int .i64 k, .int .i64 a, .int .i64 m]) = .agg (encO op).toArray ∧ Rdr rb c L (N + 10) wr' ∧ ExtX [rb] w wr' :=
    fun {bs w1 wr' M} k a m hR hS hX hM hx => ⟨⟨k, a, m⟩, rfl, (hR.step hx).rd.mono hM, hX.fresh hx fun y hy => .inl (hS.new y hy)⟩
  have S1 : Sc w [b] w := (Sc.start w).add hb
  have R0 : RS rb c L N [b] wr := (RS.add (bs := []) ⟨h, by simp, fun a _ => .inl (by simp)⟩ hb).call0 hx
  have X0 : ExtX [rb] w wr := hx.of_nil
  refine (k_pick R0.rd (by omega)).mono fun e w1 ⟨v1, he, hv1, hr1, hx1⟩ => ⟨v1, he, kept_R R0 hx1 hs, fun wr1 hy1 hs1 => ?_⟩
  have R1 := (R0.upd hr1).step hy1
  have X1 := (X0.trans hx1).fresh hy1 fun y hy => .inl (S1.new y hy)
  refine (k_pick R1.rd (by omega)).mono fun e w2 ⟨v2, he, hv2, hr2, hx2⟩ => ⟨v2, he, kept_R R1 hx2 hs1, fun _ b1 hb1 wr2 hy2 hs2 => ?_, fun _ wr2 hy2 hs2 => ?_⟩
  · have hsz : w.heap.size ≤ b1 := by have := X1.size; have := hx2.size; omega
    have S2 : Sc w [b, b1] w := S1.add hsz
    have R2 := (R1.upd hr2).put hy2 hb1
    have X2 := (X1.trans hx2).fresh hy2 fun y hy => .inl (S1.new y hy)
    refine (k_pick R2.rd (by omega)).mono fun e w3 ⟨v3, he, hv3, hr3, hx3⟩ => ⟨v3, he, kept_R R2 hx3 hs2, ⟨hv3.1, hv3.2.2 (by decide)⟩, ?_⟩
    have h31 := hv3.1
    have h32 := hv3.2.2 (by decide)
    have hx' : ∃ x : Int, 0 ≤ v3 ∧ ([.int .i64 (-1), .int .i64 n] : List Value)[Int.toNat v3 + 0]? = some (.int .i64 x) := by
      have : v3 = 0 ∨ v3 = 1 := by omega
      rcases this with rfl | rfl <;> exact ⟨_, by decide, rfl⟩
    obtain ⟨x, hx'⟩ := hx'
    refine ⟨x, hx', fun wr3 hy3 hs3 => ?_⟩
    have R3 := (R2.upd hr3).step hy3
    have X3 := (X2.trans hx3).fresh hy3 fun y hy => .inl (S2.new y hy)
    refine (k_pick R3.rd (by omega)).mono fun e w4 ⟨v4, he, hv4, hr4, hx4⟩ => ?_
    have R4 := R3.upd hr4
    have X4 := X3.trans hx4
    refine ⟨v4, he, kept_R R3 hx4 hs3, fun _ wr4 hy4 => fin _ _ _ R4 S2 X4 (by omega) hy4, fun _ => ⟨fun _ wr4 hy4 => fin _ _ _ R4 S2 X4 (by omega) hy4, fun _ => ⟨fun _ wr4 hy4 => fin _ _ _ R4 S2 X4 (by omega) hy4, fun _ => ⟨fun _ wr4 hy4 hs4 => ?_, fun _ => ⟨fun _ wr4 hy4 => fin _ _ _ R4 S2 X4 (by omega) hy4, fun _ => ⟨fun _ wr4 hy4 hs4 => ?_, fun _ wr4 hy4 hs4 => ?_⟩⟩⟩⟩⟩⟩
    · have R5 := R4.step hy4
      have X5 := X4.fresh hy4 fun y hy => .inl (S2.new y hy)
      exact (k_weight R5.rd (by omega)).mono fun e w5 ⟨u, he, _, hr5, hx5⟩ => ⟨u, he, kept_R R5 hx5 hs4, fun wr5 hy5 => fin _ _ _ (R5.upd hr5) S2 (X5.trans hx5) (by omega) hy5⟩
    · have R5 := R4.step hy4
      have X5 := X4.fresh hy4 fun y hy => .inl (S2.new y hy)
      refine (k_pick R5.rd (by omega)).mono fun e w5 ⟨v5, he, hv5, hr5, hx5⟩ => ⟨v5, he, kept_R R5 hx5 hs4, fun _ wr5 hy5 hs5 => ?_, fun _ wr5 hy5 hs5 => ?_⟩
      · have R6 := (R5.upd hr5).step hy5
        have X6 := (X5.trans hx5).fresh hy5 fun y hy => .inl (S2.new y hy)
        refine (k_pick R6.rd (by omega)).mono fun e w6 ⟨v6, he, hv6, hr6, hx6⟩ => ⟨v6, he, kept_R R6 hx6 hs5, ⟨by have := hv6.1; omega, by have := hv6.2.2 (by decide); omega⟩, fun wr6 hy6 hs6 => ?_⟩
        have R7 := (R6.upd hr6).step hy6
        have X7 := (X6.trans hx6).fresh hy6 fun y hy => .inl (S2.new y hy)
        exact (k_pick R7.rd (by omega)).mono fun e w7 ⟨v7, he, hv7, hr7, hx7⟩ => ⟨v7, he, kept_R R7 hx7 hs6, fun wr7 hy7 => fin _ _ _ (R7.upd hr7) S2 (X7.trans hx7) (by omega) hy7⟩
      · have R6 := (R5.upd hr5).step hy5
        have X6 := (X5.trans hx5).fresh hy5 fun y hy => .inl (S2.new y hy)
        exact (k_units R6.rd (by omega)).mono fun e w6 ⟨v6, he, hr6, hx6⟩ => ⟨v6, he, kept_R R6 hx6 hs5, fun wr6 hy6 => fin _ _ _ (R6.upd hr6) S2 (X6.trans hx6) (by omega) hy6⟩
    · have R5 := R4.step hy4
      have X5 := X4.fresh hy4 fun y hy => .inl (S2.new y hy)
      exact (k_units R5.rd (by omega)).mono fun e w6 ⟨v6, he, hr6, hx6⟩ => ⟨v6, he, kept_R R5 hx6 hs4, fun wr6 hy6 => fin _ _ _ (R5.upd hr6) S2 (X5.trans hx6) (by omega) hy6⟩
  · have R3 := (R1.upd hr2).step hy2
    have X3 := (X1.trans hx2).fresh hy2 fun y hy => .inl (S1.new y hy)
    refine (k_pick R3.rd (by omega)).mono fun e w4 ⟨v4, he, hv4, hr4, hx4⟩ => ?_
    have R4 := R3.upd hr4
    have X4 := X3.trans hx4
    refine ⟨v4, he, kept_R R3 hx4 hs2, fun _ wr4 hy4 => fin _ _ _ R4 S1 X4 (by omega) hy4, fun _ => ⟨fun _ wr4 hy4 => fin _ _ _ R4 S1 X4 (by omega) hy4, fun _ => ⟨fun _ wr4 hy4 => fin _ _ _ R4 S1 X4 (by omega) hy4, fun _ => ⟨fun _ wr4 hy4 hs4 => ?_, fun _ => ⟨fun _ wr4 hy4 => fin _ _ _ R4 S1 X4 (by omega) hy4, fun _ => ⟨fun _ wr4 hy4 hs4 => ?_, fun _ wr4 hy4 hs4 => ?_⟩⟩⟩⟩⟩⟩
    · have R5 := R4.step hy4
      have X5 := X4.fresh hy4 fun y hy => .inl (S1.new y hy)
      exact (k_weight R5.rd (by omega)).mono fun e w5 ⟨u, he, _, hr5, hx5⟩ => ⟨u, he, kept_R R5 hx5 hs4, fun wr5 hy5 => fin _ _ _ (R5.upd hr5) S1 (X5.trans hx5) (by omega) hy5⟩
    · have R5 := R4.step hy4
      have X5 := X4.fresh hy4 fun y hy => .inl (S1.new y hy)
      refine (k_pick R5.rd (by omega)).mono fun e w5 ⟨v5, he, hv5, hr5, hx5⟩ => ⟨v5, he, kept_R R5 hx5 hs4, fun _ wr5 hy5 hs5 => ?_, fun _ wr5 hy5 hs5 => ?_⟩
      · have R6 := (R5.upd hr5).step hy5
        have X6 := (X5.trans hx5).fresh hy5 fun y hy => .inl (S1.new y hy)
        refine (k_pick R6.rd (by omega)).mono fun e w6 ⟨v6, he, hv6, hr6, hx6⟩ => ⟨v6, he, kept_R R6 hx6 hs5, ⟨by have := hv6.1; omega, by have := hv6.2.2 (by decide); omega⟩, fun wr6 hy6 hs6 => ?_⟩
        have R7 := (R6.upd hr6).step hy6
        have X7 := (X6.trans hx6).fresh hy6 fun y hy => .inl (S1.new y hy)
        exact (k_pick R7.rd (by omega)).mono fun e w7 ⟨v7, he, hv7, hr7, hx7⟩ => ⟨v7, he, kept_R R7 hx7 hs6, fun wr7 hy7 => fin _ _ _ (R7.upd hr7) S1 (X7.trans hx7) (by omega) hy7⟩
      · have R6 := (R5.upd hr5).step hy5
        have X6 := (X5.trans hx5).fresh hy5 fun y hy => .inl (S1.new y hy)
        exact (k_units R6.rd (by omega)).mono fun e w6 ⟨v6, he, hr6, hx6⟩ => ⟨v6, he, kept_R R6 hx6 hs5, fun wr6 hy6 => fin _ _ _ (R6.upd hr6) S1 (X6.trans hx6) (by omega) hy6⟩
    · have R5 := R4.step hy4
      have X5 := X4.fresh hy4 fun y hy => .inl (S1.new y hy)
      exact (k_units R5.rd (by omega)).mono fun e w6 ⟨v6, he, hr6, hx6⟩ => ⟨v6, he, kept_R R5 hx6 hs4, fun wr6 hy6 => fin _ _ _ (R5.upd hr6) S1 (X5.trans hx6) (by omega) hy6⟩
end
end Go.Proofs.Ythihcdljmddgfaa
