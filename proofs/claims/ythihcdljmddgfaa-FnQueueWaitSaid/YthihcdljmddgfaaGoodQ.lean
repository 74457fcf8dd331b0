/- Good queues and what is done with them; bytes that are drawn. -/
import Derived.Test.YthihcdljmddgfaaRdk
namespace Go.Proofs.Ythihcdljmddgfaa
open Go.RowKit
set_option linter.unusedVariables false
set_option maxRecDepth 10000

abbrev ObO (base : Nat) (bs : List Nat) (w : World) (o : Option Addr) (c : Nat) (l : List QOp) := Ob encO 3 ty_impl_QueueOp base bs w o c l
theorem k_spec_GoodQueue {c : Option Addr} {L C : Nat} {w : World} (h : Bytes c L w) (hC : L ≤ C) :
    Calls Try.prog fn_spec_GoodQueue #[.slice c L C] w fun e w' => ∃ (q : Que) (o : Option Addr) (cq : Nat) (ops : List QOp) (po : Option Addr) (pc : Nat), e = .returned (.tuple #[.agg (encQ q o cq).toArray, .slice po ops.length pc]) ∧ queOk q = true ∧ SmlQ 2000000000000 q ∧ ops.length ≤ 64 ∧
      Own encE 4 ty_impl_Entry w.heap.size w' o cq q.es ∧ Own encO 3 ty_impl_QueueOp w.heap.size w' po pc ops ∧ ExtX [] w w' := by
  refine (e_spec_GoodQueue c L C (R := fun v w' => ∃ (q : Que) (o : Option Addr) (cq : Nat) (ops : List QOp) (po : Option Addr) (pc : Nat), v = .tuple #[.agg (encQ q o cq).toArray, .slice po ops.length pc] ∧ queOk q = true ∧ SmlQ 2000000000000 q ∧ ops.length ≤ 64 ∧
      Own encE 4 ty_impl_Entry w.heap.size w' o cq q.es ∧ Own encO 3 ty_impl_QueueOp w.heap.size w' po pc ops ∧ ExtX [] w w') ?_).mono fun e w' ⟨v, he, q, o, cq, ops, po, pc, hv, h1⟩ => ⟨q, o, cq, ops, po, pc, by rw [he, hv], h1⟩
  intro b hb wr hx hs
  refine (k_l20OpenB (h.ext hx) hC).mono fun e wv ⟨rb, c', L', he, hrb, hR, hx1, hc'⟩ => ⟨_, he, kept_of hx1 hs, fun wr1 hy1 hs1 => ?_⟩
  have fb : FarR rb c' L' b := ⟨by have := hs b (by simp); omega, fun a ha e => by
    rcases hc' a ha with h1 | ⟨h1, a0, h2, h3⟩
    · exact h1
    · obtain ⟨a1, x, ha1, _, _, hcl⟩ := h 0 h1
      rw [h2] at ha1; cases ha1
      have := World.block_lt_of_cell? w _ hcl
      rw [add_block] at this
      omega⟩
  have S0 : SR rb c' L' w wv.heap.size 0 [b] wv := ⟨hR, (hx.trans hx1).size, Nat.le_refl _, fun _ hx => hR.new hx, by simpa using fb, by simpa using hb, (hx.trans hx1).of_nil⟩
  have new : ∀ {w' : World}, ExtX [rb] w w' → ExtX [] w w' := fun {w'} hX => (ExtX.refl [] w).fresh hX fun x hm => .inl (by
    have : x = rb := by simpa using hm
    have := hx.size
    omega)
  have S1 := S0.step hy1
  refine (k_queue S1.rd (by omega)).mono fun e wv1 ⟨q, o, cq, he, hq, hsq, hO, hR1, hx2⟩ => ⟨_, _, _, _, _, _, he, S1.kept hx2 hs1, fun b1 hb1 wr2 hx3 hs2 => ?_⟩
  have S2 := (S1.draw hR1 hx2).put hx3 hb1
  have hO2 : ObE wv.heap.size [b, b1] wr2 o cq q.es := ((Ob.of hO hs1).mono S1.bw).put hx3 hb1
  refine (k_pick S2.rd (by omega)).mono fun e wv2 ⟨p, he, hp, hR2, hx4⟩ => ⟨p, he, S2.kept hx4 hs2, ?_⟩
  have hp0 := hp.1
  have hp1 := hp.2.2 (by decide)
  have S3 := S2.draw hR2 hx4
  have hO3 := S2.ob hO2 hx4
  refine ⟨⟨by omega, by omega⟩, fun vs w1 => ∃ (k : Nat) (ops : List QOp) (po : Option Addr) (pc : Nat), vs = [.slice po ops.length pc, .int .i64 (k : Int)] ∧ ops.length = k ∧ (k : Int) ≤ 4 + p ∧ SR rb c' L' w wv.heap.size (1001 + 12 * k) [b, b1] w1 ∧ ObE wv.heap.size [b, b1] w1 o cq q.es ∧ ObO wv.heap.size [b, b1] w1 po pc ops, cntMw (4 + p).toNat 1,
    fun wr3 hx5 _ => ⟨0, [], none, 0, rfl, rfl, by omega, (S3.step hx5).mono (by omega), hO3.step hx5, ⟨own_nil, by simp [blkOf]⟩⟩, ?_⟩
  rintro o1 L1 C1 i w3 hs3 ⟨k, ops, po, pc, he, hlen, hk, S4, hO4, hP4⟩
  simp only [List.cons.injEq, Value.int.injEq, Value.slice.injEq, true_and, and_true] at he
  obtain ⟨⟨rfl, rfl, rfl⟩, rfl⟩ := he
  refine ⟨fun hlt wr4 hx5 hs4 => ?_, fun hge wr11 hx11 => ⟨q, o, cq, ops, o1, C1, rfl, hq, hsq, by omega, (hO4.step hx11).own.mono S0.hb, (hP4.step hx11).own.mono S0.hb, new (S4.step hx11).ext⟩⟩
  have hlt := of_decide_eq_true hlt
  have S5 := S4.step hx5
  have hO5 := hO4.step hx5
  have hP5 := hP4.step hx5
  -- one more is noted
  have fin : ∀ {w6 wr6 : World} {b2 : Nat} {N : Nat} (op : QOp), SR rb c' L' w wv.heap.size N [b, b1] w6 → N ≤ 1001 + 12 * (k + 1) → ObE wv.heap.size [b, b1] w6 o cq q.es → ObO wv.heap.size [b, b1] w6 o1 C1 ops → w6.heap.size ≤ b2 → ExtX [b, b1] w6 wr6 → (∀ bq ∈ [b, b1, b2], bq < wr6.heap.size) → wr6.heap[b2]? = some (Obj.cells (encO op).toArray ty_impl_QueueOp (0, 0)) → ∀ (tr : TypeId) (cs : Array Bool),
      ∃ (apO : Option Addr) (apL apC : Nat), ∃ w8, (builtin .append #[ty_sl_impl_QueueOp, ty_sl_impl_QueueOp] tr cs #[.slice o1 ops.length C1, .slice (some (Addr.mk b2 0 none)) 1 1]).run Try.prog wr6 = .ok (.value (.slice apO apL apC)) w8 ∧ Kept [b, b1, b2] wr6 w8 ∧ InR .i64 ((k : Int) + 1) ∧
        ∀ wr10, ExtX [b, b1, b2] w8 wr10 → (∀ bq ∈ [b, b1, b2], bq < wr10.heap.size) → (∃ (k' : Nat) (ops' : List QOp) (po' : Option Addr) (pc' : Nat), [Value.slice apO apL apC, .int .i64 ((k : Int) + 1)] = [.slice po' ops'.length pc', .int .i64 (k' : Int)] ∧ ops'.length = k' ∧ (k' : Int) ≤ 4 + p ∧ SR rb c' L' w wv.heap.size (1001 + 12 * k') [b, b1] wr10 ∧ ObE wv.heap.size [b, b1] wr10 o cq q.es ∧ ObO wv.heap.size [b, b1] wr10 po' pc' ops') ∧
          cntMw (4 + p).toNat 1 [.slice apO apL apC, .int .i64 ((k : Int) + 1)] wr10 < cntMw (4 + p).toNat 1 [.slice o1 ops.length C1, .int .i64 (k : Int)] w3 := fun {w6 wr6 b2 N} op S6 hN hO6 hP6 hb2 hx7 hs6 hcell tr cs => by
    have S7 := S6.put hx7 hb2
    have hO7 := hO6.put hx7 hb2
    have hP7 := hP6.put hx7 hb2
    obtain ⟨o2, c2, w8, hrun, hk8, hP8, hx8⟩ := hP7.app1 elt_QueueOp u_sl_impl_QueueOp (x := op) hs6 S7.bw hcell (oneO _) (by omega) (by decide) tr cs
    have S8 := S7.own hP7.own hx8
    have hO8 := hO7.call hx8 (hO7.own.ty_ne hP7.own (by decide))
    exact ⟨_, _, _, w8, hrun, hk8, ⟨by omega, by omega⟩, fun wr10 hx10 _ => ⟨⟨k + 1, ops ++ [op], o2, c2, by simp, by simp [hlen], by omega, ((S8.step hx10).mono hN).sub (by simp), (hO8.step hx10).sub (by simp), (hP8.step hx10).sub (by simp)⟩, cntM_lt (k := k) rfl rfl (by omega)⟩⟩
  refine (k_pick S5.rd (by omega)).mono fun e w4 ⟨p1, he, _, hR4, hx6⟩ => ⟨p1, he, S5.kept hx6 hs4, fun g wr5 hx7 hs5 => ?_, fun g wr8 hx7 hs5 => ?_⟩
  · have S6 := (S5.draw hR4 hx6).step hx7
    have hO6 := (S5.ob hO5 hx6).step hx7
    have hP6 := (S5.ob hP5 hx6).step hx7
    refine (k_pick S6.rd (by omega)).mono fun e w5 ⟨p2, he, hp2, hR5, hx8⟩ => ⟨p2, he, S6.kept hx8 hs5, ?_⟩
    have hq0 := hp2.1
    have hq1 := hp2.2.2 (by decide)
    exact ⟨⟨by omega, by omega⟩, fun b2 hb2 wr6 hx9 hs6 hcell => fin ⟨3, 0, 1 + p2⟩ (S6.draw hR5 hx8) (by omega) (S6.ob hO6 hx8) (S6.ob hP6 hx8) hb2 hx9 hs6 hcell _ _⟩
  · have S6 := (S5.draw hR4 hx6).step hx7
    have hO6 := (S5.ob hO5 hx6).step hx7
    have hP6 := (S5.ob hP5 hx6).step hx7
    exact (k_op S6.rd (by omega)).mono fun e w5 ⟨op, he, hR5, hx8⟩ => ⟨op.kind, op.at', op.n, he, S6.kept hx8 hs5, fun b3 hb3 wr9 hx9 hs6 hcell => fin op (S6.draw hR5 hx8) (by omega) (S6.ob hO6 hx8) (S6.ob hP6 hx8) hb3 hx9 hs6 hcell _ _⟩
/-- A byte of the rest. -/
theorem k_stByte {c : Option Addr} {L C : Nat} {w0 w : World} {bs : List Nat} {i : Int} (h : Bytes c L w0) (s : Sc w0 bs w) (h0 : 0 ≤ i) (hi : i ≤ 100000000) :
    ∃ v : Int, 0 ≤ v ∧ v ≤ 255 ∧ PureX bs Try.prog fn_laws_stByte #[.slice c L C, .int .i64 i] w (.int .i64 v) := by
  by_cases hl : i < (L : Int)
  · obtain ⟨a, x, ha, h1, h2, h3⟩ := h i.toNat (by omega)
    refine ⟨x, h1, h2, p_laws_stByte c L C i fun wr hx => ⟨fun _ => ⟨⟨h0, hl, by rw [ha]; rfl⟩, x, ?_, ⟨by omega, by omega⟩, rfl⟩, fun g => absurd hl (by simpa using g)⟩⟩
    have hw : w0.heap.size > (a.add i.toNat).block := World.block_lt_of_cell? w0 _ h3
    rw [add_block] at hw
    have hc : CellX [] w0 c i.toNat (.int .u8 x) := ⟨a, ha, by simp, h3⟩
    have hc1 : CellX bs w c i.toNat (.int .u8 x) := (hc.wide (cs := bs) fun y hm => .inr (s.new y hm)).ext s.ext.of_nil
    rw [Nat.mul_one]
    exact cellsX_one ((hc1.ext hx).less (by simp))
  · have hr := Int.tmod_lt_of_pos (i * 37) (b := 251) (by decide)
    have hr0 := Int.tmod_nonneg (a := i * 37) 251 (by omega)
    exact ⟨Int.tmod (i * 37) 251, hr0, by omega, p_laws_stByte c L C i fun wr hx => ⟨fun g => absurd (of_decide_eq_true g) hl, fun _ => ⟨⟨by omega, by omega⟩, by decide, rfl⟩⟩⟩
theorem k_impl_QueueApart {a b : Int} {w : World} {bs : List Nat} (ha : 1 ≤ a ∧ a ≤ 20) (hb : 1 ≤ b ∧ b ≤ 20) : PureX bs Try.prog fn_impl_QueueApart #[.int .i64 a, .int .i64 b] w (.int .i64 (149 * (a + b))) :=
  p_impl_QueueApart a b fun wr hx => by
    have h1 : inB a 1 20 = true := inB_t.2 ha
    have h2 : inB b 1 20 = true := inB_t.2 hb
    refine ⟨_, k_impl_weightOk, _, fun _ => k_impl_weightOk, fun g => ?_, fun _ => ⟨⟨by omega, by omega⟩, ⟨by omega, by omega⟩, rfl⟩⟩
    rw [h1, h2] at g; cases g
end Go.Proofs.Ythihcdljmddgfaa
