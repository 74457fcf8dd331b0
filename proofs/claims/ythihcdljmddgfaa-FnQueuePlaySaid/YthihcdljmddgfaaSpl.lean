/- Queues that are drawn and then spoilt; plays that are drawn. -/
import Derived.Test.YthihcdljmddgfaaGoodQ
namespace Go.Proofs.Ythihcdljmddgfaa
open Go.RowKit
set_option linter.unusedVariables false
set_option maxRecDepth 10000

/-- A row from place m on. -/
theorem Rd.cut {α : Type} [Inhabited α] {enc : α → List Value} {z : Nat} {bs : List Nat} {w : World} {o : Option Addr} {l : List α} (h : Rd enc z bs w o l) {C m : Nat} (hC : l.length ≤ C) : Rd enc z bs w (if C = m then o else o.map (·.add (m * z))) (l.drop m) := fun i h0 h1 => by
  rw [List.length_drop] at h1
  have hm : ¬ C = m := by omega
  rw [if_neg hm]
  have hg : gi (l.drop m) i = gi l ((m : Int) + i) := by
    obtain ⟨k, rfl⟩ := Int.eq_ofNat_of_zero_le h0
    rw [show (m : Int) + (k : Int) = ((m + k : Nat) : Int) by omega, gi_lt (by rw [List.length_drop]; omega), gi_lt (by omega)]
    simp
  rw [hg]
  have hr := h ((m : Int) + i) (by omega) (by omega)
  refine cellsX_mk fun j v hj => ?_
  obtain ⟨a, ha, hb, hc⟩ := hr.get j v hj
  refine ⟨a.add (m * z), by rw [ha]; rfl, by rw [add_block]; exact hb, ?_⟩
  rw [add_add', show m * z + (Int.toNat i * z + j) = Int.toNat ((m : Int) + i) * z + j by
    rw [show Int.toNat ((m : Int) + i) = m + Int.toNat i by omega, Nat.add_mul]; omega]
  exact hc
theorem Rd.take {α : Type} [Inhabited α] {enc : α → List Value} {z : Nat} {bs : List Nat} {w : World} {o : Option Addr} {l : List α} (h : Rd enc z bs w o l) (m : Nat) : Rd enc z bs w o (l.take m) := fun i h0 h1 => by
  rw [List.length_take] at h1
  have hg : gi (l.take m) i = gi l i := by
    obtain ⟨k, rfl⟩ := Int.eq_ofNat_of_zero_le h0
    rw [gi_lt (by rw [List.length_take]; omega), gi_lt (by omega)]
    simp
  rw [hg]
  exact h i h0 (by omega)

theorem own_v {base : Nat} {l : List Ent} {o : Option Addr} {c : Nat} {w : World} (h : Own encE 4 ty_impl_Entry base w o c l) {i : Int} (h0 : 0 ≤ i) (hi : i < (l.length : Int)) (x : Int) : Own encE 4 ty_impl_Entry base (sto w o (Int.toNat i * 4 + 1) [.int .i64 x]) o c (l.set i.toNat ⟨(gi l i).on, x, (gi l i).w, (gi l i).sum⟩) :=
  h.sto elt_Entry.len h0 hi (j := 1) (vs := [.int .i64 x]) (x := ⟨(gi l i).on, x, (gi l i).w, (gi l i).sum⟩) rfl (by simp)
theorem own_w {base : Nat} {l : List Ent} {o : Option Addr} {c : Nat} {w : World} (h : Own encE 4 ty_impl_Entry base w o c l) {i : Int} (h0 : 0 ≤ i) (hi : i < (l.length : Int)) (x : Int) : Own encE 4 ty_impl_Entry base (sto w o (Int.toNat i * 4 + 2) [.int .i64 x]) o c (l.set i.toNat ⟨(gi l i).on, (gi l i).v, x, (gi l i).sum⟩) :=
  h.sto elt_Entry.len h0 hi (j := 2) (vs := [.int .i64 x]) (x := ⟨(gi l i).on, (gi l i).v, x, (gi l i).sum⟩) rfl (by simp)
theorem own_sum {base : Nat} {l : List Ent} {o : Option Addr} {c : Nat} {w : World} (h : Own encE 4 ty_impl_Entry base w o c l) {i : Int} (h0 : 0 ≤ i) (hi : i < (l.length : Int)) (x : Int) : Own encE 4 ty_impl_Entry base (sto w o (Int.toNat i * 4 + 3) [.int .i64 x]) o c (l.set i.toNat ⟨(gi l i).on, (gi l i).v, (gi l i).w, x⟩) :=
  h.sto elt_Entry.len h0 hi (j := 3) (vs := [.int .i64 x]) (x := ⟨(gi l i).on, (gi l i).v, (gi l i).w, x⟩) rfl (by simp)

section
variable {rb : Nat} {c : Option Addr} {L N : Nat} {w : World}
theorem k_spoilt (h : Rdr rb c L N w) (hN : N ≤ 600000000000) :
    Calls Try.prog fn_spec_l20Rd_spoilt #[.pointer (some ⟨rb, 0, none⟩)] w fun e w' => ∃ (q : Que) (o' : Option Addr) (c' : Nat), e = .returned (.agg (encQ q o' c').toArray) ∧ q.es.length ≤ 20 ∧ Own encE 4 ty_impl_Entry w.heap.size w' o' c' q.es ∧ Rdr rb c L (N + 1100) w' ∧ ExtX [rb] w w' := by
  refine (e_spec_l20Rd_spoilt (some ⟨rb, 0, none⟩) (R := fun v w' => ∃ (q : Que) (o' : Option Addr) (c' : Nat), v = .agg (encQ q o' c').toArray ∧ q.es.length ≤ 20 ∧ Own encE 4 ty_impl_Entry w.heap.size w' o' c' q.es ∧ Rdr rb c L (N + 1100) w' ∧ ExtX [rb] w w') ?_).mono fun e w' ⟨v, he, q, o', c', hv, h1⟩ => ⟨q, o', c', by rw [he, hv], h1⟩
  intro b hb wr hx hs
  have S1 : SR rb c L w w.heap.size N [b] wr := ((SR.start h).add hb).call0 hx
  refine (k_queue S1.rd (by omega)).mono fun e wv ⟨q, o, cq, he, hqk, _, hO, hR, hx1⟩ => ⟨_, _, _, _, _, _, he, S1.kept hx1 hs, fun b1 hb1 wr1 hx2 hs1 => ?_⟩
  have hq := queOk_iff.1 hqk
  have l1 := hq.l1
  have l2 := hq.l2
  have f1 := hq.f1
  have f2 := hq.f2
  have S2 := (S1.draw hR hx1).put hx2 hb1
  have hO2 : ObE w.heap.size [b, b1] wr1 o cq q.es := ((Ob.of hO hs).mono S1.bw).put hx2 hb1
  -- it ends
  have fin : ∀ {w2 w3 : World} {bs : List Nat} {M : Nat} (f cu r : Int) (es : List Ent) (o' : Option Addr) (c' : Nat), SR rb c L w w.heap.size M bs w2 → M ≤ N + 1100 → ObE w.heap.size bs w2 o' c' es → es.length ≤ 20 → ExtX bs w2 w3 →
      ∃ (q' : Que) (o2 : Option Addr) (c2 : Nat), Value.agg #[.int .i64 f, .int .i64 cu, .int .i64 r, .slice o' es.length c'] = .agg (encQ q' o2 c2).toArray ∧ q'.es.length ≤ 20 ∧ Own encE 4 ty_impl_Entry w.heap.size w3 o2 c2 q'.es ∧ Rdr rb c L (N + 1100) w3 ∧ ExtX [rb] w w3 :=
    fun {w2 w3 bs M} f cu r es o' c' S hM hO hl hx => ⟨⟨f, cu, r, es⟩, o', c', rfl, hl, (hO.step hx).own, (S.step hx).rd.mono hM, (S.step hx).ext⟩
  have fin' : ∀ {w2 w3 : World} {bs : List Nat} {M : Nat} (f cu r : Int) (es : List Ent) (i : Nat) (x : Ent) (o' : Option Addr) (c' : Nat), SR rb c L w w.heap.size M bs w2 → M ≤ N + 1100 → ObE w.heap.size bs w2 o' c' (es.set i x) → es.length ≤ 20 → ExtX bs w2 w3 →
      ∃ (q' : Que) (o2 : Option Addr) (c2 : Nat), Value.agg #[.int .i64 f, .int .i64 cu, .int .i64 r, .slice o' es.length c'] = .agg (encQ q' o2 c2).toArray ∧ q'.es.length ≤ 20 ∧ Own encE 4 ty_impl_Entry w.heap.size w3 o2 c2 q'.es ∧ Rdr rb c L (N + 1100) w3 ∧ ExtX [rb] w w3 :=
    fun {w2 w3 bs M} f cu r es i x o' c' S hM hO hl hx => by
      have := fin f cu r (es.set i x) o' c' S hM hO (by simpa using hl) hx
      rwa [List.length_set] at this
  refine (k_pick S2.rd (by omega)).mono fun e w2 ⟨p0, he, _, hR2, hx3⟩ => ⟨p0, he, S2.kept hx3 hs1, fun _ wr2 hx4 => fin _ _ _ q.es _ _ (S2.draw hR2 hx3) (by omega) (S2.ob hO2 hx3) l2 hx4, fun _ wr3 hx4 hs3 => ?_⟩
  have S3 := (S2.draw hR2 hx3).step hx4
  have hO3 := (S2.ob hO2 hx3).step hx4
  refine (k_pick S3.rd (by omega)).mono fun e w3 ⟨p, he, hp, hR3, hx5⟩ => ⟨p, he, S3.kept hx5 hs3, fun wr4 hx6 hs4 => ?_⟩
  have hp0 := hp.1
  have hp1 := hp.2.2 (by omega)
  have S4 := (S3.draw hR3 hx5).step hx6
  have hO4 := (S3.ob hO3 hx5).step hx6
  refine (k_pick S4.rd (by omega)).mono fun e w4 ⟨k, he, _, hR4, hx7⟩ => ⟨k, he, S4.kept hx7 hs4, ?_⟩
  have S5 := S4.draw hR4 hx7
  have hO5 := S4.ob hO4 hx7
  have hs5 : ∀ x ∈ [b, b1], x < w4.heap.size := fun x hm => Nat.lt_of_lt_of_le (hs4 x hm) hx7.size
  have ix : Ix o q.es.length p := hO5.own.ix hp0 hp1
  have ep := hq.es p hp0 hp1
  have r5 := hO5.rd elt_Entry.len
  -- a field is changed
  have wrs : ∀ {w2 : World} {bs : List Nat} {M : Nat}, SR rb c L w w.heap.size M bs w2 → ObE w.heap.size bs w2 o cq q.es → ∀ (n : Nat) (vs : List Value), SR rb c L w w.heap.size M bs (sto w2 o n vs) := fun {w2 bs M} S hO n vs => S.own hO.own (hO.own.stoX n vs)
  refine ⟨fun _ wr5 hx8 hs6 => ?_, fun _ => ⟨fun _ => ⟨ix, _, (r5 p hp0 hp1).2.2.1, _, k_spec_LagMost, ?_, fun wr7 hx8 hs6 => ?_⟩, fun _ => ⟨fun _ => ⟨fun b2 hb2 => ⟨rfl, fun wr9 hx8 hs6 => ?_⟩, fun wr11 hx8 hs6 => ?_⟩, fun _ => ⟨fun _ => ⟨⟨by omega, by omega⟩, fun wr13 hx8 hs6 => ?_⟩, fun _ => ⟨fun _ wr15 hx8 hs6 => ?_, fun _ => ⟨fun _ => ⟨ix, _, (r5 p hp0 hp1).1, ix, hO5.own.wr elt_Entry.len hO5.nb hp0 hp1 (j := 0) (by decide), fun wr17 hx8 => ?_⟩, fun _ => ⟨fun _ => ⟨ix, hO5.own.wr elt_Entry.len hO5.nb hp0 hp1 (j := 3) (by decide), fun wr18 hx8 => ?_⟩, fun _ => ⟨fun _ wr19 hx8 => ?_, fun _ => ⟨fun _ => ?_, fun _ wr23 hx8 => fin _ _ _ q.es _ _ S5 (by omega) hO5 l2 hx8⟩⟩⟩⟩⟩⟩⟩⟩⟩
  · have S6 := S5.step hx8
    exact (k_big S6.rd (by omega)).mono fun e w5 ⟨v, he, hv, hR5, hx9⟩ => ⟨v, he, S6.kept hx9 hs6, rfl, ⟨by omega, by omega⟩, fun wr6 hx10 => fin _ _ _ q.es _ _ (S6.draw hR5 hx9) (by omega) (S6.ob (hO5.step hx8) hx9) l2 hx10⟩
  · have := lagMost_range (gi q.es p).w
    exact ⟨by omega, by omega⟩
  · have S6 := S5.step hx8
    have hO6 := hO5.step hx8
    refine (k_pick S6.rd (by omega)).mono fun e w5 ⟨v, he, hv, hR5, hx9⟩ => ?_
    have hv0 := hv.1
    have hv1 := hv.2.2 (by decide)
    have S7 := S6.draw hR5 hx9
    have hO7 := S6.ob hO6 hx9
    have := lagMost_range (gi q.es p).w
    exact ⟨v, he, S6.kept hx9 hs6, rfl, rfl, ⟨by omega, by omega⟩, hO7.own.ix hp0 hp1, hO7.own.wr elt_Entry.len hO7.nb hp0 hp1 (j := 1) (by decide), fun wr8 hx10 => fin' _ _ _ q.es _ _ _ _ (wrs S7 hO7 _ _) (by omega) ⟨own_v hO7.own hp0 hp1 _, hO7.nb⟩ l2 hx10⟩
  · have S6 := S5.put hx8 hb2
    have hO6 := hO5.put hx8 hb2
    refine (k_pick S6.rd (by omega)).mono fun e w5 ⟨v, he, hv, hR5, hx9⟩ => ?_
    have hv0 := hv.1
    have hv1 := hv.2.2 (by decide)
    have S7 := S6.draw hR5 hx9
    have hO7 := S6.ob hO6 hx9
    have hx' : ∃ x : Int, 0 ≤ v ∧ ([.int .i64 0, .int .i64 21, .int .i64 (-1)] : List Value)[Int.toNat v + 0]? = some (.int .i64 x) := by
      have : v = 0 ∨ v = 1 ∨ v = 2 := by omega
      rcases this with rfl | rfl | rfl <;> exact ⟨_, by decide, rfl⟩
    obtain ⟨x, hx'⟩ := hx'
    exact ⟨v, he, S6.kept hx9 hs6, rfl, ⟨by omega, by omega⟩, x, hx', hO7.own.ix hp0 hp1, hO7.own.wr elt_Entry.len hO7.nb hp0 hp1 (j := 2) (by decide), fun wr8 hx10 => fin' _ _ _ q.es _ _ _ _ (wrs S7 hO7 _ _) (by omega) ⟨own_w hO7.own hp0 hp1 _, hO7.nb⟩ l2 hx10⟩
  · have S6 := S5.step hx8
    have hO6 := hO5.step hx8
    refine (k_pick S6.rd (by omega)).mono fun e w5 ⟨v, he, hv, hR5, hx9⟩ => ?_
    have hv0 := hv.1
    have hv1 := hv.2.2 (by decide)
    have S7 := S6.draw hR5 hx9
    have hO7 := S6.ob hO6 hx9
    have hx' : ∃ x : Int, 0 ≤ v ∧ ([.int .i64 0, .int .i64 21, .int .i64 (-1)] : List Value)[Int.toNat v + 0]? = some (.int .i64 x) := by
      have : v = 0 ∨ v = 1 ∨ v = 2 := by omega
      rcases this with rfl | rfl | rfl <;> exact ⟨_, by decide, rfl⟩
    obtain ⟨x, hx'⟩ := hx'
    exact ⟨v, he, S6.kept hx9 hs6, rfl, fun b3 hb3 => ⟨rfl, ⟨by omega, by omega⟩, x, hx', hO7.own.ix hp0 hp1, hO7.own.wr elt_Entry.len hO7.nb hp0 hp1 (j := 2) (by decide), fun wr8 hx10 => fin' _ _ _ q.es _ _ _ _ (wrs S7 hO7 _ _) (by omega) ⟨own_w hO7.own hp0 hp1 _, hO7.nb⟩ l2 hx10⟩⟩
  · have S6 := S5.step hx8
    refine (k_pick S6.rd (by omega)).mono fun e w5 ⟨v, he, hv, hR5, hx9⟩ => ?_
    have hv0 := hv.1
    have hv1 := hv.2.2 (by omega)
    exact ⟨v, he, S6.kept hx9 hs6, ⟨by omega, by omega⟩, fun wr6 hx10 => fin _ _ _ q.es _ _ (S6.draw hR5 hx9) (by omega) (S6.ob (hO5.step hx8) hx9) l2 hx10⟩
  · have S6 := S5.step hx8
    exact (k_pick S6.rd (by omega)).mono fun e w5 ⟨v, he, hv, hR5, hx9⟩ => ⟨v, he, S6.kept hx9 hs6, fun wr6 hx10 => fin _ _ _ q.es _ _ (S6.draw hR5 hx9) (by omega) (S6.ob (hO5.step hx8) hx9) l2 hx10⟩
  · exact fin' _ _ _ q.es _ _ _ _ (wrs S5 hO5 _ _) (by omega) ⟨own_on hO5.own hp0 hp1 _, hO5.nb⟩ l2 hx8
  · exact fin' _ _ _ q.es _ _ _ _ (wrs S5 hO5 _ _) (by omega) ⟨own_sum hO5.own hp0 hp1 _, hO5.nb⟩ l2 hx8
  · exact fin _ _ _ [] none 0 S5 (by omega) ⟨own_nil, by simp [blkOf]⟩ (by simp) hx8
  · refine ⟨fun vs w1 => ∃ (j : Nat) (es : List Ent), vs = [.int .i64 (j : Int)] ∧ j ≤ q.es.length ∧ es.length = q.es.length ∧ (∀ m : Nat, j ≤ m → m < q.es.length → gi es (m : Int) = gi q.es (m : Int)) ∧ SR rb c L w w.heap.size (N + 1010) [b, b1] w1 ∧ ObE w.heap.size [b, b1] w1 o cq es, cntMw q.es.length 0,
      fun wr20 hx8 _ => ⟨0, q.es, rfl, Nat.zero_le _, rfl, fun _ _ _ => rfl, (S5.step hx8).mono (by omega), hO5.step hx8⟩, ?_⟩
    rintro i w11 hs11 ⟨j, es, he, hj, hle, hsame, S6, hO6⟩
    simp only [List.cons.injEq, Value.int.injEq, true_and, and_true] at he
    subst he
    refine ⟨fun hlt => ?_, fun hge => ⟨⟨by omega, by omega⟩, ⟨by omega, by omega⟩, fun wr22 hx8 => ?_⟩⟩
    · have hlt := of_decide_eq_true hlt
      have hjl : (j : Int) < (es.length : Int) := by omega
      have hr := (hO6.rd elt_Entry.len) j (by omega) hjl
      have ixj := hO6.own.ix (i := (j : Int)) (by omega) hjl
      rw [hle] at ixj
      have ej := hq.es (j : Int) (by omega) hlt
      have e1 := ej.v1
      have e2 := ej.v2
      have hv : (gi es (j : Int)).v = (gi q.es (j : Int)).v := by rw [hsame j (Nat.le_refl _) (by omega)]
      rw [← hv] at e1 e2
      refine ⟨ixj, _, hr.2.1, ⟨by omega, by omega⟩, ⟨by omega, by omega⟩, ixj, hO6.own.wr elt_Entry.len hO6.nb (by omega) hjl (j := 1) (by decide), ⟨by omega, by omega⟩, fun wr21 hx9 _ => ⟨⟨j + 1, es.set (j : Int).toNat ⟨(gi es (j : Int)).on, (gi es (j : Int)).v + 100000000000000000 - 5000000000, (gi es (j : Int)).w, (gi es (j : Int)).sum⟩, by simp, by omega, by simpa using hle, fun m hm hm2 => ?_, (S6.own hO6.own (hO6.own.stoX _ _)).step hx9, (show ObE w.heap.size [b, b1] _ o cq _ from ⟨own_v hO6.own (by omega) hjl _, hO6.nb⟩).step hx9⟩, cntM_lt (k := j) rfl rfl (by omega)⟩⟩
      rw [gi_set _ _ (by omega) hjl (by omega), if_neg (by omega)]
      exact hsame m (by omega) hm2
    · have := fin (q.floor + 100000000000000000 - 5000000000) q.cur q.ran es o cq S6 (by omega) hO6 (by omega) hx8
      rwa [hle] at this
end
theorem k_spec_DrawQueuePlay {c : Option Addr} {L C : Nat} {w : World} (h : Bytes c L w) (hC : L ≤ C) :
    Calls Try.prog fn_spec_DrawQueuePlay #[.slice c L C] w fun e w' => ∃ (q : Que) (o : Option Addr) (cq : Nat) (ops : List QOp) (po : Option Addr) (pc : Nat), e = .returned (.tuple #[.agg (encQ q o cq).toArray, .slice po ops.length pc]) ∧ q.es.length ≤ 20 ∧ ops.length ≤ 30 ∧
      Own encE 4 ty_impl_Entry w.heap.size w' o cq q.es ∧ Own encO 3 ty_impl_QueueOp w.heap.size w' po pc ops ∧ ExtX [] w w' := by
  refine (e_spec_DrawQueuePlay c L C (R := fun v w' => ∃ (q : Que) (o : Option Addr) (cq : Nat) (ops : List QOp) (po : Option Addr) (pc : Nat), v = .tuple #[.agg (encQ q o cq).toArray, .slice po ops.length pc] ∧ q.es.length ≤ 20 ∧ ops.length ≤ 30 ∧
      Own encE 4 ty_impl_Entry w.heap.size w' o cq q.es ∧ Own encO 3 ty_impl_QueueOp w.heap.size w' po pc ops ∧ ExtX [] w w') ?_).mono fun e w' ⟨v, he, q, o, cq, ops, po, pc, hv, h1⟩ => ⟨q, o, cq, ops, po, pc, by rw [he, hv], h1⟩
  intro b hb wr hx hs
  refine (k_l20OpenB (h.ext hx) hC).mono fun e wv ⟨rb, c', L', he, hrb, hR, hx1, hc'⟩ => ⟨_, he, kept_of hx1 hs, fun wr1 hy1 hs1 => ?_⟩
  have fb : FarR rb c' L' b := ⟨by have := hs b (by simp); omega, fun a ha e => by
    rcases hc' a ha with h1 | ⟨h1, a0, h2, h3⟩
    · exact h1
    · obtain ⟨a1, x, ha1, _, _, hcl⟩ := h 0 h1
      rw [h2] at ha1; cases ha1
      have := World.block_lt_of_cell? w _ hcl
      rw [add_block] at this
      omega⟩
  have S0 : SR rb c' L' w wv.heap.size 0 [b] wv := ⟨hR, (hx.trans hx1).size, Nat.le_refl _, fun _ hx => hR.new hx, by simpa using fb, by simpa using hb, (hx.trans hx1).of_nil⟩
  have new : ∀ {w' : World}, ExtX [rb] w w' → ExtX [] w w' := fun {w'} hX => (ExtX.refl [] w).fresh hX fun x hm => .inl (by
    have : x = rb := by simpa using hm
    have := hx.size
    omega)
  have S1 := S0.step hy1
  refine (k_spoilt S1.rd (by omega)).mono fun e wv1 ⟨q, o, cq, he, hq20, hO, hR1, hx2⟩ => ⟨_, _, _, _, _, _, he, S1.kept hx2 hs1, fun b1 hb1 wr2 hx3 hs2 => ?_⟩
  have S2 := (S1.draw hR1 hx2).put hx3 hb1
  have hO2 : ObE wv.heap.size [b, b1] wr2 o cq q.es := ((Ob.of hO hs1).mono S1.bw).put hx3 hb1
  refine (k_pick S2.rd (by omega)).mono fun e wv2 ⟨p, he, hp, hR2, hx4⟩ => ⟨p, he, S2.kept hx4 hs2, ?_⟩
  have hp0 := hp.1
  have hp1 := hp.2.2 (by decide)
  have S3 := S2.draw hR2 hx4
  have hO3 := S2.ob hO2 hx4
  refine ⟨fun vs w1 => ∃ (k : Nat) (ops : List QOp) (po : Option Addr) (pc : Nat), vs = [.slice po ops.length pc, .int .i64 (k : Int)] ∧ ops.length = k ∧ (k : Int) ≤ p ∧ SR rb c' L' w wv.heap.size (1101 + 12 * k) [b, b1] w1 ∧ ObE wv.heap.size [b, b1] w1 o cq q.es ∧ ObO wv.heap.size [b, b1] w1 po pc ops, cntMw p.toNat 1,
    fun wr3 hx5 _ => ⟨0, [], none, 0, rfl, rfl, by omega, (S3.step hx5).mono (by omega), hO3.step hx5, ⟨own_nil, by simp [blkOf]⟩⟩, ?_⟩
  rintro o1 L1 C1 i w3 hs3 ⟨k, ops, po, pc, he, hlen, hk, S4, hO4, hP4⟩
  simp only [List.cons.injEq, Value.int.injEq, Value.slice.injEq, true_and, and_true] at he
  obtain ⟨⟨rfl, rfl, rfl⟩, rfl⟩ := he
  refine ⟨fun hlt => ⟨_, k_spec_l1Max, fun wr4 hx5 hs4 => ?_⟩, fun hge wr11 hx11 => ⟨q, o, cq, ops, o1, C1, rfl, hq20, by omega, (hO4.step hx11).own.mono S0.hb, (hP4.step hx11).own.mono S0.hb, new (S4.step hx11).ext⟩⟩
  have hlt := of_decide_eq_true hlt
  have S5 := S4.step hx5
  have hO5 := hO4.step hx5
  have hP5 := hP4.step hx5
  refine (k_op S5.rd (by omega)).mono fun e w5 ⟨op, he, hR5, hx8⟩ => ⟨op.kind, op.at', op.n, he, S5.kept hx8 hs4, fun b2 hb2 wr9 hx9 hs6 hcell => ?_⟩
  have S7 := (S5.draw hR5 hx8).put hx9 hb2
  have hO7 := (S5.ob hO5 hx8).put hx9 hb2
  have hP7 := (S5.ob hP5 hx8).put hx9 hb2
  obtain ⟨o2, c2, w8, hrun, hk8, hP8, hx10⟩ := hP7.app1 elt_QueueOp u_sl_impl_QueueOp (x := op) hs6 S7.bw hcell (oneO _) (by omega) (by decide) ty_sl_impl_QueueOp #[false, false]
  have S8 := S7.own hP7.own hx10
  have hO8 := hO7.call hx10 (hO7.own.ty_ne hP7.own (by decide))
  exact ⟨_, _, _, w8, hrun, hk8, ⟨by omega, by omega⟩, fun wr10 hx11 _ => ⟨⟨k + 1, ops ++ [op], o2, c2, by simp, by simp [hlen], by omega, ((S8.step hx11).mono (by omega)).sub (by simp), (hO8.step hx11).sub (by simp), (hP8.step hx11).sub (by simp)⟩, cntM_lt (k := k) rfl rfl (by omega)⟩⟩
end Go.Proofs.Ythihcdljmddgfaa
