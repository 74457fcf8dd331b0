/- The law FnQueueTop: it returns true. -/
import Derived.Test.YthihcdljmddgfaaGoodQ
import Derived.Test.YthihcdljmddgfaaEqv
namespace Go.Proofs.Ythihcdljmddgfaa
open Go.RowKit
set_option maxRecDepth 10000

theorem flat_Entry : FlatT Try.prog ty_impl_Entry := ⟨by kernel_rfl, by kernel_rfl, by kernel_rfl⟩
theorem fe_Entry (a b : Ent) : flatE Try.prog (Try.prog.fieldsOf ty_impl_Entry).toList 0 (encE a) (encE b) = some ((a.on == b.on) && ((a.v == b.v) && ((a.w == b.w) && ((a.sum == b.sum) && true)))) := by kernel_rfl
theorem k_stQueue {a b : Que} {aO bO : Option Addr} {aC bC : Nat} {w : World} {bs : List Nat} (ha : RdE bs w aO a.es) (hb : RdE bs w bO b.es) (hl : a.es.length ≤ maxLen) :
    PureX bs Try.prog fn_laws_stQueue #[.agg (encQ a aO aC).toArray, .agg (encQ b bO bC).toArray] w (.bool (decide (a = b))) :=
  p_laws_stQueue a.floor a.cur a.ran aO a.es.length aC b.floor b.cur b.ran bO b.es.length bC fun wr hx => by
    have ha := (ha.ext hx).less (cs := []) (by simp)
    have hb := (hb.ext hx).less (cs := []) (by simp)
    intro b1 _ b4 _
    refine ⟨fun g => ?_, fun g => ?_⟩
    · have : ¬ a = b := fun e => by
        rw [e] at g
        simp at g
      rw [decide_eq_false this]
    · simp only [Bool.or_eq_false_iff, bne_eq_false_iff_eq] at g
      obtain ⟨⟨⟨g1, g2⟩, g3⟩, g4⟩ := g
      have hlen : a.es.length = b.es.length := by omega
      refine loop1 a.es.length 0 rfl (fun k => k ≤ a.es.length ∧ ∀ j : Nat, j < k → gi a.es (j : Int) = gi b.es (j : Int)) ⟨Nat.zero_le _, fun j hj => absurd hj (Nat.not_lt_zero j)⟩ fun k ⟨hk, hI⟩ => ⟨fun hlt => ?_, fun hge => ?_⟩
      · have hlt := of_decide_eq_true hlt
        have hlt' : (k : Int) < (b.es.length : Int) := by omega
        refine ⟨ha.ix encE_c (by omega) hlt, _, _, _, _, ha k (by omega) hlt, hb.ix encE_c (by omega) hlt', _, _, _, _, hb k (by omega) hlt', _, fun wq => run_neq_of flat_Entry (fe_Entry _ _) _ _ wq, fun g5 => ?_, fun g5 => ⟨inR_nat hlt hl, loop1_next (by omega) ⟨by omega, fun j hj => ?_⟩⟩⟩
        · have : ¬ a = b := fun e => by
            rw [e] at g5
            simp at g5
          rw [decide_eq_false this]
        · by_cases hjk : j < k
          · exact hI j hjk
          · have : j = k := by omega
            subst this
            simp only [Bool.and_true, Bool.not_eq_false', Bool.and_eq_true, beq_iff_eq] at g5
            obtain ⟨e1, e2, e3, e4⟩ := g5
            cases hx1 : gi a.es (j : Int)
            cases hx2 : gi b.es (j : Int)
            rw [hx1, hx2] at e1 e2 e3 e4
            simp only at e1 e2 e3 e4
            rw [e1, e2, e3, e4]
      · have hge := of_decide_eq_false hge
        have hes : a.es = b.es := gi_ext hlen fun j hj => hI j (by omega)
        have : a = b := by
          cases a; cases b
          simp only at g1 g2 g3 hes
          rw [g1, g2, g3, hes]
        rw [decide_eq_true this]

/-! ### Side by side -/
structure TopI (ia ib : Int) (q old : Que) : Prop where
  ok : queOk old = true
  len : old.es.length = q.es.length
  a1 : (gi old.es ia).on = true
  b1 : (gi old.es ib).on = true
  a2 : (gi q.es ia).on = true
  b2 : (gi q.es ib).on = true
  wa : (gi q.es ia).w = (gi old.es ia).w
  wb : (gi q.es ib).w = (gi old.es ib).w
  ga : ((gi q.es ia).sum - (gi old.es ia).sum) * stp (gi old.es ia).w = (gi q.es ia).v - (gi old.es ia).v
  gb : ((gi q.es ib).sum - (gi old.es ib).sum) * stp (gi old.es ib).w = (gi q.es ib).v - (gi old.es ib).v
theorem top_refl {ia ib : Int} {q : Que} (h : queOk q = true) (a1 : (gi q.es ia).on = true) (b1 : (gi q.es ib).on = true) : TopI ia ib q q :=
  ⟨h, rfl, a1, b1, a1, b1, rfl, rfl, by rw [Int.sub_self, Int.zero_mul, Int.sub_self], by rw [Int.sub_self, Int.zero_mul, Int.sub_self]⟩
theorem gain_add {s0 s1 s2 v0 v1 v2 p : Int} (h1 : (s1 - s0) * p = v1 - v0) (h2 : (s2 - s1) * p = v2 - v1) : (s2 - s0) * p = v2 - v0 := by
  have : s2 - s0 = (s2 - s1) + (s1 - s0) := by omega
  rw [this, Int.add_mul, h1, h2]; omega
theorem top_step {ia ib : Int} {q old : Que} {op : QOp} (h : TopI ia ib q old) (hq : queOk q = true) (h0 : 0 ≤ ia) (h1 : ia < (q.es.length : Int)) (h2 : 0 ≤ ib) (h3 : ib < (q.es.length : Int))
    (a1 : (gi (doQ q op).1.es ia).on = true) (b1 : (gi (doQ q op).1.es ib).on = true) (wa : (gi (doQ q op).1.es ia).w = (gi old.es ia).w) (wb : (gi (doQ q op).1.es ib).w = (gi old.es ib).w) : TopI ia ib (doQ q op).1 old := by
  have ga := do_gain (op := op) hq h0 h1 h.a2 a1 (by rw [wa, h.wa])
  have gb := do_gain (op := op) hq h2 h3 h.b2 b1 (by rw [wb, h.wb])
  rw [h.wa] at ga
  rw [h.wb] at gb
  exact ⟨h.ok, by rw [h.len, do_len hq], h.a1, h.b1, a1, b1, wa, wb, gain_add h.ga ga, gain_add h.gb gb⟩
theorem top_apart {ia ib : Int} {q old : Que} (h : TopI ia ib q old) (hq : queOk q = true) (h0 : 0 ≤ ia) (h1 : ia < (q.es.length : Int)) (h2 : 0 ≤ ib) (h3 : ib < (q.es.length : Int)) :
    ((gi q.es ia).sum - (gi old.es ia).sum) * (gi q.es ib).w - ((gi q.es ib).sum - (gi old.es ib).sum) * (gi q.es ia).w ≤ 149 * ((gi q.es ia).w + (gi q.es ib).w) ∧
    ((gi q.es ib).sum - (gi old.es ib).sum) * (gi q.es ia).w - ((gi q.es ia).sum - (gi old.es ia).sum) * (gi q.es ib).w ≤ 149 * ((gi q.es ib).w + (gi q.es ia).w) := by
  have Q := queOk_iff.1 hq
  have O := queOk_iff.1 h.ok
  have l := h.len
  have qa := Q.es ia h0 h1
  have qb := Q.es ib h2 h3
  have oa := O.es ia h0 (by omega)
  have ob := O.es ib h2 (by omega)
  have qa' := qa.on h.a2
  have qb' := qb.on h.b2
  have oa' := oa.on h.a1
  have ob' := ob.on h.b1
  have la : lagMost (gi q.es ia).w = 149 * stp (gi q.es ia).w := vstep_in (by omega) (by omega) qa.w1 qa.w2
  have lb : lagMost (gi q.es ib).w = 149 * stp (gi q.es ib).w := vstep_in (by omega) (by omega) qb.w1 qb.w2
  have ga := h.ga
  have gb := h.gb
  rw [← h.wa] at ga oa'
  rw [← h.wb] at gb ob'
  rw [la] at qa' oa'
  rw [lb] at qb' ob'
  exact ⟨apart_le qa.w1 qa.w2 qb.w1 qb.w2 (p := ((gi q.es ia).sum - (gi old.es ia).sum) * stp (gi q.es ia).w - ((gi q.es ib).sum - (gi old.es ib).sum) * stp (gi q.es ib).w) rfl (by rw [ga, gb]; omega),
    apart_le qb.w1 qb.w2 qa.w1 qa.w2 (p := ((gi q.es ib).sum - (gi old.es ib).sum) * stp (gi q.es ib).w - ((gi q.es ia).sum - (gi old.es ia).sum) * stp (gi q.es ia).w) rfl (by rw [ga, gb]; omega)⟩
theorem mul20 {d w : Int} (h1 : -100000000000000000 ≤ d) (h2 : d ≤ 100000000000000000) (h3 : 1 ≤ w) (h4 : w ≤ 20) : -2000000000000000000 ≤ d * w ∧ d * w ≤ 2000000000000000000 := by
  have a := Int.mul_le_mul_of_nonneg_right h2 (show (0 : Int) ≤ w by omega)
  have b := Int.mul_le_mul_of_nonneg_right h1 (show (0 : Int) ≤ w by omega)
  omega

/-- What is held while the deeds are done. -/
structure TS (w0 : World) (bs : List Nat) (w : World) (q old : Que) (oq : Option Addr) (cq : Nat) (oo : Option Addr) (co : Nat) (ops : List QOp) (po : Option Addr) (pc : Nat) : Prop where
  s : Sc w0 bs w
  q : ObE w0.heap.size bs w oq cq q.es
  o : ObE w0.heap.size bs w oo co old.es
  p : ObO w0.heap.size bs w po pc ops
section
variable {w0 : World} {bs cs : List Nat} {w w' : World} {q old : Que} {oq : Option Addr} {cq : Nat} {oo : Option Addr} {co : Nat} {ops : List QOp} {po : Option Addr} {pc : Nat} {b b2 : Nat}
theorem TS.step (h : TS w0 bs w q old oq cq oo co ops po pc) (hx : ExtX bs w w') : TS w0 bs w' q old oq cq oo co ops po pc := ⟨h.s.step hx, h.q.step hx, h.o.step hx, h.p.step hx⟩
theorem TS.call0 (h : TS w0 bs w q old oq cq oo co ops po pc) (hx : ExtX [] w w') : TS w0 bs w' q old oq cq oo co ops po pc := ⟨h.s.call0 hx, h.q.call0 hx, h.o.call0 hx, h.p.call0 hx⟩
theorem TS.put (h : TS w0 bs w q old oq cq oo co ops po pc) (hx : ExtX bs w w') (hb : w.heap.size ≤ b) : TS w0 (bs ++ [b]) w' q old oq cq oo co ops po pc := ⟨h.s.put hx hb, h.q.put hx hb, h.o.put hx hb, h.p.put hx hb⟩
theorem TS.put2 (h : TS w0 bs w q old oq cq oo co ops po pc) (hx : ExtX bs w w') (hb : w.heap.size ≤ b) (hb2 : w.heap.size ≤ b2) : TS w0 (bs ++ [b] ++ [b2]) w' q old oq cq oo co ops po pc := ⟨h.s.put2 hx hb hb2, h.q.put2 hx hb hb2, h.o.put2 hx hb hb2, h.p.put2 hx hb hb2⟩
theorem TS.sub (h : TS w0 bs w q old oq cq oo co ops po pc) (hs : ∀ x ∈ cs, x ∈ bs) : TS w0 cs w q old oq cq oo co ops po pc := ⟨h.s.sub hs, h.q.sub hs, h.o.sub hs, h.p.sub hs⟩
end
theorem k_FnQueueTop {c : Option Addr} {L C : Nat} {c2 : Option Addr} {L2 C2 : Nat} {w : World} (h : Bytes c L w) (hC : L ≤ C) (h2 : Bytes c2 L2 w) (_ : L2 ≤ C2) :
    Calls Try.prog fn_laws_FnQueueTop #[.slice c L C, .slice c2 L2 C2] w fun e w' => e = .returned (.bool true) ∧ ExtX [] w w' := by
  refine (e_laws_FnQueueTop c L C c2 L2 C2 (R := fun v w' => v = .bool true ∧ ExtX [] w w') ?_).mono fun e w' ⟨v, he, hv, h3⟩ => ⟨by rw [he, hv], h3⟩
  refine ⟨fun _ wr hx => ⟨rfl, hx⟩, fun _ wr1 hx1 hs1 => (k_spec_GoodQueue (h.ext hx1) hC).mono fun e wv ⟨q0, o, cq, ops, po, pc, he, hq0, hopl, hO, hP, hy1⟩ => ⟨_, _, _, _, _, _, _, _, _, he, kept_nil, fun b hb => ?_⟩⟩
  have Q0 := queOk_iff.1 hq0
  have hl1 := Q0.l1
  have hl2 := Q0.l2
  have s1 : Sc w [] wv := (Sc.start w).call0 (hx1.trans hy1)
  obtain ⟨va, va0, va1, hva⟩ := k_stByte (C := C2) (i := 0) h2 s1 (by decide) (by decide)
  obtain ⟨vb, vb0, vb1, hvb⟩ := k_stByte (C := C2) (i := 1) h2 s1 (by decide) (by decide)
  refine ⟨va, hva, by omega, vb, hvb, by omega, fun b1 hb1 => ?_⟩
  have ha0 := Int.tmod_nonneg (a := va) (q0.es.length : Int) va0
  have ha1 := Int.tmod_lt_of_pos va (b := (q0.es.length : Int)) (by omega)
  have hb0 := Int.tmod_nonneg (a := vb) (q0.es.length : Int) vb0
  have hbl := Int.tmod_lt_of_pos vb (b := (q0.es.length : Int)) (by omega)
  generalize Int.tmod va (q0.es.length : Int) = ia at ha0 ha1 ⊢
  generalize Int.tmod vb (q0.es.length : Int) = ib at hb0 hbl ⊢
  have T0 : TS w [] wv q0 zeroQ o cq none 0 ops po pc := ⟨s1, ⟨hO.mono hx1.size, by simp⟩, ⟨own_nil, by simp⟩, ⟨hP.mono hx1.size, by simp⟩⟩
  refine ⟨fun vs w1 => ∃ (fr : Int) (k : Nat) (q old : Que) (oq : Option Addr) (cq : Nat) (oo : Option Addr) (co : Nat), vs = [.int .i64 fr, .int .i64 (k : Int), .int .i64 q.floor, .int .i64 q.cur, .int .i64 q.ran, .slice oq q.es.length cq, .int .i64 old.floor, .int .i64 old.cur, .int .i64 old.ran, .slice oo old.es.length co] ∧
      k ≤ ops.length ∧ queOk q = true ∧ q.es.length = q0.es.length ∧ (0 ≤ fr → TopI ia ib q old) ∧ TS w [b, b1] w1 q old oq cq oo co ops po pc, cntMw ops.length 1,
    fun wr28 hx28 _ => ⟨-1, 0, q0, zeroQ, o, cq, none, 0, rfl, Nat.zero_le _, hq0, rfl, fun hc => by omega, T0.put2 hx28 hb hb1⟩, ?_⟩
  rintro fr i2 f1 c1 r1 oq Lq Cq f2 c2' r2 oo Lo Co w3 hs3 ⟨fr', k, q, old, oq', cq', oo', co', he, hk, hq, hlen, hI, T⟩
  simp only [List.cons.injEq, Value.int.injEq, Value.slice.injEq, true_and, and_true] at he
  obtain ⟨rfl, rfl, rfl, rfl, rfl, ⟨rfl, rfl, rfl⟩, rfl, rfl, rfl, rfl, rfl, rfl⟩ := he
  refine ⟨fun hlt => ?_, fun hge wr46 hx46 => ⟨rfl, (T.step hx46).s.ext⟩⟩
  have hlt := of_decide_eq_true hlt
  have hk0 : (0 : Int) ≤ (k : Int) := by omega
  generalize hX : (doQ q (gi ops (k : Int))).1 = X
  generalize hB : (doQ q (gi ops (k : Int))).2 = B
  have hXok : queOk X = true := by rw [← hX]; exact do_ok hq _
  have hXlen : X.es.length = q0.es.length := by rw [← hX, do_len hq, hlen]
  have hql : q.es.length ≤ 1048576 := by omega
  have hm9 := maxLen_big
  have elt := @elt_Entry
  refine ⟨fun vs bs w1 => ∃ (ox : Option Addr) (cx b20 : Nat), vs = [.bool B, .int .i64 X.floor, .int .i64 X.cur, .int .i64 X.ran, .slice ox X.es.length cx] ∧ bs = [b20] ∧ TS w [b, b1, b20] w1 q old oq Cq oo Co ops po pc ∧ ObE w.heap.size [b, b1, b20] w1 ox cx X.es, ⟨T.p.own.ix hk0 hlt, _, _, _, (T.p.rd elt_QueueOp.len) k hk0 hlt, fun wr29 hx29 hs29 => ?_, fun b19 hb19 => ⟨(T.p.rd elt_QueueOp.len) k hk0 hlt, rfl, fun wr31 hx31 hs31 => ?_⟩⟩, ?_⟩
  · have T1 := T.step hx29
    refine (k_impl_QueueDo (op := gi ops (k : Int)) (T1.q.rd0 elt_Entry.len) hql).mono fun e w24 ⟨v, he, ox, cx, hv, hOx, hy⟩ => ?_
    subst hv
    rw [hX] at hOx he
    rw [hB] at he
    have T2 := T1.call0 hy
    exact ⟨_, _, _, _, _, _, _, he, kept_of hy hs29, fun b18 hb18 => ⟨(T2.p.rd elt_QueueOp.len) k hk0 hlt, rfl, fun wr30 hx30 _ => ⟨ox, cx, b18, rfl, rfl, T2.put hx30 hb18, ((Ob.of hOx hs29).mono T1.s.ext.size).put hx30 hb18⟩⟩⟩
  · have T1 := T.put hx31 hb19
    refine (k_impl_QueueDo (op := gi ops (k : Int)) (T1.q.rd0 elt_Entry.len) hql).mono fun e w24 ⟨v, he, ox, cx, hv, hOx, hy⟩ => ?_
    subst hv
    rw [hX] at hOx he
    rw [hB] at he
    have T2 := T1.call0 hy
    exact ⟨_, _, _, _, _, _, _, he, kept_of hy hs31, fun wr32 hx32 _ => ⟨ox, cx, b19, rfl, rfl, T2.step hx32, ((Ob.of hOx hs31).mono T1.s.ext.size).step hx32⟩⟩
  rintro ok2 l32 l33 l34 ox L35 cx b20 w26 hs26 ⟨ox', cx', b20', he, hbe, T, hOX⟩
  simp only [List.cons.injEq, Value.int.injEq, Value.bool.injEq, Value.slice.injEq, true_and, and_true] at he hbe
  obtain ⟨rfl, rfl, rfl, rfl, rfl, rfl, rfl⟩ := he
  subst hbe
  refine ⟨fun vs bs w1 => ∃ (oy : Option Addr) (cy b23 : Nat), vs = [.bool ok2, .int .i64 X.floor, .int .i64 X.cur, .int .i64 X.ran, .slice oy X.es.length cy] ∧ bs = [b23] ∧ TS w [b, b1, b20, b23] w1 q old oq Cq oo Co ops po pc ∧ ObE w.heap.size [b, b1, b20, b23] w1 ox cx X.es ∧ ObE w.heap.size [b, b1, b20, b23] w1 oy cy X.es, ⟨T.p.own.ix hk0 hlt, _, _, _, (T.p.rd elt_QueueOp.len) k hk0 hlt, fun wr33 hx33 hs33 => ?_, fun b22 hb22 => ⟨(T.p.rd elt_QueueOp.len) k hk0 hlt, rfl, fun wr35 hx35 hs35 => ?_⟩⟩, ?_⟩
  · have T1 := T.step hx33
    have hO1 := hOX.step hx33
    refine (k_spec_QueueDo (op := gi ops (k : Int)) (T1.q.rd0 elt_Entry.len)).mono fun e w24 ⟨v, he, oy, cy, hv, hOy, hy⟩ => ?_
    subst hv
    rw [hX] at hOy he
    rw [hB] at he
    have T2 := T1.call0 hy
    exact ⟨_, _, _, _, _, _, _, he, kept_of hy hs33, fun b21 hb21 => ⟨(T2.p.rd elt_QueueOp.len) k hk0 hlt, rfl, fun wr34 hx34 _ => ⟨oy, cy, b21, rfl, rfl, T2.put hx34 hb21, (hO1.call0 hy).put hx34 hb21, ((Ob.of hOy hs33).mono T1.s.ext.size).put hx34 hb21⟩⟩⟩
  · have T1 := T.put hx35 hb22
    have hO1 := hOX.put hx35 hb22
    refine (k_spec_QueueDo (op := gi ops (k : Int)) (T1.q.rd0 elt_Entry.len)).mono fun e w24 ⟨v, he, oy, cy, hv, hOy, hy⟩ => ?_
    subst hv
    rw [hX] at hOy he
    rw [hB] at he
    have T2 := T1.call0 hy
    exact ⟨_, _, _, _, _, _, _, he, kept_of hy hs35, fun wr36 hx36 _ => ⟨oy, cy, b22, rfl, rfl, T2.step hx36, (hO1.call0 hy).step hx36, ((Ob.of hOy hs35).mono T1.s.ext.size).step hx36⟩⟩
  rintro fine2 l36 l37 l38 oy L39 cy b23 w29 hs29 ⟨oy', cy', b23', he, hbe, T, hOX, hOY⟩
  simp only [List.cons.injEq, Value.int.injEq, Value.bool.injEq, Value.slice.injEq, true_and, and_true] at he hbe
  obtain ⟨rfl, rfl, rfl, rfl, rfl, rfl, rfl⟩ := he
  subst hbe
  have iax : ia < (X.es.length : Int) := by omega
  have ibx : ib < (X.es.length : Int) := by omega
  refine ⟨queOk X, fun _ => k_impl_QueueOk (hOX.rd elt_Entry.len) (by omega), decide (X = X), fun _ => k_stQueue (hOX.rd elt_Entry.len) (hOY.rd elt_Entry.len) (by omega), fun g => ?_, fun _ => ⟨hOY.own.ix ha0 iax, _, _, _, _, (hOY.rd elt_Entry.len) ia ha0 iax, fun b24 hb24 => ⟨hOY.own.ix hb0 ibx, _, _, _, _, (hOY.rd elt_Entry.len) ib hb0 ibx, fun b25 hb25 => ?_⟩⟩⟩
  · rw [hXok] at g; simp at g
  have oldlen : 0 ≤ fr → ia < (old.es.length : Int) ∧ ib < (old.es.length : Int) := fun hf => by
    have := (hI hf).len
    omega
  refine ⟨fun vs bs w1 => ∃ fr1 : Int, vs = [.int .i64 fr1] ∧ bs = [] ∧ (0 ≤ fr1 → 0 ≤ fr ∧ (gi X.es ia).on = true ∧ (gi X.es ib).on = true ∧ (gi X.es ia).w = (gi old.es ia).w ∧ (gi X.es ib).w = (gi old.es ib).w) ∧ TS w [b, b1, b20, b23, b24, b25] w1 q old oq Cq oo Co ops po pc ∧ ObE w.heap.size [b, b1, b20, b23, b24, b25] w1 ox cx X.es ∧ ObE w.heap.size [b, b1, b20, b23, b24, b25] w1 oy cy X.es,
    ⟨fun _ hf => T.o.own.ix ha0 (oldlen (of_decide_eq_true hf)).1, (gi old.es ia).w, fun _ hf => ((T.o.rd elt_Entry.len) ia ha0 (oldlen (of_decide_eq_true hf)).1).2.2.1, fun _ hf => T.o.own.ix hb0 (oldlen (of_decide_eq_true hf)).2, (gi old.es ib).w, fun _ hf => ((T.o.rd elt_Entry.len) ib hb0 (oldlen (of_decide_eq_true hf)).2).2.2.1,
      fun g wr38 hx38 _ => ⟨-1, rfl, rfl, fun hc => by omega, T.put2 hx38 hb24 hb25, hOX.put2 hx38 hb24 hb25, hOY.put2 hx38 hb24 hb25⟩, fun g wr39 hx39 _ => ⟨fr, rfl, rfl, fun hc => ?_, T.put2 hx39 hb24 hb25, hOX.put2 hx39 hb24 hb25, hOY.put2 hx39 hb24 hb25⟩⟩, ?_⟩
  · rw [decide_eq_true (show fr ≥ 0 from hc)] at g
    simp only [Bool.true_and, Bool.or_eq_false_iff, Bool.not_eq_false', bne_eq_false_iff_eq] at g
    exact ⟨hc, g.1.1.1, g.1.1.2, g.1.2, g.2⟩
  rintro fr1 w32 hs32 ⟨fr1', he, -, hfr1, T, hOX, hOY⟩
  simp only [List.cons.injEq, Value.int.injEq, true_and, and_true] at he
  subst he
  have TY : ∀ {w' : World}, ExtX [b, b1, b20, b23, b24, b25] w32 w' → TS w [b, b1, b20, b23, b24, b25] w' X X oy cy oy cy ops po pc := fun {w'} hx => ⟨T.s.step hx, hOY.step hx, hOY.step hx, T.p.step hx⟩
  have TO : ∀ {w' : World}, ExtX [b, b1, b20, b23, b24, b25] w32 w' → TS w [b, b1, b20, b23, b24, b25] w' X old oy cy oo Co ops po pc := fun {w'} hx => ⟨T.s.step hx, hOY.step hx, T.o.step hx, T.p.step hx⟩
  refine ⟨fun vs bs w1 => ∃ (fr2 : Int) (old' : Que) (oo' : Option Addr) (co' : Nat), vs = [.int .i64 fr2, .int .i64 old'.floor, .int .i64 old'.cur, .int .i64 old'.ran, .slice oo' old'.es.length co'] ∧ bs = [] ∧ (0 ≤ fr2 → TopI ia ib X old') ∧ TS w [b, b1, b20, b23, b24, b25] w1 X old' oy cy oo' co' ops po pc ∧ ObE w.heap.size [b, b1, b20, b23, b24, b25] w1 ox cx X.es,
    ⟨fun g wr40 hx40 _ => ⟨(k : Int), X, oy, cy, rfl, rfl, fun _ => ?_, TY hx40, hOX.step hx40⟩, fun g wr41 hx41 _ => ⟨fr1, old, oo, Co, rfl, rfl, fun hc => ?_, TO hx41, hOX.step hx41⟩⟩, ?_⟩
  · simp only [Bool.and_eq_true] at g
    exact top_refl hXok g.1.2 g.2
  · obtain ⟨h1, h3, h4, h5, h6⟩ := hfr1 hc
    subst hX
    exact top_step (hI h1) hq ha0 (by omega) hb0 (by omega) h3 h4 h5 h6
  rintro fr2 l40 l41 l42 o3 L43 c3 w33 hs33 ⟨fr2', old', oo', co', he, -, hI2, T, hOX⟩
  simp only [List.cons.injEq, Value.int.injEq, Value.slice.injEq, true_and, and_true] at he
  obtain ⟨rfl, rfl, rfl, rfl, rfl, rfl, rfl⟩ := he
  refine ⟨fun vs bs w1 => vs = [] ∧ bs = [] ∧ TS w [b, b1, b20, b23, b24, b25] w1 X old' oy cy o3 c3 ops po pc, ⟨fun g => ?_, fun g wr44 hx44 _ => ⟨rfl, rfl, T.step hx44⟩⟩, ?_⟩
  · have I := hI2 (of_decide_eq_true g)
    have il := I.len
    have Xo := queOk_iff.1 hXok
    have Oo := queOk_iff.1 I.ok
    have xa := Xo.es ia ha0 iax
    have xb := Xo.es ib hb0 ibx
    have oa := Oo.es ia ha0 (by omega)
    have ob := Oo.es ib hb0 (by omega)
    have xa1 := xa.s1; have xa2 := xa.s2; have xb1 := xb.s1; have xb2 := xb.s2
    have oa1 := oa.s1; have oa2 := oa.s2; have ob1 := ob.s1; have ob2 := ob.s2
    have m1 := mul20 (d := (gi X.es ia).sum - (gi old'.es ia).sum) (by omega) (by omega) xb.w1 xb.w2
    have m2 := mul20 (d := (gi X.es ib).sum - (gi old'.es ib).sum) (by omega) (by omega) xa.w1 xa.w2
    have ap := top_apart I hXok ha0 iax hb0 ibx
    have rX := hOX.rd elt_Entry.len
    have rO := T.o.rd elt_Entry.len
    refine ⟨hOX.own.ix ha0 iax, _, (rX ia ha0 iax).2.2.2, T.o.own.ix ha0 (by omega), _, (rO ia ha0 (by omega)).2.2.2, ⟨by omega, by omega⟩, ⟨by omega, by omega⟩, hOX.own.ix hb0 ibx, _, (rX ib hb0 ibx).2.2.2, T.o.own.ix hb0 (by omega), _, (rO ib hb0 (by omega)).2.2.2, ⟨by omega, by omega⟩, ⟨by omega, by omega⟩, ⟨by omega, by omega⟩,
      _, k_impl_QueueApart ⟨xa.w1, xa.w2⟩ ⟨xb.w1, xb.w2⟩, fun _ => ⟨by omega, by omega⟩, _, fun _ => k_impl_QueueApart ⟨xa.w1, xa.w2⟩ ⟨xb.w1, xb.w2⟩, fun g2 => ?_, fun _ wr43 hx43 _ => ⟨rfl, rfl, T.step hx43⟩⟩
    exfalso
    simp only [Bool.or_eq_true, decide_eq_true_eq] at g2
    omega
  rintro w34 hs34 ⟨-, -, T⟩
  exact ⟨⟨by omega, by omega⟩, fun wr45 hx45 _ => ⟨⟨fr2, k + 1, X, old', oy, cy, o3, c3, by simp, by omega, hXok, hXlen, hI2, (T.step hx45).sub (by simp)⟩, cntM_lt (k := k) rfl rfl (by omega)⟩⟩
end Go.Proofs.Ythihcdljmddgfaa
