/- The law FnQueueWait: it returns true. -/
import Derived.Test.YthihcdljmddgfaaGoodQ
namespace Go.Proofs.Ythihcdljmddgfaa
open Go.RowKit
set_option linter.unusedVariables false
set_option maxRecDepth 10000

theorem k_spec_VirtualUnits {n k : Int} {w : World} {bs : List Nat} : PureX bs Try.prog fn_spec_VirtualUnits #[.int .i64 n, .int .i64 k] w (.int .i64 (vunits n k)) :=
  p_spec_VirtualUnits n k fun wr hx => by
    refine ⟨_, k_spec_l1Weight, _, fun _ => k_spec_l1In, fun h => ?_, fun h => ?_⟩
    · congr 1; unfold vunits; rw [if_neg]; intro h2; simp only [Bool.and_eq_true] at h2; simp [h2] at h
    · have h2 : inB k 1 20 = true ∧ inB n 1 300000000000000000 = true := by simpa using h
      have h3 := h2
      rw [inB_t, inB_t] at h2
      have hs := stp_up h2.1.1 h2.1.2
      have e : Int.tdiv 232792560 k = stp k := rfl
      rw [e]
      have hq : 0 ≤ Int.tdiv (n + stp k - 1) (stp k) ∧ Int.tdiv (n + stp k - 1) (stp k) ≤ n + stp k - 1 := by
        rw [Int.tdiv_eq_ediv_of_nonneg (by omega)]
        exact ⟨Int.ediv_nonneg (by omega) (by omega), Int.ediv_le_self _ (by omega)⟩
      refine ⟨⟨by omega, inR64 (by omega) (by omega)⟩, inR64 (by omega) (by omega), inR64 (by omega) (by omega), ⟨by omega, inR64 (by omega) (by omega)⟩, ?_⟩
      congr 1; unfold vunits; rw [if_pos (by rw [h3.1, h3.2]; rfl)]
theorem waitS_range (q : Que) (i G : Int) {k : Nat} (hk : k ≤ 20) : 0 ≤ sumTo (waitF q i G) k ∧ sumTo (waitF q i G) k ≤ 6000000000000002980 := by
  have h1 := sumTo_nn (f := waitF q i G) (k := k) fun j _ => (waitF_nn q i G j).1
  have h2 := sumTo_up (f := waitF q i G) (B := 300000000000000149) (k := k) fun j _ => (waitF_nn q i G j).2
  omega
theorem k_spec_QueueWait {q : Que} {o : Option Addr} {c : Nat} {w : World} {bs : List Nat} {i u : Int} (h : RdE bs w o q.es) :
    PureX bs Try.prog fn_spec_QueueWait #[.agg (encQ q o c).toArray, .int .i64 i, .int .i64 u] w (.int .i64 (waitQ q i u)) :=
  p_spec_QueueWait q.floor q.cur q.ran o q.es.length c i u fun wr hx => by
    have h := (h.ext hx).less (cs := []) (by simp)
    intro b hb
    have l20 : queOk q = true → q.es.length ≤ 20 := fun hq => (queOk_iff.1 hq).l2
    have at0 : ∀ {x y : Bool}, (((!queOk q) || !inB i 0 ((q.es.length : Int) - 1)) || x) = false → 0 ≤ i ∧ i < (q.es.length : Int) := fun {x y} g => by
      simp only [Bool.or_eq_false_iff, Bool.not_eq_false'] at g
      exact atQ_t.1 g.1.2
    refine ⟨queOk q, k_spec_QueueOk h, fun g => ?_, _, fun _ => k_spec_l1In, _, fun _ => k_spec_l1In, fun g => ?_, (gi q.es i).on, fun g => ?_, fun g => ?_, fun g => ?_⟩
    · have := l20 (by simpa using g)
      exact ⟨by omega, by omega⟩
    · obtain ⟨a0, a1⟩ := at0 (y := true) g
      exact h.ix encE_c a0 a1
    · obtain ⟨a0, a1⟩ := at0 (y := true) g
      exact (h i a0 a1).1
    · unfold waitQ
      rw [if_neg]
      rintro ⟨h1, h2, h3, h4⟩
      have h2 : inB i 0 ((q.es.length : Int) - 1) = true := h2
      rw [h1, h2, h3, h4] at g
      simp at g
    · simp only [Bool.or_eq_false_iff, Bool.not_eq_false'] at g
      obtain ⟨⟨⟨g1, g2⟩, g3⟩, g4⟩ := g
      have g2' : atQ q i = true := g2
      obtain ⟨a0, a1⟩ := atQ_t.1 g2'
      have Q := queOk_iff.1 g1
      have hl := Q.l2
      have ei := Q.es i a0 a1
      have ev1 := ei.v1
      have ev2 := ei.v2
      have hv := vstep_range u (gi q.es i).w
      have u1 := inB_t.1 g3
      have hW : waitQ q i u = u + sumTo (waitF q i (goalQ q i u)) q.es.length := by unfold waitQ; rw [if_pos ⟨g1, g2', g3, g4⟩]
      rw [hW]
      refine ⟨h.ix encE_c a0 a1, _, (h i a0 a1).2.1, h.ix encE_c a0 a1, _, (h i a0 a1).2.2.1, _, k_spec_VirtualStep, ⟨by omega, by omega⟩, ?_⟩
      refine loop2 q.es.length 0 rfl (fun x k => k ≤ q.es.length ∧ x = u + sumTo (waitF q i (goalQ q i u)) k) ⟨Nat.zero_le _, by simp [sumTo]⟩ fun x k ⟨hk, he⟩ => ⟨fun hlt => ?_, fun hge => ?_⟩
      · have hlt := of_decide_eq_true hlt
        have ej := Q.es (k : Int) (by omega) hlt
        have ej1 := ej.v1
        have ej2 := ej.v2
        have hs := waitS_range q i (goalQ q i u) (k := k) (by omega)
        have hu := vunits_range (goalQ q i u - (gi q.es (k : Int)).v) (gi q.es (k : Int)).w
        have hF : waitF q i (goalQ q i u) k = if (k : Int) ≠ i ∧ (gi q.es (k : Int)).on = true then 149 + vunits (goalQ q i u - (gi q.es (k : Int)).v) (gi q.es (k : Int)).w else 0 := rfl
        refine ⟨fun _ => h.ix encE_c (by omega) hlt, _, fun _ => (h k (by omega) hlt).1, fun g5 => ⟨h.ix encE_c (by omega) hlt, _, (h k (by omega) hlt).2.1, ⟨by omega, by omega⟩, h.ix encE_c (by omega) hlt, _, (h k (by omega) hlt).2.2.1, vunits (goalQ q i u - (gi q.es (k : Int)).v) (gi q.es (k : Int)).w, k_spec_VirtualUnits, ⟨by omega, by omega⟩, ⟨by omega, by omega⟩, ⟨by omega, by omega⟩, ⟨by omega, by omega⟩, ⟨by omega, by omega⟩, loop2_next (by omega) ⟨by omega, ?_⟩⟩, fun g5 => ⟨⟨by omega, by omega⟩, loop2_next (by omega) ⟨by omega, ?_⟩⟩⟩
        · simp only [Bool.and_eq_true, bne_iff_ne] at g5
          rw [if_pos g5] at hF
          simp only [sumTo]; omega
        · rw [if_neg (fun hc => by
            have : ((k : Int) != i && (gi q.es (k : Int)).on) = true := by simp only [Bool.and_eq_true, bne_iff_ne]; exact hc
            rw [this] at g5; cases g5)] at hF
          simp only [sumTo]; omega
      · have hge := of_decide_eq_false hge
        have : k = q.es.length := by omega
        subst this
        rw [he]
theorem cell_at {bs : List Nat} {w : World} {o : Option Addr} {n : Nat} {vs : List Value} (h : CellsX bs w o n vs) {j : Nat} {v : Value} (hj : vs[j]? = some v) : CellsX bs w (o.map (·.add n)) (0 + j) [v] := by
  obtain ⟨a, ha, hb, hc⟩ := h.get j v hj
  refine cellsX_one ⟨a.add n, by rw [ha]; rfl, by rw [add_block]; exact hb, ?_⟩
  rw [add_add', Nat.zero_add]; exact hc
theorem k_impl_QueueWait {q : Que} {o : Option Addr} {c : Nat} {w : World} {bs : List Nat} {i u : Int} (h : RdE bs w o q.es) (hl9 : q.es.length ≤ 1048576) :
    PureX bs Try.prog fn_impl_QueueWait #[.agg (encQ q o c).toArray, .int .i64 i, .int .i64 u] w (.int .i64 (waitQ q i u)) := by
  refine pureX_of fun wr0 hx0 => e_impl_QueueWait q.floor q.cur q.ran o q.es.length c i u (R := fun v w' => v = .int .i64 (waitQ q i u) ∧ ExtX [] wr0 w') ?_
  have h := (h.ext hx0).less (cs := []) (by simp)
  intro b wb hxb hb hcell _
  have hr : RdE [] wb o q.es := h.ext hxb
  have cellQ : ∀ {k : Nat} {v : Value}, (encQ q o c)[k]? = some v → CellX [] wb (some ⟨b, 0, none⟩) k v := fun {k v} hk => cellX_blk hcell (by simp) (k0 := 0) (by rw [Nat.zero_add]; exact hk)
  have zero : ∀ {P : Prop}, (queOk q = true ∧ atQ q i = true ∧ inB u 1 100000000 = true ∧ (gi q.es i).on = true → False) → Value.int .i64 0 = .int .i64 (waitQ q i u) := fun {P} hn => by
    unfold waitQ; rw [if_neg hn]
  refine ⟨q.floor, q.cur, q.ran, o, q.es.length, c, cellsX_mk fun j v hj => by rw [Nat.zero_add]; exact cellQ hj, queOk q, k_impl_QueueOk hr hl9, _, fun _ => k_impl_inRange, fun g wr hx => ⟨zero (P := True) fun ⟨h1, _, h3, _⟩ => ?_, hxb.trans hx⟩, fun g => ⟨if atQ q i then o.map (fun a => a.add (Int.toNat i * 4)) else none, by exact k_entryR (i := i) hcell (by simp) hr hl9, fun hn => ?_, (gi q.es i).on, fun hn => ?_, fun g2 wr hx => ⟨zero (P := True) fun ⟨_, h2, _, h4⟩ => ?_, hxb.trans hx⟩, fun g2 => ?_⟩⟩
  · rw [h1, h3] at g; simp at g
  · cases hs : (if atQ q i then o.map (·.add (Int.toNat i * 4)) else none) with
    | none => rw [hs] at hn; cases hn
    | some a => rfl
  · cases hat : atQ q i with
    | false => rw [hat] at hn; cases hn
    | true =>
      obtain ⟨a0, a1⟩ := atQ_t.1 hat
      exact cell_at (hr i a0 a1) (j := 0) rfl
  · obtain ⟨a0, a1⟩ := atQ_t.1 h2
    have hs := (hr i a0 a1).some
    rw [if_pos h2, h4] at g2
    cases o with
    | none => cases hs
    | some a => simp at g2
  have hat : atQ q i = true := by
    cases hat : atQ q i with
    | true => rfl
    | false => rw [if_neg (by rw [hat]; decide)] at g2; simp at g2
  have hon : (gi q.es i).on = true := by
    cases ho : (gi q.es i).on with
    | true => rfl
    | false => rw [ho] at g2; simp at g2
  simp only [Bool.or_eq_false_iff, Bool.not_eq_false'] at g
  obtain ⟨g1, g3⟩ := g
  obtain ⟨a0, a1⟩ := atQ_t.1 hat
  have Q := queOk_iff.1 g1
  have hl := Q.l2
  have ei := Q.es i a0 a1
  have ev1 := ei.v1
  have ev2 := ei.v2
  have hv := vstep_range u (gi q.es i).w
  have u1 := inB_t.1 g3
  have hW : waitQ q i u = u + sumTo (waitF q i (goalQ q i u)) q.es.length := by unfold waitQ; rw [if_pos ⟨g1, hat, g3, hon⟩]
  rw [if_pos hat, hW]
  have hs : (o.map (·.add (Int.toNat i * 4))).isSome = true := by
    have := (hr i a0 a1).some
    cases o with
    | none => cases this
    | some a => rfl
  refine ⟨hs, _, cell_at (hr i a0 a1) (j := 1) rfl, hs, _, cell_at (hr i a0 a1) (j := 2) rfl, _, k_impl_VirtualStep, ⟨by omega, by omega⟩, o, q.es.length, c, cellQ (k := 3) rfl, ?_⟩
  refine ⟨fun vs w1 => ∃ k : Nat, vs = [.int .i64 (u + sumTo (waitF q i (goalQ q i u)) k), .int .i64 (k : Int)] ∧ k ≤ q.es.length ∧ ExtX [] wb w1, cntMw q.es.length 1, fun wr hx _ => ⟨0, by simp [sumTo], Nat.zero_le _, hx⟩, ?_⟩
  rintro wait x w1 hs1 ⟨k, he, hk, hX⟩
  simp only [List.cons.injEq, Value.int.injEq, true_and, and_true] at he
  obtain ⟨rfl, rfl⟩ := he
  refine ⟨fun hlt => ?_, fun hge wr hx => ?_⟩
  · have hlt := of_decide_eq_true hlt
    have hr1 := hr.ext hX
    have ej := Q.es (k : Int) (by omega) hlt
    have ej1 := ej.v1
    have ej2 := ej.v2
    have hsr := waitS_range q i (goalQ q i u) (k := k) (by omega)
    have hu := vunits_range (goalQ q i u - (gi q.es (k : Int)).v) (gi q.es (k : Int)).w
    have hF : waitF q i (goalQ q i u) k = if (k : Int) ≠ i ∧ (gi q.es (k : Int)).on = true then 149 + vunits (goalQ q i u - (gi q.es (k : Int)).v) (gi q.es (k : Int)).w else 0 := rfl
    have hN : sumTo (waitF q i (goalQ q i u)) (k + 1) = sumTo (waitF q i (goalQ q i u)) k + waitF q i (goalQ q i u) k := rfl
    refine ⟨hr1.ix encE_c (by omega) hlt, _, _, _, _, hr1 k (by omega) hlt, fun b1 hb1 => ⟨fun g5 => ⟨⟨by omega, by omega⟩, vunits (goalQ q i u - (gi q.es (k : Int)).v) (gi q.es (k : Int)).w, k_impl_VirtualUnits, ⟨by omega, by omega⟩, ⟨by omega, by omega⟩, ⟨by omega, by omega⟩, fun wr3 hx3 _ => ⟨⟨k + 1, ?_, by omega, hX.trans hx3⟩, cntM_lt (k := k) rfl rfl (by omega)⟩⟩, fun g5 => ⟨⟨by omega, by omega⟩, fun wr4 hx4 _ => ⟨⟨k + 1, ?_, by omega, hX.trans hx4⟩, cntM_lt (k := k) rfl rfl (by omega)⟩⟩⟩⟩
    · simp only [Bool.and_eq_true, bne_iff_ne] at g5
      rw [if_pos g5] at hF
      rw [hN, hF]
      simp only [List.cons.injEq, Value.int.injEq, true_and, and_true]
      omega
    · rw [if_neg (fun hc => by
        have : ((k : Int) != i && (gi q.es (k : Int)).on) = true := by simp only [Bool.and_eq_true, bne_iff_ne]; exact hc
        rw [this] at g5; cases g5)] at hF
      rw [hN, hF]
      simp
  · have hge := of_decide_eq_false hge
    have : k = q.es.length := by omega
    subst this
    exact ⟨rfl, hxb.trans (hX.trans hx)⟩

theorem k_FnQueueWait {c : Option Addr} {L C : Nat} {c2 : Option Addr} {L2 C2 : Nat} {w : World} (h : Bytes c L w) (hC : L ≤ C) (h2 : Bytes c2 L2 w) (_ : L2 ≤ C2) :
    Calls Try.prog fn_laws_FnQueueWait #[.slice c L C, .slice c2 L2 C2] w fun e w' => e = .returned (.bool true) ∧ ExtX [] w w' := by
  refine (e_laws_FnQueueWait c L C c2 L2 C2 (R := fun v w' => v = .bool true ∧ ExtX [] w w') ?_).mono fun e w' ⟨v, he, hv, h3⟩ => ⟨by rw [he, hv], h3⟩
  refine ⟨fun _ wr hx => ⟨rfl, hx⟩, fun _ wr1 hx1 hs1 => (k_spec_GoodQueue (h.ext hx1) hC).mono fun e wv ⟨q0, o, cq, ops, po, pc, he, hq0, hsm, hopl, hO, _, hy1⟩ => ⟨_, _, _, _, _, _, _, _, _, he, kept_nil, fun b hb => ?_⟩⟩
  have Q0 := queOk_iff.1 hq0
  have hl1 := Q0.l1
  have hl2 := Q0.l2
  have s1 : Sc w [] wv := (Sc.start w).call0 (hx1.trans hy1)
  have O1 : ObE w.heap.size [] wv o cq q0.es := ⟨hO.mono hx1.size, by simp⟩
  obtain ⟨va, va0, va1, hva⟩ := k_stByte (C := C2) (i := 0) h2 s1 (by decide) (by decide)
  obtain ⟨vb, vb0, vb1, hvb⟩ := k_stByte (C := C2) (i := 1) h2 s1 (by decide) (by decide)
  have ha0 := Int.tmod_nonneg (a := va) (q0.es.length : Int) va0
  have ha1 := Int.tmod_lt_of_pos va (b := (q0.es.length : Int)) (by omega)
  refine ⟨va, hva, by omega, vb, hvb, ⟨by omega, by omega⟩, ?_⟩
  generalize Int.tmod va (q0.es.length : Int) = i at ha0 ha1 ⊢
  have hat : atQ q0 i = true := atQ_t.2 ⟨ha0, ha1⟩
  have hub : inB (1 + vb) 1 100000000 = true := inB_t.2 ⟨by omega, by omega⟩
  have r1 := O1.rd0 elt_Entry.len
  have ei := Q0.es i ha0 ha1
  have ev1 := ei.v1
  have ev2 := ei.v2
  have hv := vstep_range (1 + vb) (gi q0.es i).w
  refine ⟨waitQ q0 i (1 + vb), k_impl_QueueWait r1 (by omega), waitQ q0 i (1 + vb), k_spec_QueueWait r1, fun _ => O1.own.ix ha0 ha1, (gi q0.es i).on, fun _ => (r1 i ha0 ha1).1, fun g => ?_, fun _ => ⟨fun _ wr3 hx3 => ⟨rfl, (s1.step hx3).ext⟩, fun g => ?_⟩⟩
  · exfalso
    have hd : decide (waitQ q0 i (1 + vb) > 0) = (gi q0.es i).on := by
      cases ho : (gi q0.es i).on with
      | true =>
        have hsr := waitS_range q0 i (goalQ q0 i (1 + vb)) hl2
        refine decide_eq_true ?_
        unfold waitQ
        rw [if_pos ⟨hq0, hat, hub, ho⟩]
        omega
      | false =>
        refine decide_eq_false ?_
        unfold waitQ
        rw [if_neg (fun hc => by have := hc.2.2.2; rw [ho] at this; cases this)]
        omega
    rw [hd] at g
    simp at g
  simp only [Bool.or_eq_false_iff, beq_eq_false_iff_ne, decide_eq_false_iff_not] at g
  have hon : (gi q0.es i).on = true := by
    cases ho : (gi q0.es i).on with
    | true => rfl
    | false =>
      exfalso
      apply g.1
      unfold waitQ
      rw [if_neg (fun hc => by have := hc.2.2.2; rw [ho] at this; cases this)]
  have hW : waitQ q0 i (1 + vb) = (1 + vb) + sumTo (waitF q0 i (goalQ q0 i (1 + vb))) q0.es.length := by unfold waitQ; rw [if_pos ⟨hq0, hat, hub, hon⟩]
  have hsr := waitS_range q0 i (goalQ q0 i (1 + vb)) hl2
  have hGr : goalQ q0 i (1 + vb) ≤ 200000000000000000 := by unfold goalQ; omega
  generalize hWe : waitQ q0 i (1 + vb) = W at g hW ⊢
  refine ⟨O1.own.ix ha0 ha1, _, (r1 i ha0 ha1).2.2.2, fun vs w1 => ∃ (n : Int) (k : Nat) (q : Que) (oq : Option Addr) (cq : Nat), vs = [.int .i64 n, .int .i64 (k : Int), .int .i64 q.floor, .int .i64 q.cur, .int .i64 q.ran, .slice oq q.es.length cq] ∧ 0 ≤ n ∧ n ≤ W ∧ 2 ≤ k ∧ (k : Int) ≤ 2 + (W - n) ∧ WI q0 i (goalQ q0 i (1 + vb)) (W - n) q ∧ Sc w [b] w1 ∧ ObE w.heap.size [b] w1 oq cq q.es,
    fun vs _ => (ctrAt 0 vs).toNat, fun wr7 hx7 _ => ⟨W, 2, q0, o, cq, rfl, by omega, by omega, by omega, by omega, by rw [Int.sub_self]; exact WI.start hq0, s1.put hx7 hb, O1.put hx7 hb⟩, ?_⟩
  rintro n i1 f1 c1 ran1 oq Lq Cq w3 hs3 ⟨n', k, q, oq', cq', he, hn0, hnW, hk2, hk, hI, s3, O3⟩
  simp only [List.cons.injEq, Value.int.injEq, Value.slice.injEq, true_and, and_true] at he
  obtain ⟨rfl, rfl, rfl, rfl, rfl, rfl, rfl, rfl⟩ := he
  have hlen := hI.len
  refine ⟨fun hlt => ?_, fun hge => ?_⟩
  · have hlt := of_decide_eq_true hlt
    obtain ⟨vc, vc0, vc1, hvc⟩ := k_stByte (C := C2) (i := (k : Int)) h2 s3 (by omega) (by omega)
    have hm0 := Int.tmod_nonneg (a := vc) (100 : Int) vc0
    have hm1 := Int.tmod_lt_of_pos vc (b := (100 : Int)) (by decide)
    -- one more is run
    have fin : ∀ (m : Int), 1 ≤ m → m ≤ 100 → m ≤ n → ∀ wr8, ExtX [b] w3 wr8 → (∀ bq ∈ [b], bq < wr8.heap.size) → Calls Try.prog fn_impl_QueueDo #[.agg (encQ q oq Cq).toArray, .agg (encO ⟨3, 0, m⟩).toArray] wr8 fun e w4 =>
        ∃ (x5 x6 x7 : Int) (x8O : Option Addr) (x8L x8C : Nat) (x9 : Bool), e = .returned (.tuple #[.agg #[.int .i64 x5, .int .i64 x6, .int .i64 x7, .slice x8O x8L x8C], .bool x9]) ∧ Kept [b] wr8 w4 ∧ ∀ b2, w4.heap.size ≤ b2 →
          ((!x9) = true → ∀ wr9, ExtX [b] w4 wr9 → (Value.bool false = .bool true ∧ ExtX [] w wr9)) ∧ ((!x9) = false → InR .i64 (n - m) ∧ InR .i64 ((k : Int) + 1) ∧ ∀ wr10, ExtX [b] w4 wr10 → (∀ bq ∈ [b, b2], bq < wr10.heap.size) →
            (∃ (n' : Int) (k' : Nat) (q' : Que) (oq : Option Addr) (cq : Nat), [Value.int .i64 (n - m), .int .i64 ((k : Int) + 1), .int .i64 x5, .int .i64 x6, .int .i64 x7, .slice x8O x8L x8C] = [.int .i64 n', .int .i64 (k' : Int), .int .i64 q'.floor, .int .i64 q'.cur, .int .i64 q'.ran, .slice oq q'.es.length cq] ∧ 0 ≤ n' ∧ n' ≤ W ∧ 2 ≤ k' ∧ (k' : Int) ≤ 2 + (W - n') ∧ WI q0 i (goalQ q0 i (1 + vb)) (W - n') q' ∧ Sc w [b] wr10 ∧ ObE w.heap.size [b] wr10 oq cq q'.es) ∧
            (ctrAt 0 [.int .i64 (n - m), .int .i64 ((k : Int) + 1), .int .i64 x5, .int .i64 x6, .int .i64 x7, .slice x8O x8L x8C]).toNat < (ctrAt 0 [.int .i64 n, .int .i64 (k : Int), .int .i64 q.floor, .int .i64 q.cur, .int .i64 q.ran, .slice oq q.es.length Cq]).toNat) := fun m h1 h2' h3 wr8 hx8 hs8 => by
      have s4 := s3.step hx8
      have O4 := O3.step hx8
      have run := wi_run (a := 0) hI ha0 ha1 hon h1 h2' hGr (by omega) (by omega) (hsm.mono (by omega)) hq0
      refine (k_impl_QueueDo (op := ⟨3, 0, m⟩) (O4.rd0 elt_Entry.len) (by omega)).mono fun e w4 ⟨v, he, ox, cx, hv, hOx, hy⟩ => ?_
      subst hv
      have s5 := s4.call0 hy
      have O5 : ObE w.heap.size [b] w4 ox cx _ := (Ob.of hOx hs8).mono s4.ext.size
      refine ⟨_, _, _, _, _, _, _, he, kept_of hy hs8, fun b2 hb2 => ⟨fun g3 => ?_, fun _ => ⟨⟨by omega, by omega⟩, ⟨by omega, by omega⟩, fun wr10 hx10 _ => ⟨⟨n - m, k + 1, _, ox, cx, by simp, by omega, by omega, by omega, by omega, ?_, s5.step hx10, O5.step hx10⟩, ?_⟩⟩⟩⟩
      · rw [run.1] at g3; cases g3
      · rw [show W - (n - m) = (W - n) + m by omega]; exact run.2
      · show (n - m).toNat < n.toNat
        omega
    refine ⟨vc, hvc, by decide, ⟨by omega, by omega⟩, fun g2 wr8 hx8 hs8 => ?_, fun g2 wr11 hx11 hs11 => ?_⟩
    · have g2 := of_decide_eq_true g2
      exact fin n (by omega) (by omega) (Int.le_refl _) wr8 hx8 hs8
    · have g2 := of_decide_eq_false g2
      exact fin (1 + Int.tmod vc 100) (by omega) (by omega) (by omega) wr11 hx11 hs11
  · have hge := of_decide_eq_false hge
    have hn : n = 0 := by omega
    subst hn
    rw [Int.sub_zero, hW] at hI
    have hend := wi_end hq0 ha0 ha1 (by omega) (by omega) hI
    have x0 := ei.s1
    have x1 := ei.s2
    have Qe := (queOk_iff.1 hI.ok).es i ha0 (by omega)
    have y0 := Qe.s1
    have y1 := Qe.s2
    refine ⟨O3.own.ix ha0 (by omega), _, ((O3.rd elt_Entry.len) i ha0 (by omega)).2.2.2, ⟨by omega, by omega⟩, fun wr14 hx14 => ⟨?_, (s3.step hx14).ext⟩⟩
    rw [decide_eq_true (show _ ≥ _ from hend)]
end Go.Proofs.Ythihcdljmddgfaa
