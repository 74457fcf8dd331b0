/- The law FnQueuePlay: it returns true. -/
import Derived.Test.YthihcdljmddgfaaSpl
import Derived.Test.YthihcdljmddgfaaStQ
namespace Go.Proofs.Ythihcdljmddgfaa
open Go.RowKit
set_option linter.unusedVariables false
set_option maxRecDepth 10000

theorem playL_app : ∀ (a b : List QOp) (q : Que) (n : Int), playL (a ++ b) q n = playL b (playL a q n).1 (playL a q n).2
  | [], b, q, n => rfl
  | x :: a, b, q, n => by
    show playL (a ++ b) _ _ = _
    rw [playL_app a b]; rfl
theorem playL_n : ∀ (a : List QOp) (q : Que) (n : Int), playL a q n = ((playL a q 0).1, n + (playL a q 0).2)
  | [], q, n => by simp [playL]
  | x :: a, q, n => by
    simp only [playL]
    rw [playL_n a (doQ q x).1 (if (doQ q x).2 then n else n + 1), playL_n a (doQ q x).1 (if (doQ q x).2 then 0 else 0 + 1)]
    refine Prod.ext rfl ?_
    show (if (doQ q x).2 then n else n + 1) + _ = n + ((if (doQ q x).2 then 0 else 0 + 1) + _)
    split <;> omega
theorem playL_ok : ∀ (a : List QOp) (q : Que) (n : Int), queOk q = true → queOk (playL a q n).1 = true
  | [], q, n, h => h
  | x :: a, q, n, h => playL_ok a _ _ (do_ok h x)
theorem playL_range : ∀ (a : List QOp) (q : Que) (n : Int), n ≤ (playL a q n).2 ∧ (playL a q n).2 ≤ n + (a.length : Int)
  | [], q, n => by simp [playL]
  | x :: a, q, n => by
    have := playL_range a (doQ q x).1 (if (doQ q x).2 then n else n + 1)
    simp only [playL, List.length_cons]
    split at this <;> rename_i hh <;> simp only [hh] <;> simp <;> omega
theorem playQ_n (q : Que) (ops : List QOp) : 0 ≤ (playQ q ops).2 ∧ (playQ q ops).2 ≤ 2000 := by
  unfold playQ
  split
  · rename_i h
    have := playL_range ops q 0
    omega
  · exact ⟨Int.le_refl 0, by decide⟩
theorem zeroQ_no : queOk zeroQ = false := by decide
theorem play_parts {q : Que} {ops : List QOp} (h : ops.length ≤ 2000) (k : Nat) :
    playQ q ops = ((playQ (playQ q (ops.take k)).1 (ops.drop k)).1, (playQ q (ops.take k)).2 + (playQ (playQ q (ops.take k)).1 (ops.drop k)).2) := by
  by_cases hq : queOk q = true
  · have h1 : playQ q (ops.take k) = playL (ops.take k) q 0 := by unfold playQ; rw [if_pos ⟨hq, by rw [List.length_take]; omega⟩]
    have h2 : playQ q ops = playL ops q 0 := by unfold playQ; rw [if_pos ⟨hq, h⟩]
    have h3 : playQ (playQ q (ops.take k)).1 (ops.drop k) = playL (ops.drop k) (playL (ops.take k) q 0).1 0 := by rw [h1]; unfold playQ; rw [if_pos ⟨playL_ok _ _ _ hq, by rw [List.length_drop]; omega⟩]
    rw [h3, h1, h2]
    have h4 := playL_app (ops.take k) (ops.drop k) q 0
    rw [List.take_append_drop] at h4
    rw [h4, playL_n]
  · have hz : ∀ l : List QOp, playQ q l = (zeroQ, 0) := fun l => by unfold playQ; rw [if_neg fun h => hq h.1]
    have hz2 : ∀ l : List QOp, playQ zeroQ l = (zeroQ, 0) := fun l => by unfold playQ; rw [if_neg fun h => by have := h.1; rw [zeroQ_no] at this; cases this]
    rw [hz, hz, hz2]; rfl
theorem do_same {q : Que} {op : QOp} (hq : queOk q = true) (h : (doQ q op).2 = false) : (doQ q op).1 = q := by
  unfold doQ at h ⊢
  rw [if_pos hq] at h ⊢
  split at h
  · cases h
  · rfl

theorem k_FnQueuePlay {c : Option Addr} {L C : Nat} {c2 : Option Addr} {L2 C2 : Nat} {w : World} (h : Bytes c L w) (hC : L ≤ C) (h2 : Bytes c2 L2 w) (_ : L2 ≤ C2) :
    Calls Try.prog fn_laws_FnQueuePlay #[.slice c L C, .slice c2 L2 C2] w fun e w' => e = .returned (.bool true) ∧ ExtX [] w w' := by
  refine (e_laws_FnQueuePlay c L C c2 L2 C2 (R := fun v w' => v = .bool true ∧ ExtX [] w w') ?_).mono fun e w' ⟨v, he, hv, h3⟩ => ⟨by rw [he, hv], h3⟩
  refine ⟨fun _ wr hx => ⟨rfl, hx⟩, fun _ wr1 hx1 hs1 => (k_spec_DrawQueuePlay (h.ext hx1) hC).mono fun e wv ⟨q, o, cq, ops, po, pc, he, hq20, hopl, hO, hP, hy1⟩ => ⟨_, _, _, _, _, _, _, _, _, he, kept_nil, fun b hb => ?_⟩⟩
  have hm9 := maxLen_big
  have s1 : Sc w [] wv := (Sc.start w).call0 (hx1.trans hy1)
  have hql : q.es.length ≤ 1048576 := by omega
  have hpC := hP.le
  -- what is held
  let Hd := fun (bs : List Nat) (w1 : World) => Sc w bs w1 ∧ ObE w.heap.size bs w1 o cq q.es ∧ ObO w.heap.size bs w1 po pc ops
  have hd0 : Hd [] wv := ⟨s1, ⟨hO.mono hx1.size, by simp⟩, ⟨hP.mono hx1.size, by simp⟩⟩
  have hstep : ∀ {bs w1 w2}, Hd bs w1 → ExtX bs w1 w2 → Hd bs w2 := fun ⟨a1, a2, a3⟩ hx => ⟨a1.step hx, a2.step hx, a3.step hx⟩
  have hcall : ∀ {bs w1 w2}, Hd bs w1 → ExtX [] w1 w2 → Hd bs w2 := fun ⟨a1, a2, a3⟩ hx => ⟨a1.call0 hx, a2.call0 hx, a3.call0 hx⟩
  have hput : ∀ {bs w1 w2 b'}, Hd bs w1 → ExtX bs w1 w2 → w1.heap.size ≤ b' → Hd (bs ++ [b']) w2 := fun ⟨a1, a2, a3⟩ hx hb => ⟨a1.put hx hb, a2.put hx hb, a3.put hx hb⟩
  refine ⟨fun vs bs w1 => ∃ k : Nat, vs = [.int .i64 (k : Int)] ∧ bs = [] ∧ k ≤ ops.length ∧ Hd [b] w1, ⟨fun g => ?_, fun g wr3 hx3 _ => ⟨0, rfl, rfl, Nat.zero_le _, hput hd0 hx3 hb⟩⟩, ?_⟩
  · have g := of_decide_eq_true g
    obtain ⟨va, va0, va1, hva⟩ := k_stByte (C := C2) (i := 0) h2 s1 (by decide) (by decide)
    have ha0 := Int.tmod_nonneg (a := va) ((ops.length : Int) + 1) va0
    have ha1 := Int.tmod_lt_of_pos va (b := (ops.length : Int) + 1) (by omega)
    exact ⟨va, hva, ⟨by omega, by omega⟩, by omega, fun wr2 hx2 _ => ⟨(Int.tmod va ((ops.length : Int) + 1)).toNat, by rw [show (((Int.tmod va ((ops.length : Int) + 1)).toNat : Nat) : Int) = Int.tmod va ((ops.length : Int) + 1) by omega], rfl, by omega, hput hd0 hx2 hb⟩⟩
  rintro k' w1 hs2 ⟨k, he, -, hk, H1⟩
  simp only [List.cons.injEq, Value.int.injEq, true_and, and_true] at he
  subst he
  have parts := play_parts (q := q) (ops := ops) (by omega) k
  generalize hX : playQ q ops = X at parts
  generalize hY : playQ q (ops.take k) = Y at parts
  generalize hZ : playQ Y.1 (ops.drop k) = Z at parts
  have hXl : X.1.es.length ≤ q.es.length := by rw [← hX]; exact playQ_len q ops
  have hYl : Y.1.es.length ≤ q.es.length := by rw [← hY]; exact playQ_len q (ops.take k)
  have hZl : Z.1.es.length ≤ Y.1.es.length := by rw [← hZ]; exact playQ_len Y.1 (ops.drop k)
  have p1 : X.1 = Z.1 := by rw [parts]
  have p2 : X.2 = Y.2 + Z.2 := by rw [parts]
  have etake : (Int.toNat (k : Int) - Int.toNat 0) = (ops.take k).length := by rw [List.length_take]; simp; omega
  have edrop : (Int.toNat ((ops.length : Nat) : Int) - Int.toNat (k : Int)) = (ops.drop k).length := by rw [List.length_drop]; simp
  intro wr4 hx4 hs4
  have H4 := hstep H1 hx4
  refine (k_impl_QueuePlay (H4.2.1.rd0 elt_Entry.len) hql (H4.2.2.rd0 elt_QueueOp.len) (by omega)).mono fun e w2 ⟨v, he, oX, cX, hv, hOX, hy2⟩ => ?_
  subst hv
  rw [hX] at he hOX
  refine ⟨_, _, _, _, _, _, _, he, kept_of hy2 hs4, fun b1 hb1 => ?_⟩
  have H5 := hcall H4 hy2
  have X5 : ObE w.heap.size [b] w2 oX cX X.1.es := (Ob.of hOX hs4).mono H4.1.ext.size
  have yb : X.2 = Y.2 + Z.2 := p2
  refine ⟨fun vs bs w3 => ∃ (oY : Option Addr) (cY b5 : Nat), vs = [.int .i64 Y.2, .int .i64 Y.1.floor, .int .i64 Y.1.cur, .int .i64 Y.1.ran, .slice oY Y.1.es.length cY] ∧ bs = [b5] ∧ Hd [b, b1, b5] w3 ∧ ObE w.heap.size [b, b1, b5] w3 oX cX X.1.es ∧ ObE w.heap.size [b, b1, b5] w3 oY cY Y.1.es, ⟨⟨by decide, by omega, by omega⟩, fun wr5 hx5 hs5 => ?_, fun b3 hb3 => ⟨rfl, fun wr7 hx7 hs7 => ?_⟩⟩, ?_⟩
  · rw [etake]
    have H6 := hput H5 hx5 hb1
    have X6 := X5.put hx5 hb1
    refine (k_impl_QueuePlay (H6.2.1.rd0 elt_Entry.len) hql (Rd.take (Rd.cut (H6.2.2.rd0 elt_QueueOp.len) (m := 0) hpC) k) (by rw [List.length_take]; omega)).mono fun e w3 ⟨v, he, oY, cY, hv, hOY, hy3⟩ => ?_
    subst hv
    rw [List.drop_zero, hY] at he hOY
    exact ⟨_, _, _, _, _, _, _, he, kept_of hy3 hs5, fun b2 hb2 => ⟨rfl, fun wr6 hx6 _ => ⟨oY, cY, b2, rfl, rfl, hput (hcall H6 hy3) hx6 hb2, (X6.call0 hy3).put hx6 hb2, ((Ob.of hOY hs5).mono H6.1.ext.size).put hx6 hb2⟩⟩⟩
  · rw [etake]
    have H6 : Hd [b, b1, b3] wr7 := ⟨H5.1.put2 hx7 hb1 hb3, H5.2.1.put2 hx7 hb1 hb3, H5.2.2.put2 hx7 hb1 hb3⟩
    have X6 : ObE w.heap.size [b, b1, b3] wr7 oX cX X.1.es := X5.put2 hx7 hb1 hb3
    refine (k_impl_QueuePlay (H6.2.1.rd0 elt_Entry.len) hql (Rd.take (Rd.cut (H6.2.2.rd0 elt_QueueOp.len) (m := 0) hpC) k) (by rw [List.length_take]; omega)).mono fun e w3 ⟨v, he, oY, cY, hv, hOY, hy3⟩ => ?_
    subst hv
    rw [List.drop_zero, hY] at he hOY
    exact ⟨_, _, _, _, _, _, _, he, kept_of hy3 hs7, fun wr8 hx8 _ => ⟨oY, cY, b3, rfl, rfl, hstep (hcall H6 hy3) hx8, (X6.call0 hy3).step hx8, ((Ob.of hOY hs7).mono H6.1.ext.size).step hx8⟩⟩
  rintro n4 l l1 l2 oY L3 cY b5 w5 hs5 ⟨oY', cY', b5', he, hbe, H7, X7, Y7⟩
  simp only [List.cons.injEq, Value.int.injEq, Value.slice.injEq, true_and, and_true] at he hbe
  obtain ⟨rfl, rfl, rfl, rfl, rfl, rfl, rfl⟩ := he
  subst hbe
  refine ⟨fun vs bs w3 => ∃ (oZ : Option Addr) (cZ b8 : Nat), vs = [.int .i64 Z.2, .int .i64 Z.1.floor, .int .i64 Z.1.cur, .int .i64 Z.1.ran, .slice oZ Z.1.es.length cZ] ∧ bs = [b8] ∧ Hd [b, b1, b5, b8] w3 ∧ ObE w.heap.size [b, b1, b5, b8] w3 oX cX X.1.es ∧ ObE w.heap.size [b, b1, b5, b8] w3 oZ cZ Z.1.es, ⟨⟨by omega, by omega, by omega⟩, fun wr9 hx9 hs9 => ?_, fun b7 hb7 => ⟨rfl, fun wr11 hx11 hs11 => ?_⟩⟩, ?_⟩
  · rw [edrop]
    have H8 := hstep H7 hx9
    have X8 := X7.step hx9
    have Y8 := Y7.step hx9
    refine (k_impl_QueuePlay (Y8.rd0 elt_Entry.len) (by omega) (Rd.cut (H8.2.2.rd0 elt_QueueOp.len) (m := k) hpC) (by rw [List.length_drop]; omega)).mono fun e w3 ⟨v, he, oZ, cZ, hv, hOZ, hy3⟩ => ?_
    subst hv
    rw [hZ] at he hOZ
    exact ⟨_, _, _, _, _, _, _, he, kept_of hy3 hs9, fun b6 hb6 => ⟨rfl, fun wr10 hx10 _ => ⟨oZ, cZ, b6, rfl, rfl, hput (hcall H8 hy3) hx10 hb6, (X8.call0 hy3).put hx10 hb6, ((Ob.of hOZ hs9).mono H8.1.ext.size).put hx10 hb6⟩⟩⟩
  · rw [edrop]
    have H8 := hput H7 hx11 hb7
    have X8 := X7.put hx11 hb7
    have Y8 := Y7.put hx11 hb7
    refine (k_impl_QueuePlay (Y8.rd0 elt_Entry.len) (by omega) (Rd.cut (H8.2.2.rd0 elt_QueueOp.len) (m := k) hpC) (by rw [List.length_drop]; omega)).mono fun e w3 ⟨v, he, oZ, cZ, hv, hOZ, hy3⟩ => ?_
    subst hv
    rw [hZ] at he hOZ
    exact ⟨_, _, _, _, _, _, _, he, kept_of hy3 hs11, fun wr12 hx12 _ => ⟨oZ, cZ, b7, rfl, rfl, hstep (hcall H8 hy3) hx12, (X8.call0 hy3).step hx12, ((Ob.of hOZ hs11).mono H8.1.ext.size).step hx12⟩⟩
  rintro n7 l4 l5 l6 oZ L7 cZ b8 w8 hs8 ⟨oZ', cZ', b8', he, hbe, H9, X9, Z9⟩ wr13 hx13 hs13
  simp only [List.cons.injEq, Value.int.injEq, Value.slice.injEq, true_and, and_true] at he hbe
  obtain ⟨rfl, rfl, rfl, rfl, rfl, rfl, rfl⟩ := he
  subst hbe
  have HA := hstep H9 hx13
  have XA := X9.step hx13
  have ZA := Z9.step hx13
  refine (k_spec_QueuePlay (HA.2.1.rd0 elt_Entry.len) hql (HA.2.2.rd0 elt_QueueOp.len) (by omega)).mono fun e w9 ⟨v, he, oV, cV, hv, hOV, hy9⟩ => ?_
  subst hv
  rw [hX] at he hOV
  have HB := hcall HA hy9
  have XB := XA.call0 hy9
  have ZB := ZA.call0 hy9
  have hsum : 0 ≤ Y.2 ∧ Y.2 ≤ 2000 ∧ 0 ≤ Z.2 ∧ Z.2 ≤ 2000 := by
    have a := playQ_n q (ops.take k)
    have b := playQ_n Y.1 (ops.drop k)
    rw [hY] at a
    rw [hZ] at b
    omega
  refine ⟨_, _, _, _, _, _, _, he, kept_of hy9 hs13, fun b9 hb9 => ⟨fun _ => ⟨by omega, by omega⟩, decide (X.1 = Z.1), fun _ => k_stQueue (XB.rd elt_Entry.len) (ZB.rd elt_Entry.len) (by omega), fun g => ?_, fun _ => ⟨queOk q, fun _ => k_spec_QueueOk (HB.2.1.rd elt_Entry.len), fun _ wr15 hx15 => ⟨rfl, (hstep HB hx15).1.ext⟩, fun g => ?_⟩⟩⟩
  · rw [decide_eq_true p1, p2] at g
    simp at g
  simp only [Bool.or_eq_false_iff, beq_eq_false_iff_ne, Bool.not_eq_false'] at g
  have hpos : (0 : Int) < (ops.length : Int) := by omega
  have hdo : ((doQ q (gi ops 0)).2 || decide (q = (doQ q (gi ops 0)).1)) = true := by
    cases hd : (doQ q (gi ops 0)).2 with
    | true => rfl
    | false =>
      have := do_same g.2 hd
      rw [decide_eq_true this.symm]; rfl
  have hdl : (doQ q (gi ops 0)).1.es.length ≤ 1048576 := by rw [do_len g.2]; exact hql
  refine ⟨HB.2.2.own.ix (by decide) hpos, _, _, _, (HB.2.2.rd elt_QueueOp.len) 0 (by decide) hpos, fun wr16 hx16 hs16 => ?_, fun b11 hb11 => ⟨(HB.2.2.rd elt_QueueOp.len) 0 (by decide) hpos, rfl, fun wr18 hx18 hs18 => ?_⟩⟩
  · have HC := hput HB hx16 hb9
    refine (k_impl_QueueDo (op := gi ops 0) (HC.2.1.rd0 elt_Entry.len) hql).mono fun e w10 ⟨v, he, oU, cU, hv, hOU, hy10⟩ => ?_
    subst hv
    have HD := hcall HC hy10
    have UD : ObE w.heap.size [b, b1, b5, b8, b9] w10 oU cU (doQ q (gi ops 0)).1.es := (Ob.of hOU hs16).mono HC.1.ext.size
    exact ⟨_, _, _, _, _, _, _, he, kept_of hy10 hs16, fun b10 hb10 => ⟨(HD.2.2.rd elt_QueueOp.len) 0 (by decide) hpos, rfl, decide (q = (doQ q (gi ops 0)).1), fun _ => k_stQueue (HD.2.1.rd elt_Entry.len) (UD.rd elt_Entry.len) (by omega), fun wr17 hx17 => ⟨by rw [hdo], (hstep HD hx17).1.ext⟩⟩⟩
  · have HC : Hd [b, b1, b5, b8, b9, b11] wr18 := ⟨HB.1.put2 hx18 hb9 hb11, HB.2.1.put2 hx18 hb9 hb11, HB.2.2.put2 hx18 hb9 hb11⟩
    refine (k_impl_QueueDo (op := gi ops 0) (HC.2.1.rd0 elt_Entry.len) hql).mono fun e w10 ⟨v, he, oU, cU, hv, hOU, hy10⟩ => ?_
    subst hv
    have HD := hcall HC hy10
    have UD : ObE w.heap.size [b, b1, b5, b8, b9, b11] w10 oU cU (doQ q (gi ops 0)).1.es := (Ob.of hOU hs18).mono HC.1.ext.size
    exact ⟨_, _, _, _, _, _, _, he, kept_of hy10 hs18, decide (q = (doQ q (gi ops 0)).1), fun _ => k_stQueue (HD.2.1.rd elt_Entry.len) (UD.rd elt_Entry.len) (by omega), fun wr19 hx19 => ⟨by rw [hdo], (hstep HD hx19).1.ext⟩⟩
end Go.Proofs.Ythihcdljmddgfaa
