/- Queues: many deeds, one behind the other. -/
import Derived.Test.YthihcdljmddgfaaQueD
namespace Go.Proofs.Ythihcdljmddgfaa
open Go.RowKit
set_option linter.unusedVariables false
set_option maxRecDepth 10000

def playL : List QOp → Que → Int → Que × Int
  | [], q, n => (q, n)
  | op :: r, q, n => playL r (doQ q op).1 (if (doQ q op).2 then n else n + 1)
def playQ (q : Que) (ops : List QOp) : Que × Int := if queOk q = true ∧ ops.length ≤ 2000 then playL ops q 0 else (zeroQ, 0)
def PlayR (r : Que × Int) (w : World) (v : Value) (w' : World) : Prop := ∃ o' c', v = .tuple #[.agg (encQ r.1 o' c').toArray, .int .i64 r.2] ∧ Own encE 4 ty_impl_Entry w.heap.size w' o' c' r.1.es ∧ ExtX [] w w'
theorem doQ_len (q : Que) (op : QOp) : (doQ q op).1.es.length ≤ q.es.length := by
  unfold doQ
  split
  · split
    · rename_i h; rw [riseQ_es, act_len h]; exact Nat.le_refl _
    · exact Nat.le_refl _
  · simp [zeroQ]
theorem playL_len : ∀ (ops : List QOp) (q : Que) (n : Int), (playL ops q n).1.es.length ≤ q.es.length
  | [], _, _ => Nat.le_refl _
  | op :: r, q, n => Nat.le_trans (playL_len r _ _) (doQ_len q op)
theorem playQ_len (q : Que) (ops : List QOp) : (playQ q ops).1.es.length ≤ q.es.length := by
  unfold playQ
  split
  · exact playL_len _ _ _
  · simp [zeroQ]
theorem play_step {ops : List QOp} {k : Nat} (h : k < ops.length) (q : Que) (n : Int) : playL (ops.drop k) q n = playL (ops.drop (k + 1)) (doQ q (gi ops (k : Int))).1 (if (doQ q (gi ops (k : Int))).2 then n else n + 1) := by
  rw [List.drop_eq_getElem_cons h, gi_lt h]; rfl
abbrev ObE (base : Nat) (bs : List Nat) (w : World) (o : Option Addr) (c : Nat) (l : List Ent) := Ob encE 4 ty_impl_Entry base bs w o c l
/-- The state of a play: so many refused, so far, and the queue. -/
def PlayI (w0 : World) (ops : List QOp) (r : Que × Int) (m : Nat) (bs : List Nat) (vs : List Value) (w : World) : Prop :=
  ∃ (n : Int) (k : Nat) (q : Que) (o : Option Addr) (c : Nat), vs = [.int .i64 n, .int .i64 (k : Int), .int .i64 q.floor, .int .i64 q.cur, .int .i64 q.ran, .slice o q.es.length c] ∧ k ≤ ops.length ∧ 0 ≤ n ∧ n ≤ (k : Int) ∧ playL (ops.drop k) q n = r ∧ q.es.length ≤ m ∧ Sc w0 bs w ∧ ObE w0.heap.size bs w o c q.es
theorem cntM_lt {n p : Nat} {vs us : List Value} {k : Nat} (h1 : ctrAt p vs = (k : Int) + 1) (h2 : ctrAt p us = (k : Int)) (hk : k < n) : cntM n p vs < cntM n p us := by
  unfold cntM
  rw [h1, h2]
  omega
theorem k_spec_QueuePlay {q : Que} {ops : List QOp} {o po : Option Addr} {c pc : Nat} {w : World} (h : RdE [] w o q.es) (hl9 : q.es.length ≤ 1048576) (hp : RdO [] w po ops) (hpl : ops.length ≤ 1048576) :
    Calls Try.prog fn_spec_QueuePlay #[.agg (encQ q o c).toArray, .slice po ops.length pc] w fun e w' => ∃ v, e = .returned v ∧ PlayR (playQ q ops) w v w' := by
  refine e_spec_QueuePlay q.floor q.cur q.ran o q.es.length c po ops.length pc (R := fun v w' => PlayR (playQ q ops) w v w') ?_
  have hm9 := maxLen_le
  intro b hb b1 hb1
  have s0 : Sc w [b, b1] w := ((Sc.start w).add hb).add hb1
  refine ⟨_, k_spec_QueueOk h, fun g wr hx => ⟨none, 0, ?_, ?_, hx⟩, fun g wr1 hx1 hs1 => ?_⟩
  · have : playQ q ops = (zeroQ, 0) := by
      unfold playQ; rw [if_neg]
      simp only [Bool.or_eq_true, Bool.not_eq_true', decide_eq_true_eq] at g
      rintro ⟨h1, h2⟩
      rcases g with g | g
      · rw [h1] at g; cases g
      · omega
    rw [this]; rfl
  · have : playQ q ops = (zeroQ, 0) := by
      unfold playQ; rw [if_neg]
      simp only [Bool.or_eq_true, Bool.not_eq_true', decide_eq_true_eq] at g
      rintro ⟨h1, h2⟩
      rcases g with g | g
      · rw [h1] at g; cases g
      · omega
    rw [this]; exact own_nil
  simp only [Bool.or_eq_false_iff, Bool.not_eq_false', decide_eq_false_iff_not] at g
  have hr : playQ q ops = playL ops q 0 := by unfold playQ; rw [if_pos ⟨g.1, by omega⟩]
  have s1 := s0.call0 hx1
  refine (k_spec_l4Own (h.sc s1) hl9).mono fun e wv ⟨o1, c1, he, hO1, hy1⟩ => ⟨_, _, _, _, _, _, he, kept_of hy1 hs1, ?_⟩
  have s2 := s1.call0 hy1
  refine ⟨PlayI w ops (playL ops q 0) q.es.length [b, b1], cntMw ops.length 1, fun wr4 hx4 _ => ⟨0, 0, q, o1, c1, rfl, Nat.zero_le _, Int.le_refl _, Int.le_refl _, rfl, Nat.le_refl _, s2.step hx4, ((Ob.of hO1 hs1).mono s1.ext.size).step hx4⟩, ?_⟩
  rintro n1 i1 f1 cu1 r1 o3 l3 c3 wv3 hs3 ⟨n, k, q', o', c', hvs, hk, hn0, hnk, hpl', hlen, s3, hO3⟩
  simp only [List.cons.injEq, Value.int.injEq, Value.slice.injEq, true_and, and_true] at hvs
  obtain ⟨rfl, rfl, rfl, rfl, rfl, rfl, rfl, rfl⟩ := hvs
  refine ⟨fun hlt => ?_, fun hge => ?_⟩
  · have hlt := of_decide_eq_true hlt
    have hpb := hp.scb s3
    rw [play_step (by omega)] at hpl'
    have hdl := doQ_len q' (gi ops (k : Int))
    have fin : ∀ {wA wr : World} {o2 : Option Addr} {c2 : Nat} {bs : List Nat}, (∀ x ∈ [b, b1], x ∈ bs) → Sc w bs wr → ObE w.heap.size bs wr o2 c2 (doQ q' (gi ops (k : Int))).1.es → ∀ m : Int, m = (if (doQ q' (gi ops (k : Int))).2 then n1 else n1 + 1) → 
        PlayI w ops (playL ops q 0) q.es.length [b, b1] [.int .i64 m, .int .i64 ((k : Int) + 1), .int .i64 (doQ q' (gi ops (k : Int))).1.floor, .int .i64 (doQ q' (gi ops (k : Int))).1.cur, .int .i64 (doQ q' (gi ops (k : Int))).1.ran, .slice o2 (doQ q' (gi ops (k : Int))).1.es.length c2] wr ∧
        cntMw ops.length 1 [.int .i64 m, .int .i64 ((k : Int) + 1), .int .i64 (doQ q' (gi ops (k : Int))).1.floor, .int .i64 (doQ q' (gi ops (k : Int))).1.cur, .int .i64 (doQ q' (gi ops (k : Int))).1.ran, .slice o2 (doQ q' (gi ops (k : Int))).1.es.length c2] wr < cntMw ops.length 1 [.int .i64 n1, .int .i64 (k : Int), .int .i64 q'.floor, .int .i64 q'.cur, .int .i64 q'.ran, .slice o3 q'.es.length c3] wv3 :=
      fun {wA wr o2 c2 bs} hsub sA oA m hm => ⟨⟨m, k + 1, _, o2, c2, by simp, by omega, by rw [hm]; split <;> omega, by rw [hm]; split <;> omega, by rw [hm]; exact hpl', by omega, sA.sub hsub, oA.sub hsub⟩, cntM_lt (k := k) (by simp [ctrAt]) (by simp [ctrAt]) (by omega)⟩
    refine ⟨hpb.ix encO_c (by omega) hlt, _, _, _, hpb k (by omega) hlt, fun wr5 hx5 hs5 => ?_, fun b4 hb4 => ⟨(hpb k (by omega) hlt), rfl, fun wr5 hx5 hs5 => ?_⟩⟩
    · have s5 := s3.step hx5
      refine (k_spec_QueueDo (op := gi ops (k : Int)) ((hO3.step hx5).rd0 elt_Entry.len)).mono fun e wv4 ⟨v, he, o2, c2, hv, hO2, hy2⟩ => ?_
      subst hv
      have s6 := s5.call0 hy2
      have hO6 : ObE w.heap.size [b, b1] wv4 o2 c2 _ := (Ob.of hO2 hs5).mono s5.ext.size
      exact ⟨_, _, _, _, _, _, _, he, kept_of hy2 hs5, fun b3 hb3 => ⟨(hp.scb s6) k (by omega) hlt, rfl, fun g2 => ⟨⟨by omega, by omega⟩, ⟨by omega, by omega⟩, fun wr6 hx6 _ => fin (wA := wr6) (fun x hx => hx) (s6.step hx6) (hO6.step hx6) _ (by rw [if_neg (by simpa using g2)])⟩, fun g2 => ⟨⟨by omega, by omega⟩, fun wr6 hx6 _ => fin (wA := wr6) (fun x hx => hx) (s6.step hx6) (hO6.step hx6) _ (by rw [if_pos (by simpa using g2)])⟩⟩⟩
    · have s5 := s3.put hx5 hb4
      refine (k_spec_QueueDo (op := gi ops (k : Int)) ((hO3.step hx5).rd0 elt_Entry.len)).mono fun e wv4 ⟨v, he, o2, c2, hv, hO2, hy2⟩ => ?_
      subst hv
      have s6 := s5.call0 hy2
      have hO6 : ObE w.heap.size [b, b1, b4] wv4 o2 c2 _ := (Ob.of hO2 hs5).mono s5.ext.size
      have sub : ∀ x ∈ [b, b1], x ∈ [b, b1, b4] := fun x hx => by simp only [List.mem_cons, List.not_mem_nil, or_false] at hx ⊢; rcases hx with h | h <;> simp [h]
      exact ⟨_, _, _, _, _, _, _, he, kept_of hy2 hs5, fun g2 => ⟨⟨by omega, by omega⟩, ⟨by omega, by omega⟩, fun wr6 hx6 _ => fin (wA := wr6) sub (s6.step hx6) (hO6.step hx6) _ (by rw [if_neg (by simpa using g2)])⟩, fun g2 => ⟨⟨by omega, by omega⟩, fun wr6 hx6 _ => fin (wA := wr6) sub (s6.step hx6) (hO6.step hx6) _ (by rw [if_pos (by simpa using g2)])⟩⟩
  · have hge := of_decide_eq_false hge
    have hk' : k = ops.length := by omega
    subst hk'
    rw [List.drop_length] at hpl'
    have hpl' : (q', n1) = playL ops q 0 := hpl'
    refine fun wr11 hx11 => ⟨o3, c3, ?_, ?_, (s3.step hx11).ext⟩
    · rw [hr, ← hpl']; rfl
    · rw [hr, ← hpl']; exact (hO3.step hx11).own
theorem k_impl_QueuePlay {q : Que} {ops : List QOp} {o po : Option Addr} {c pc : Nat} {w : World} (h : RdE [] w o q.es) (hl9 : q.es.length ≤ 1048576) (hp : RdO [] w po ops) (hpl : ops.length ≤ 1048576) :
    Calls Try.prog fn_impl_QueuePlay #[.agg (encQ q o c).toArray, .slice po ops.length pc] w fun e w' => ∃ v, e = .returned v ∧ PlayR (playQ q ops) w v w' := by
  refine e_impl_QueuePlay q.floor q.cur q.ran o q.es.length c po ops.length pc (R := fun v w' => PlayR (playQ q ops) w v w') ?_
  have hm9 := maxLen_le
  intro b hb b1 hb1
  have s0 : Sc w [b, b1] w := ((Sc.start w).add hb).add hb1
  refine ⟨_, k_impl_QueueOk h hl9, fun g wr hx => ⟨none, 0, ?_, ?_, hx⟩, fun g wr1 hx1 hs1 => ?_⟩
  · have : playQ q ops = (zeroQ, 0) := by
      unfold playQ; rw [if_neg]
      simp only [Bool.or_eq_true, Bool.not_eq_true', decide_eq_true_eq] at g
      rintro ⟨h1, h2⟩
      rcases g with g | g
      · rw [h1] at g; cases g
      · omega
    rw [this]; rfl
  · have : playQ q ops = (zeroQ, 0) := by
      unfold playQ; rw [if_neg]
      simp only [Bool.or_eq_true, Bool.not_eq_true', decide_eq_true_eq] at g
      rintro ⟨h1, h2⟩
      rcases g with g | g
      · rw [h1] at g; cases g
      · omega
    rw [this]; exact own_nil
  simp only [Bool.or_eq_false_iff, Bool.not_eq_false', decide_eq_false_iff_not] at g
  have hr : playQ q ops = playL ops q 0 := by unfold playQ; rw [if_pos ⟨g.1, by omega⟩]
  have s1 := s0.call0 hx1
  refine (k_impl_queueCopy (h.sc s1) hl9).mono fun e wv ⟨o1, c1, he, hO1, hy1⟩ => ⟨_, _, _, _, _, _, he, kept_of hy1 hs1, fun b2 hb2 => ?_⟩
  have s2 := s1.call0 hy1
  refine ⟨PlayI w ops (playL ops q 0) q.es.length [b, b1, b2], cntMw ops.length 1, fun wr4 hx4 _ => ⟨0, 0, q, o1, c1, rfl, Nat.zero_le _, Int.le_refl _, Int.le_refl _, rfl, Nat.le_refl _, s2.put hx4 hb2, ((Ob.of hO1 hs1).mono s1.ext.size).put hx4 hb2⟩, ?_⟩
  rintro n1 i1 f1 cu1 r1 o3 l3 c3 wv3 hs3 ⟨n, k, q', o', c', hvs, hk, hn0, hnk, hpl', hlen, s3, hO3⟩
  simp only [List.cons.injEq, Value.int.injEq, Value.slice.injEq, true_and, and_true] at hvs
  obtain ⟨rfl, rfl, rfl, rfl, rfl, rfl, rfl, rfl⟩ := hvs
  refine ⟨fun hlt => ?_, fun hge => ?_⟩
  · have hlt := of_decide_eq_true hlt
    have hpb := hp.scb s3
    rw [play_step (by omega)] at hpl'
    have hdl := doQ_len q' (gi ops (k : Int))
    have fin : ∀ {wr : World} {o2 : Option Addr} {c2 : Nat} {bs : List Nat}, (∀ x ∈ [b, b1, b2], x ∈ bs) → Sc w bs wr → ObE w.heap.size bs wr o2 c2 (doQ q' (gi ops (k : Int))).1.es → ∀ m : Int, m = (if (doQ q' (gi ops (k : Int))).2 then n1 else n1 + 1) → 
        PlayI w ops (playL ops q 0) q.es.length [b, b1, b2] [.int .i64 m, .int .i64 ((k : Int) + 1), .int .i64 (doQ q' (gi ops (k : Int))).1.floor, .int .i64 (doQ q' (gi ops (k : Int))).1.cur, .int .i64 (doQ q' (gi ops (k : Int))).1.ran, .slice o2 (doQ q' (gi ops (k : Int))).1.es.length c2] wr ∧
        cntMw ops.length 1 [.int .i64 m, .int .i64 ((k : Int) + 1), .int .i64 (doQ q' (gi ops (k : Int))).1.floor, .int .i64 (doQ q' (gi ops (k : Int))).1.cur, .int .i64 (doQ q' (gi ops (k : Int))).1.ran, .slice o2 (doQ q' (gi ops (k : Int))).1.es.length c2] wr < cntMw ops.length 1 [.int .i64 n1, .int .i64 (k : Int), .int .i64 q'.floor, .int .i64 q'.cur, .int .i64 q'.ran, .slice o3 q'.es.length c3] wv3 :=
      fun {wr o2 c2 bs} hsub sA oA m hm => ⟨⟨m, k + 1, _, o2, c2, by simp, by omega, by rw [hm]; split <;> omega, by rw [hm]; split <;> omega, by rw [hm]; exact hpl', by omega, sA.sub hsub, oA.sub hsub⟩, cntM_lt (k := k) (by simp [ctrAt]) (by simp [ctrAt]) (by omega)⟩
    refine ⟨hpb.ix encO_c (by omega) hlt, _, _, _, hpb k (by omega) hlt, fun b5 hb5 wr5 hx5 hs5 => ?_⟩
    have s5 := s3.put hx5 hb5
    refine (k_impl_QueueDo (op := gi ops (k : Int)) ((hO3.step hx5).rd0 elt_Entry.len) (by omega)).mono fun e wv4 ⟨v, he, o2, c2, hv, hO2, hy2⟩ => ?_
    subst hv
    have s6 := s5.call0 hy2
    have hO6 : ObE w.heap.size [b, b1, b2, b5] wv4 o2 c2 _ := (Ob.of hO2 hs5).mono s5.ext.size
    have sub : ∀ x ∈ [b, b1, b2], x ∈ [b, b1, b2, b5] := fun x hx => by simp only [List.mem_cons, List.not_mem_nil, or_false] at hx ⊢; rcases hx with h | h | h <;> simp [h]
    exact ⟨_, _, _, _, _, _, _, he, kept_of hy2 hs5, fun b6 hb6 => ⟨fun g2 => ⟨⟨by omega, by omega⟩, ⟨by omega, by omega⟩, fun wr6 hx6 _ => fin sub (s6.step hx6) (hO6.step hx6) _ (by rw [if_neg (by simpa using g2)])⟩, fun g2 => ⟨⟨by omega, by omega⟩, fun wr6 hx6 _ => fin sub (s6.step hx6) (hO6.step hx6) _ (by rw [if_pos (by simpa using g2)])⟩⟩⟩
  · have hge := of_decide_eq_false hge
    have hk' : k = ops.length := by omega
    subst hk'
    rw [List.drop_length] at hpl'
    have hpl' : (q', n1) = playL ops q 0 := hpl'
    refine fun wr11 hx11 => ⟨o3, c3, ?_, ?_, (s3.step hx11).ext⟩
    · rw [hr, ← hpl']; rfl
    · rw [hr, ← hpl']; exact (hO3.step hx11).own
end Go.Proofs.Ythihcdljmddgfaa
