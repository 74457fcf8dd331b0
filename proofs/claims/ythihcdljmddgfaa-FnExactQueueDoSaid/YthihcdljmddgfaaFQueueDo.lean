/- The law FnExactQueueDo: it returns true. -/
import Derived.Test.YthihcdljmddgfaaQueD
namespace Go.Proofs.Ythihcdljmddgfaa
open Go.RowKit
set_option maxRecDepth 10000

abbrev ObQ (base : Nat) (bs : List Nat) (w : World) (o : Option Addr) (c : Nat) (l : List Ent) := Ob encE 4 ty_impl_Entry base bs w o c l
theorem ne_false_of {b : Bool} (h : b = true) (k : (!b) = true) : False := by rw [h] at k; cases k
theorem lt_of_kept {n : Nat} {m : Int} (h : decide (m + 4 * (n : Int) < 0) = true) (hm : 0 ≤ m) : False := by
  have := of_decide_eq_true h
  omega
theorem k_FnExactQueueDo {D : Que} {M : Option Addr × Nat} {op : QOp} {w : World} (ft : FitQ w D M) (_ : True) :
    Calls Try.prog fn_laws_FnExactQueueDo #[.agg (encQ D M.1 M.2).toArray, .agg (encO op).toArray] w fun e w' => e = .returned (.bool true) ∧ ExtX [] w w' := by
  obtain ⟨o, c⟩ := M
  obtain ⟨hrd, hle⟩ := ft
  dsimp only at hrd hle ⊢
  refine (e_laws_FnExactQueueDo D.floor D.cur D.ran o D.es.length c op.kind op.at' op.n (R := fun v w' => v = .bool true ∧ ExtX [] w w') ?_).mono fun e w' ⟨v, he, hv, h3⟩ => ⟨by rw [he, hv], h3⟩
  have to : ∀ {w : World} {bs : List Nat}, PureX bs Try.prog fn_laws_toQueueOp #[.agg (encO op).toArray] w (.agg (encO op).toArray) := k_toQueueOp
  intro b hb b1 hb1
  refine ⟨_, k_szQueue hle (by decide) (by decide), fun _ w1 hx1 => ⟨rfl, hx1⟩, fun hs => ?_⟩
  have hs := of_decide_eq_false hs
  have hl : D.es.length ≤ 1048576 := by
    have := (szN_nn (n := D.es.length) (left := 1048576) (by omega)).1
    omega
  have s0 : Sc w [b, b1] w := ((Sc.start w).add hb).add hb1
  generalize hr : doQ D op = r
  have hrl : r.1.es.length ≤ 1048576 := by
    rw [← hr]
    unfold doQ
    split
    · split
      · rename_i h; rw [riseQ_es, act_len h]; exact hl
      · exact hl
    · simp [zeroQ]
  have hm9 := maxLen_big
  refine ⟨fun vs bs wr => ∃ o1 c1 b2, vs = [.bool r.2, .int .i64 r.1.floor, .int .i64 r.1.cur, .int .i64 r.1.ran, .slice o1 r.1.es.length c1] ∧ bs = [b2] ∧ Sc w [b, b1, b2] wr ∧ ObQ w.heap.size [b, b1, b2] wr o1 c1 r.1.es, ⟨fun wr1 hx1 hs1 => ?_, fun b2 hb2 => ⟨rfl, rfl, fun wr1 hx1 hs1 => ?_⟩⟩, ?_⟩
  · have s1 := s0.call0 hx1
    refine (k_toQueue (hrd.sc s1) hl).mono fun e wv ⟨o1, c1, he, hO1, hy1⟩ => ⟨_, _, _, _, _, _, he, kept_of hy1 hs1, rfl, _, _, _, to, fun wr2 hx2 hs2 => ?_, fun b3 hb3 => ⟨to, rfl, rfl, fun wr2 hx2 hs2 => ?_⟩⟩
    · have s2 := (s1.call0 hy1).step hx2
      refine (k_spec_QueueDo (op := op) (((Ob.of hO1 hs1).step hx2).rd0 elt_Entry.len)).mono fun e wv1 ⟨v, he, o2, c2, hv, hO2, hy2⟩ => ?_
      subst hv
      rw [hr] at he hO2
      exact ⟨_, _, _, _, _, _, _, he, kept_of hy2 hs2, fun b2 hb2 => ⟨to, rfl, rfl, fun wr3 hx3 hs3 => ⟨o2, c2, b2, rfl, rfl, (s2.call0 hy2).put hx3 hb2, ((Ob.of hO2 hs2).mono s2.ext.size).put hx3 hb2⟩⟩⟩
    · have s2 := (s1.call0 hy1).put hx2 hb3
      refine (k_spec_QueueDo (op := op) (((Ob.of hO1 hs1).step hx2).rd0 elt_Entry.len)).mono fun e wv1 ⟨v, he, o2, c2, hv, hO2, hy2⟩ => ?_
      subst hv
      rw [hr] at he hO2
      exact ⟨_, _, _, _, _, _, _, he, kept_of hy2 hs2, fun wr3 hx3 hs3 => ⟨o2, c2, b3, rfl, rfl, (s2.call0 hy2).step hx3, ((Ob.of hO2 hs2).mono s2.ext.size).step hx3⟩⟩
  · have s1 := (s0.add hb2).call0 hx1
    refine (k_toQueue (hrd.sc s1) hl).mono fun e wv ⟨o1, c1, he, hO1, hy1⟩ => ⟨_, _, _, _, _, _, he, kept_of hy1 hs1, rfl, _, _, _, to, fun wr2 hx2 hs2 => ?_⟩
    have s2 := (s1.call0 hy1).step hx2
    refine (k_spec_QueueDo (op := op) (((Ob.of hO1 hs1).step hx2).rd0 elt_Entry.len)).mono fun e wv1 ⟨v, he, o2, c2, hv, hO2, hy2⟩ => ?_
    subst hv
    rw [hr] at he hO2
    exact ⟨_, _, _, _, _, _, _, he, kept_of hy2 hs2, fun wr3 hx3 hs3 => ⟨o2, c2, b2, rfl, rfl, (s2.call0 hy2).step hx3, ((Ob.of hO2 hs2).mono s2.ext.size).step hx3⟩⟩
  rintro w1' l l1 l2 l3O l3L l3C b2 wv hq ⟨oW, cW, b2', hvs, hbs, s2, hW⟩
  simp only [List.cons.injEq, Value.int.injEq, Value.bool.injEq, Value.slice.injEq, true_and, and_true] at hvs hbs
  obtain ⟨rfl, rfl, rfl, rfl, rfl, rfl, rfl⟩ := hvs
  subst hbs
  intro wr9 hx9 hs9
  have s3 := s2.step hx9
  have hW3 := hW.step hx9
  refine (k_toQueue (hrd.sc s3) hl).mono fun e wv6 ⟨oX, cX, he, hOX, hyX⟩ => ⟨_, _, _, _, _, _, he, kept_of hyX hs9, fun b6 hb6 => ?_⟩
  have s4 := (s3.call0 hyX).add hb6
  have hW4 := (hW3.call0 hyX).add hb6
  have hX4 := ((Ob.of hOX hs9).mono s3.ext.size).add hb6
  have sXW := (sep_of hW3.own hOX (Nat.le_refl _))
  refine ⟨fun vs bs wr => ∃ oG cG b9, vs = [.bool r.2, .int .i64 r.1.floor, .int .i64 r.1.cur, .int .i64 r.1.ran, .slice oG r.1.es.length cG] ∧ bs = [b9] ∧ Sc w [b, b1, b2, b6, b9] wr ∧ ObQ w.heap.size [b, b1, b2, b6, b9] wr l3O l3C r.1.es ∧ ObQ w.heap.size [b, b1, b2, b6, b9] wr oX cX D.es ∧ ObQ w.heap.size [b, b1, b2, b6, b9] wr oG cG r.1.es ∧ (∀ x ∈ blkOf oG, x ∉ blkOf oX ∧ x ∉ blkOf l3O), ⟨_, _, _, to, fun wr10 hx10 hs10 => ?_, fun b8 hb8 => ⟨to, rfl, rfl, fun wr10 hx10 hs10 => ?_⟩⟩, ?_⟩
  · have s5 := (s3.call0 hyX).put hx10 hb6
    have hX5 := ((Ob.of hOX hs9).mono s3.ext.size).put hx10 hb6
    have hW5 := (hW3.call0 hyX).put hx10 hb6
    refine (k_impl_QueueDo (op := op) (hX5.rd0 elt_Entry.len) hl).mono fun e wv7 ⟨v, he, oG, cG, hv, hOG, hy7⟩ => ?_
    subst hv
    rw [hr] at he hOG
    have n1 := sep_of hX5.own hOG (Nat.le_refl _)
    have n2 := sep_of hW5.own hOG (Nat.le_refl _)
    exact ⟨_, _, _, _, _, _, _, he, kept_of hy7 hs10, fun b7 hb7 => ⟨to, rfl, rfl, fun wr11 hx11 hs11 => ⟨oG, cG, b7, rfl, rfl, (s5.call0 hy7).put hx11 hb7, (hW5.call0 hy7).put hx11 hb7, (hX5.call0 hy7).put hx11 hb7, ((Ob.of hOG hs10).mono s5.ext.size).put hx11 hb7, fun x hx => ⟨n1.2 x hx, n2.2 x hx⟩⟩⟩⟩
  · have s5 := (s3.call0 hyX).put2 hx10 hb6 hb8
    have hX5 := ((Ob.of hOX hs9).mono s3.ext.size).put2 hx10 hb6 hb8
    have hW5 := (hW3.call0 hyX).put2 hx10 hb6 hb8
    refine (k_impl_QueueDo (op := op) (hX5.rd0 elt_Entry.len) hl).mono fun e wv7 ⟨v, he, oG, cG, hv, hOG, hy7⟩ => ?_
    subst hv
    rw [hr] at he hOG
    have n1 := sep_of hX5.own hOG (Nat.le_refl _)
    have n2 := sep_of hW5.own hOG (Nat.le_refl _)
    exact ⟨_, _, _, _, _, _, _, he, kept_of hy7 hs10, fun wr11 hx11 hs11 => ⟨oG, cG, b8, rfl, rfl, (s5.call0 hy7).step hx11, (hW5.call0 hy7).step hx11, (hX5.call0 hy7).step hx11, ((Ob.of hOG hs10).mono s5.ext.size).step hx11, fun x hx => ⟨n1.2 x hx, n2.2 x hx⟩⟩⟩
  rintro w1' l l1 l2 l7O l7L l7C b9 wv9 hq9 ⟨oG, cG, b9', hvs, hbs, s6, hW6, hX6, hG6, hn⟩
  simp only [List.cons.injEq, Value.int.injEq, Value.bool.injEq, Value.slice.injEq, true_and, and_true] at hvs hbs
  obtain ⟨rfl, rfl, rfl, rfl, rfl, rfl, rfl⟩ := hvs
  subst hbs
  have eqRR : ∀ {w : World} {bs : List Nat} {aO bO : Option Addr} {aC bC : Nat}, RdE bs w aO r.1.es → RdE bs w bO r.1.es → PureX bs Try.prog fn_laws_eqQueue #[.agg (encQ r.1 aO aC).toArray, .agg (encQ r.1 bO bC).toArray] w (.bool true) := fun ha hb => by
    rw [show (Value.bool true) = .bool (decide (r.1 = r.1)) by simp]
    exact k_eqQueue ha hb (by omega)
  have eqDD : ∀ {w : World} {bs : List Nat} {aO bO : Option Addr} {aC bC : Nat}, RdE bs w aO D.es → RdE bs w bO D.es → PureX bs Try.prog fn_laws_eqQueue #[.agg (encQ D aO aC).toArray, .agg (encQ D bO bC).toArray] w (.bool true) := fun ha hb => by
    rw [show (Value.bool true) = .bool (decide (D = D)) by simp]
    exact k_eqQueue ha hb (by omega)
  refine ⟨true, eqRR (hG6.rd elt_Entry.len) (hW6.rd elt_Entry.len), fun hbad => by simp at hbad, fun _ wr15 hx15 hs15 => ?_⟩
  have s7 := s6.step hx15
  have hW7 := hW6.step hx15
  have hX7 := hX6.step hx15
  have hG7 := hG6.step hx15
  refine (k_toQueue (hrd.sc s7) hl).mono fun e wv10 ⟨oY, cY, he, hOY, hyY⟩ => ⟨_, _, _, _, _, _, he, kept_of hyY hs15, rfl, true, eqDD ((hX7.call0 hyY).rd elt_Entry.len) ((Ob.of hOY hs15).rd elt_Entry.len), fun hbad => by simp at hbad, fun _ wr17 hx17 hs17 => ?_⟩
  have s8 := (s7.call0 hyY).step hx17
  have hW8 := (hW7.call0 hyY).step hx17
  have hX8 := (hX7.call0 hyY).step hx17
  have hG8 := (hG7.call0 hyY).step hx17
  refine (k_markQueue (q := D) (k := 1) hX8.own hl (by decide) (by decide)).mono fun e wv11 ⟨he, hOM, hyM⟩ => ?_
  have s9 := s8.call hyM fun x hx => (hX8.own.lt x hx).1
  have hW9 := hW8.call hyM fun x hx hx' => sXW.1 x hx hx'
  have hG9 := hG8.call hyM fun x hx => (hn x hx).1
  refine ⟨_, he, kept_sep hyM hs17 hX8.nb, true, fun _ => eqRR (hG9.rd elt_Entry.len) (hW9.rd elt_Entry.len), fun hbad => ?_, fun _ wr19 hx19 hs19 => ?_⟩
  · exfalso
    simp only [Bool.not_true, Bool.or_false, beq_self_eq_true] at hbad
    exact lt_of_kept hbad (by decide)
  have s10 := s9.step hx19
  have hW10 := hW9.step hx19
  have hG10 := hG9.step hx19
  refine (k_markQueue (q := r.1) (k := 1) hG10.own hrl (by decide) (by decide)).mono fun e wv12 ⟨he, hOM2, hyM2⟩ => ?_
  have s11 := s10.call hyM2 fun x hx => (hG10.own.lt x hx).1
  have hW11 := hW10.call hyM2 fun x hx hx' => (hn x hx').2 hx
  have hH11 : ObQ w.heap.size _ wv12 _ _ (markE r.1.es.length 1) := ⟨hOM2, hG10.nb⟩
  refine ⟨_, he, kept_sep hyM2 hs19 hG10.nb, _, k_heldQueue (q := r.1) rfl (hH11.rd elt_Entry.len) hrl (by decide) (by decide), fun hbad => (lt_of_kept hbad (by decide)).elim, fun _ => ⟨fun hbad => by simp at hbad, fun _ => ?_⟩⟩
  refine ⟨fun vs bs wr => ∃ oH cH b13, vs = [.bool r.2, .int .i64 r.1.floor, .int .i64 r.1.cur, .int .i64 r.1.ran, .slice oH r.1.es.length cH] ∧ bs = [b13] ∧ Sc w [b, b1, b2, b6, b9, b13] wr ∧ ObQ w.heap.size [b, b1, b2, b6, b9, b13] wr l3O l3C r.1.es ∧ ObQ w.heap.size [b, b1, b2, b6, b9, b13] wr l7O l7C (markE r.1.es.length 1) ∧ ObQ w.heap.size [b, b1, b2, b6, b9, b13] wr oH cH r.1.es, ⟨fun wr1 hx1 hs1 => ?_, fun b13 hb13 => ⟨rfl, rfl, fun wr1 hx1 hs1 => ?_⟩⟩, ?_⟩
  · have t1 := s11.step hx1
    have hW1 := hW11.step hx1
    have hH1 := hH11.step hx1
    refine (k_toQueue (hrd.sc t1) hl).mono fun e wv ⟨o1, c1, he, hO1, hy1⟩ => ⟨_, _, _, _, _, _, he, kept_of hy1 hs1, rfl, _, _, _, to, fun wr2 hx2 hs2 => ?_, fun b13 hb13 => ⟨to, rfl, rfl, fun wr2 hx2 hs2 => ?_⟩⟩
    · have t2 := (t1.call0 hy1).step hx2
      have hW2 := (hW1.call0 hy1).step hx2
      have hH2 := (hH1.call0 hy1).step hx2
      refine (k_impl_QueueDo (op := op) (((Ob.of hO1 hs1).step hx2).rd0 elt_Entry.len) hl).mono fun e wv1 ⟨v, he, o2, c2, hv, hO2, hy2⟩ => ?_
      subst hv
      rw [hr] at he hO2
      exact ⟨_, _, _, _, _, _, _, he, kept_of hy2 hs2, fun b2 hb2 => ⟨to, rfl, rfl, fun wr3 hx3 hs3 => ⟨o2, c2, b2, rfl, rfl, (t2.call0 hy2).put hx3 hb2, (hW2.call0 hy2).put hx3 hb2, (hH2.call0 hy2).put hx3 hb2, ((Ob.of hO2 hs2).mono t2.ext.size).put hx3 hb2⟩⟩⟩
    · have t2 := (t1.call0 hy1).put hx2 hb13
      have hW2 := (hW1.call0 hy1).put hx2 hb13
      have hH2 := (hH1.call0 hy1).put hx2 hb13
      refine (k_impl_QueueDo (op := op) (((Ob.of hO1 hs1).step hx2).rd0 elt_Entry.len) hl).mono fun e wv1 ⟨v, he, o2, c2, hv, hO2, hy2⟩ => ?_
      subst hv
      rw [hr] at he hO2
      exact ⟨_, _, _, _, _, _, _, he, kept_of hy2 hs2, fun wr3 hx3 hs3 => ⟨o2, c2, b13, rfl, rfl, (t2.call0 hy2).step hx3, (hW2.call0 hy2).step hx3, (hH2.call0 hy2).step hx3, ((Ob.of hO2 hs2).mono t2.ext.size).step hx3⟩⟩
  · have t1 := s11.put hx1 hb13
    have hW1 := hW11.put hx1 hb13
    have hH1 := hH11.put hx1 hb13
    refine (k_toQueue (hrd.sc t1) hl).mono fun e wv ⟨o1, c1, he, hO1, hy1⟩ => ⟨_, _, _, _, _, _, he, kept_of hy1 hs1, rfl, _, _, _, to, fun wr2 hx2 hs2 => ?_⟩
    have t2 := (t1.call0 hy1).step hx2
    have hW2 := (hW1.call0 hy1).step hx2
    have hH2 := (hH1.call0 hy1).step hx2
    refine (k_impl_QueueDo (op := op) (((Ob.of hO1 hs1).step hx2).rd0 elt_Entry.len) hl).mono fun e wv1 ⟨v, he, o2, c2, hv, hO2, hy2⟩ => ?_
    subst hv
    rw [hr] at he hO2
    exact ⟨_, _, _, _, _, _, _, he, kept_of hy2 hs2, fun wr3 hx3 hs3 => ⟨o2, c2, b13, rfl, rfl, (t2.call0 hy2).step hx3, (hW2.call0 hy2).step hx3, (hH2.call0 hy2).step hx3, ((Ob.of hO2 hs2).mono t2.ext.size).step hx3⟩⟩
  rintro w1' l l1 l2 l11O l11L l11C b13 wv18 hq18 ⟨oH, cH, b13', hvs, hbs, s12, hW12, hH12, hI12⟩
  simp only [List.cons.injEq, Value.int.injEq, Value.bool.injEq, Value.slice.injEq, true_and, and_true] at hvs hbs
  obtain ⟨rfl, rfl, rfl, rfl, rfl, rfl, rfl⟩ := hvs
  subst hbs
  exact ⟨true, eqRR (hI12.rd elt_Entry.len) (hW12.rd elt_Entry.len), fun hbad => by simp at hbad, fun _ => ⟨_, k_heldQueue (q := r.1) rfl (hH12.rd elt_Entry.len) hrl (by decide) (by decide), fun hbad => (lt_of_kept hbad (by decide)).elim, fun _ => ⟨fun hbad => by simp at hbad, fun _ wr33 hx33 => ⟨rfl, (s12.step hx33).ext⟩⟩⟩⟩
end Go.Proofs.Ythihcdljmddgfaa
