/- Worlds: a group's share on a processor. -/
import Derived.Test.YthojnihahmlboaaGreatWldC
namespace Go.Proofs.YthojnihahmlboaaGreat
open Go.RowKit
set_option linter.unusedVariables false
set_option maxRecDepth 10000

def allF (W : Wld) (g : Int) (j : Nat) : Int := insS W g (j : Int)
theorem insS_range (W : Wld) (g c : Int) (h : W.tasks.length = 12) : 0 ≤ insS W g c ∧ insS W g c ≤ 240 := by
  have := sumF_range (insF_range W g c) W.tasks.length
  unfold insS
  omega
def maxP (a b : Int) : Int := if a > b then a else b
def shareS (W : Wld) (g c : Int) : Int :=
  if sumF (allF W g) W.cpus.length = 0 then (gi W.groups g).weight else maxP 1 (Int.tdiv ((gi W.groups g).weight * insS W g c) (sumF (allF W g) W.cpus.length))
noncomputable def shareD (W : Wld) (g c : Int) : Int := if worldB W = true ∧ usedD W.groups g = true ∧ g ≠ 0 ∧ cpuIn W c = true then shareS W g c else 0
theorem div_in {a b : Int} (ha : 0 ≤ a) (ha2 : a ≤ 100000) (hb : 0 < b) : InR .i64 (Int.tdiv a b) := by
  have h1 := Int.tdiv_nonneg ha (Int.le_of_lt hb)
  have h2 : Int.tdiv a b ≤ a := by rw [Int.tdiv_eq_ediv_of_nonneg ha]; exact Int.ediv_le_self _ ha
  exact ⟨by omega, by omega⟩
theorem k_spec_l1MaxW {a b : Int} {w : World} {bs : List Nat} : PureX bs Tryz.prog fn_spec_l1Max #[.int .i64 a, .int .i64 b] w (.int .i64 (maxP a b)) := k_spec_l1Max
section
variable {W : Wld} {m : MW} {w : World} {bs : List Nat} {p : Option Addr}
theorem share_prod {g c : Int} (wp : WldP W) (hu : usedD W.groups g = true) : 0 ≤ (gi W.groups g).weight * insS W g c ∧ (gi W.groups g).weight * insS W g c ≤ 4800 := by
  have hw := (wp.a.u hu).2.2
  have hi := insS_range W g c wp.a.t
  have w1 := hw.w1
  have w2 := hw.w2
  refine ⟨Int.mul_nonneg (by omega) hi.1, ?_⟩
  have := Int.mul_le_mul w2 hi.2 hi.1 (show (0 : Int) ≤ 20 by decide)
  omega
theorem all_range {g : Int} (wp : WldP W) (k : Nat) : 0 ≤ sumF (allF W g) k ∧ sumF (allF W g) k ≤ (k : Int) * 240 := sumF_range (fun j => insS_range W g (j : Int) wp.a.t) k
theorem k_spec_l12Share {g c : Int} (h : RdW bs w W m) (wp : WldP W) (hl : LenW W) (hu : usedD W.groups g = true) : PureX bs Tryz.prog fn_spec_l12Share #[.agg (encW W m).toArray, .int .i64 g, .int .i64 c] w (.int .i64 (shareS W g c)) :=
  p_spec_l12Share W.now m.cO W.cpus.length m.cC m.tO W.tasks.length m.tC m.gO W.groups.length m.gC g c fun wr hx => by
    have h := (h.ext hx).less (cs := []) (by simp)
    have hcl := wp.a.c2
    obtain ⟨u1, u2, _⟩ := usedD_iff.1 hu
    intro _ _
    refine loop2 W.cpus.length 0 rfl (fun x k => k ≤ W.cpus.length ∧ x = sumF (allF W g) k) ⟨Nat.zero_le _, rfl⟩ fun x k ⟨hk, hx2⟩ => ⟨fun hlt => ?_, fun hge => ⟨fun g2 => ⟨h.g.ix u1 u2, _, (h.g.cells g u1 u2).get 3 _ rfl, ?_⟩, fun g2 => ?_⟩⟩
    · have hlt := of_decide_eq_true hlt
      have hr := all_range (g := g) wp k
      have hi := insS_range W g (k : Int) wp.a.t
      exact ⟨_, k_spec_l12Inside h wp hl hu, ⟨by omega, by omega⟩, ⟨by omega, by omega⟩, loop2_next (by omega) ⟨by omega, by simp only [sumF]; rw [hx2]; rfl⟩⟩
    · have hge := of_decide_eq_false hge
      have : k = W.cpus.length := by omega
      subst this
      unfold shareS
      rw [if_pos (by rw [← hx2]; simpa using g2)]
    · have hge := of_decide_eq_false hge
      have : k = W.cpus.length := by omega
      subst this
      have hr := all_range (g := g) wp W.cpus.length
      have hp := share_prod (c := c) wp hu
      have hne : x ≠ 0 := by simpa using g2
      refine ⟨h.g.ix u1 u2, _, (h.g.cells g u1 u2).get 3 _ rfl, insS W g c, k_spec_l12Inside h wp hl hu, ⟨by omega, by omega⟩, ⟨hne, div_in hp.1 (by omega) (by omega)⟩, _, k_spec_l1MaxW, ?_⟩
      unfold shareS
      rw [if_neg (by rw [← hx2]; exact hne), hx2]
theorem k_spec_GroupShare {g c : Int} (h : RdW bs w W m) (hl : LenW W) : PureX bs Tryz.prog fn_spec_GroupShare #[.agg (encW W m).toArray, .int .i64 g, .int .i64 c] w (.int .i64 (shareD W g c)) :=
  p_spec_GroupShare W.now m.cO W.cpus.length m.cC m.tO W.tasks.length m.tC m.gO W.groups.length m.gC g c fun wr hx => by
    have h := (h.ext hx).less (cs := []) (by simp)
    have hm := maxLen_le
    have hlc := hl.c
    intro _ _
    refine ⟨_, k_spec_WorldOk h hl.c hl.t hl.g hl.f, _, fun _ => k_spec_l6Used (c := m.gC) h.g, fun _ => ⟨by omega, by omega⟩, _, fun _ => k_spec_l1In, fun q => ?_, fun q => ?_⟩
    · unfold shareD
      rw [if_neg]
      rintro ⟨h1, h2, h3, h4⟩
      have h4 : inB c 0 (((W.cpus.length : Nat) : Int) - 1) = true := h4
      rw [h1, h2, h4, beq_eq_false_iff_ne.2 h3] at q; cases q
    · simp only [Bool.or_eq_false_iff, Bool.not_eq_false', beq_eq_false_iff_ne] at q
      have e : shareD W g c = shareS W g c := by unfold shareD; rw [if_pos ⟨q.1.1.1, q.1.1.2, q.1.2, q.2⟩]
      exact ⟨_, k_spec_l12Share h (decB_t.1 q.1.1.1) hl q.1.1.2, by rw [e]⟩
/-- The parts that have been noted. -/
theorem gi_range_map (f : Nat → Int) (n : Nat) {k : Nat} (hk : k < n) : gi ((List.range n).map f) (k : Int) = f k := by
  rw [gi_lt (by simpa using hk)]; simp
theorem sumI_map (f : Nat → Int) (n : Nat) : sumI ((List.range n).map f) n = sumF f n := by
  have key : ∀ k : Nat, k ≤ n → sumI ((List.range n).map f) k = sumF f k := fun k => by
    induction k with
    | zero => intro _; rfl
    | succ k ih =>
      intro hk
      simp only [sumI, sumF]
      rw [ih (by omega), gi_range_map f n (by omega)]
  exact key n (Nat.le_refl _)
theorem range_app (f : Nat → Int) (k : Nat) : (List.range k).map f ++ [f k] = (List.range (k + 1)).map f := by
  rw [List.range_succ, List.map_append]; rfl
theorem k_impl_share {g c : Int} (h : WPt bs w p W m) (wp : WldP W) (hu : usedD W.groups g = true) (c0 : 0 ≤ c) (c1 : c < (W.cpus.length : Int)) : PureX bs Tryz.prog fn_impl_lane_share #[.agg #[.pointer p, .int .i64 c], .int .i64 g] w (.int .i64 (shareS W g c)) := by
  refine pureX_of fun wr0 hx0 => e_impl_lane_share p c g (R := fun v w' => v = .int .i64 (shareS W g c) ∧ ExtX [] wr0 w') ?_
  have h := (h.ext hx0).less (cs := []) (by simp)
  have hcl := wp.a.c2
  obtain ⟨u1, u2, _⟩ := usedD_iff.1 hu
  intro b hb
  refine ⟨h.some, _, _, _, h.cpus, ?_⟩
  refine ⟨fun vs w1 => ∃ (k : Nat) (o : Option Addr) (c' : Nat), vs = [.slice o ((List.range k).map (allF W g)).length c', .int .i64 (k : Int)] ∧ k ≤ W.cpus.length ∧ Sc wr0 [b] w1 ∧ Ob encI 1 ty_int wr0.heap.size [b] w1 o c' ((List.range k).map (allF W g)), cntMw W.cpus.length 1,
    fun wr hx _ => ⟨0, none, 0, rfl, Nat.zero_le _, ((Sc.start wr0).call0 hx |> fun s => ⟨s.ext, by simpa using hb⟩), ⟨.inl ⟨rfl, rfl, rfl⟩, by simp [blkOf]⟩⟩, ?_⟩
  rintro o1 L1 C1 x w1 hs1 ⟨k, o', c', he, hk, s1, hO⟩
  simp only [List.cons.injEq, Value.int.injEq, Value.slice.injEq, true_and, and_true] at he
  obtain ⟨⟨rfl, rfl, rfl⟩, rfl⟩ := he
  have hp := h.sc s1
  refine ⟨fun hlt => ?_, fun hge => ?_⟩
  · have hlt := of_decide_eq_true hlt
    refine ⟨p, (k : Int), k_impl_lane, insS W g (k : Int), k_impl_ins hp wp, fun b1 hb1 wr1 hx1 hs2 hcell => ?_⟩
    have s2 := s1.put hx1 hb1
    have hO2 := hO.put hx1 hb1
    obtain ⟨o2, c2, w2, hrun, hk2, hO3, hx2⟩ := hO2.app1 elt_Int u_sl_int (x := allF W g k) hs2 s2.ext.size hcell (oneI _) (by simp; omega) (by decide) ty_sl_int #[false, false]
    have s3 := s2.call hx2 fun x hm => (hO2.own.lt x hm).1
    rw [range_app] at hrun hO3
    exact ⟨_, _, _, w2, hrun, hk2, ⟨by omega, by omega⟩, fun wr2 hx3 _ => ⟨⟨k + 1, o2, c2, by simp, by omega, (s3.step hx3).sub (by simp), (hO3.step hx3).sub (by simp)⟩, cntM_ltW (k := k) rfl rfl (by omega)⟩⟩
  · have hge := of_decide_eq_false hge
    have : k = W.cpus.length := by omega
    subst this
    have hr := all_range (g := g) wp W.cpus.length
    have hpr := share_prod (c := c) wp hu
    have hlen : ((List.range W.cpus.length).map (allF W g)).length = W.cpus.length := by simp
    have htot : sumI ((List.range W.cpus.length).map (allF W g)) ((List.range W.cpus.length).map (allF W g)).length = sumF (allF W g) W.cpus.length := by rw [hlen, sumI_map]
    have hgi : gi ((List.range W.cpus.length).map (allF W g)) c = insS W g c := by
      have := gi_range_map (allF W g) W.cpus.length (k := c.toNat) (by omega)
      rw [show ((c.toNat : Nat) : Int) = c by omega] at this
      rw [this]; unfold allF
      rw [show ((c.toNat : Nat) : Int) = c by omega]
    have hc' : c < (((List.range W.cpus.length).map (allF W g)).length : Int) := by rw [hlen]; exact c1
    have hci := (hO.rd elt_Int.len) c c0 hc'
    rw [hgi] at hci
    refine ⟨h.some, _, _, _, hp.groups, h.rd.g.ix u1 u2, _, (hp.rd.g.cells g u1 u2).get 3 _ rfl, _, k_impl_total (hO.rd elt_Int.len) (by rw [hlen]; omega) (fun x hm => ?_), fun g2 wr3 hx3 => ⟨?_, (s1.step hx3).ext⟩, fun g2 => ⟨hO.own.ix c0 hc', insS W g c, hci, ⟨by omega, by omega⟩, ?_, fun wr4 hx4 => ⟨?_, (s1.step hx4).ext⟩⟩⟩
    · obtain ⟨j, _, rfl⟩ := List.mem_map.1 hm
      have := insS_range W g (j : Int) wp.a.t
      unfold allF
      omega
    · rw [htot] at g2
      unfold shareS
      rw [if_pos (by simpa using g2)]
    · rw [htot] at g2 ⊢
      have hne : sumF (allF W g) W.cpus.length ≠ 0 := by simpa using g2
      exact ⟨hne, div_in hpr.1 (by omega) (by omega)⟩
    · rw [htot] at g2 ⊢
      have hne : sumF (allF W g) W.cpus.length ≠ 0 := by simpa using g2
      unfold shareS
      rw [if_neg hne]
      congr 1
      unfold maxP
      split <;> split <;> omega
theorem k_impl_GroupShare {g c : Int} (h : RdW bs w W m) (hl : LenW W) : PureX bs Tryz.prog fn_impl_GroupShare #[.agg (encW W m).toArray, .int .i64 g, .int .i64 c] w (.int .i64 (shareD W g c)) := by
  refine pureX_of fun wr0 hx0 => e_impl_GroupShare W.now m.cO W.cpus.length m.cC m.tO W.tasks.length m.tC m.gO W.groups.length m.gC g c (R := fun v w' => v = .int .i64 (shareD W g c) ∧ ExtX [] wr0 w') ?_
  have h := (h.ext hx0).less (cs := []) (by simp)
  intro b wb hxb hb hcell _
  have hrd := h.ext hxb
  have hp := wpt_of (bs := []) hcell hrd (ExtX.refl _ _) (by simp)
  refine ⟨_, _, _, _, _, _, _, _, _, _, fun _ => hp.cs, _, fun _ => k_impl_WorldOk hrd hl.c hl.g hl.f, _, _, _, fun _ => hp.groups, _, fun _ => k_impl_groupUsed (c := m.gC) hrd.g hl.g, cpuIn W c, fun _ => by exact k_impl_cpuThere hp hl.c, fun q wr hx => ⟨?_, hxb.trans hx⟩, fun q => ?_⟩
  · unfold shareD
    rw [if_neg]
    rintro ⟨h1, h2, h3, h4⟩
    rw [h1, h2, h4, beq_eq_false_iff_ne.2 h3] at q; cases q
  simp only [Bool.or_eq_false_iff, Bool.not_eq_false', beq_eq_false_iff_ne] at q
  obtain ⟨c0, c1⟩ := cpuIn_t q.2
  have wp := decB_t.1 q.1.1.2
  have e : shareD W g c = shareS W g c := by unfold shareD; rw [if_pos ⟨q.1.1.2, q.1.2, q.1.1.1, q.2⟩]
  rw [e]
  exact ⟨some ⟨b, 0, none⟩, c, by exact k_impl_lane, _, k_impl_share hp wp q.1.2 c0 c1, fun wr hx => ⟨rfl, hxb.trans hx⟩⟩
end
end Go.Proofs.YthojnihahmlboaaGreat
