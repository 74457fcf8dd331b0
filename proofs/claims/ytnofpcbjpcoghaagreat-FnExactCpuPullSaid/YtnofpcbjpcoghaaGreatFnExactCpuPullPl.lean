/- Part 12 of what the law FnExactCpuPull needs: the engine, the functions' propositions, the contracts. -/
import Derived.Test.YtnofpcbjpcoghaaGreatFnExactCpuPullPk
import Derived.Shelf.Abstract
namespace Go.Proofs.YtnofpcbjpcoghaaGreat
open Go.RowKit
set_option linter.unusedVariables false
set_option linter.unusedSimpArgs false
set_option maxRecDepth 10000
def ltL (W : Wld) (a b : Int) : Bool := decide (loadS W a > loadS W b)
def bsyN (W : Wld) (c m : Int) : Nat → Int
  | 0 => -1
  | k + 1 => if ((mHas m (k : Int) && anyC W (k : Int) c) && (decide (bsyN W c m k < 0) || ltL W (k : Int) (bsyN W c m k))) = true then (k : Int) else bsyN W c m k
theorem bsyN_yes {W : Wld} {c m : Int} {k : Nat} (h : ((mHas m (k : Int) && anyC W (k : Int) c) && (decide (bsyN W c m k < 0) || ltL W (k : Int) (bsyN W c m k))) = true) : bsyN W c m (k + 1) = (k : Int) := if_pos h
theorem bsyN_no {W : Wld} {c m : Int} {k : Nat} (h : ¬ ((mHas m (k : Int) && anyC W (k : Int) c) && (decide (bsyN W c m k < 0) || ltL W (k : Int) (bsyN W c m k))) = true) : bsyN W c m (k + 1) = bsyN W c m k := if_neg h
theorem anyB_no {p : Nat → Bool} {n : Nat} (h : p n = false) : anyB p (n + 1) = anyB p n := by simp [anyB, h]
theorem bsyN_range (W : Wld) (c m : Int) : ∀ k : Nat, -1 ≤ bsyN W c m k ∧ bsyN W c m k < k
  | 0 => by simp [bsyN]
  | k + 1 => by
    have := bsyN_range W c m k
    simp only [bsyN]
    split <;> omega
noncomputable def busyD (W : Wld) (c lv : Int) : Int := bsyN W c (spD (W.cpus.length : Int) c lv) W.cpus.length
theorem any_at {W : Wld} (wp : WldP W) {b c : Int} (h : anyC W b c = true) : 0 ≤ b ∧ b < (W.cpus.length : Int) ∧ b ≠ c := by
  obtain ⟨t, ht, hp⟩ := anyB_t.1 h
  simp only [Bool.and_eq_true, beq_iff_eq] at hp
  obtain ⟨h1, h2⟩ := could_other hp.2
  have := wp.li (t := (t : Int)) (by omega) (by have := wp.a.t; omega) h1
  rw [hp.1] at this h2
  exact ⟨this.2.1, this.2.2, h2⟩
def candL (W : Wld) (c m : Int) (k : Nat) : List Int := (setM m k).filter fun x => anyC W x c
theorem bestN_app {lt : Int → Int → Bool} {l r : List Int} : ∀ k : Nat, k ≤ l.length → bestN lt (l ++ r) k = bestN lt l k
  | 0, _ => rfl
  | k + 1, hk => by
    have e : gi (l ++ r) (k : Int) = gi l (k : Int) := by
      unfold gi
      rw [Int.toNat_natCast]
      simp [List.getElem?_append_left (show k < l.length by omega)]
    simp only [bestN]
    rw [bestN_app k (by omega), e]
theorem bestN_snoc {lt : Int → Int → Bool} {l : List Int} {x : Int} : bestN lt (l ++ [x]) (l ++ [x]).length = if (!(bestN lt l l.length).2 || lt x (bestN lt l l.length).1) = true then (x, true) else bestN lt l l.length := by
  rw [List.length_append, List.length_singleton]
  simp only [bestN]
  rw [bestN_app l.length (Nat.le_refl _), gi_app_len l [] x]
theorem cand_best (W : Wld) (c m : Int) : ∀ k : Nat, bestN (ltL W) (candL W c m k) (candL W c m k).length = if bsyN W c m k < 0 then (0, false) else (bsyN W c m k, true)
  | 0 => rfl
  | k + 1 => by
    have ih := cand_best W c m k
    have hr := bsyN_range W c m k
    cases hh : mHas m (k : Int) with
    | false =>
      have : candL W c m (k + 1) = candL W c m k := by unfold candL; rw [setM_skip hh]
      rw [this, ih, bsyN_no (by rw [hh]; simp)]
    | true =>
      cases ha : anyC W (k : Int) c with
      | false =>
        have : candL W c m (k + 1) = candL W c m k := by unfold candL; rw [setM_step hh, List.filter_append]; simp [ha]
        rw [this, ih, bsyN_no (by rw [hh, ha]; simp)]
      | true =>
        have : candL W c m (k + 1) = candL W c m k ++ [(k : Int)] := by unfold candL; rw [setM_step hh, List.filter_append]; simp [ha]
        rw [this, bestN_snoc, ih]
        by_cases hn : bsyN W c m k < 0
        · rw [if_pos hn, bsyN_yes (by rw [hh, ha, decide_eq_true hn]; rfl), if_neg (by omega : ¬ (k : Int) < 0), if_pos (by rfl)]
        · rw [if_neg hn]
          cases hl : ltL W (k : Int) (bsyN W c m k) with
          | true => rw [bsyN_yes (by rw [hh, ha, hl]; simp), if_neg (by omega : ¬ (k : Int) < 0), if_pos (by rfl)]
          | false => rw [bsyN_no (by rw [hh, ha, hl, decide_eq_false hn]; simp), if_neg hn, if_neg (by simp)]
theorem bsy_high {W : Wld} {c lv : Int} (h4 : W.cpus.length ≤ 4) : bsyN W c (spD (W.cpus.length : Int) c lv) 4 = busyD W c lv := by
  unfold busyD
  have key : ∀ j : Nat, W.cpus.length + j ≤ 4 → bsyN W c (spD (W.cpus.length : Int) c lv) (W.cpus.length + j) = bsyN W c (spD (W.cpus.length : Int) c lv) W.cpus.length := by
    intro j
    induction j with
    | zero => intro _; rfl
    | succ j ih =>
      intro hj
      rw [show W.cpus.length + (j + 1) = (W.cpus.length + j) + 1 from rfl]
      rw [bsyN_no (by rw [spD_high (by omega) (by omega)]; simp), ih (by omega)]
  have := key (4 - W.cpus.length) (by omega)
  rwa [show W.cpus.length + (4 - W.cpus.length) = 4 by omega] at this
section
variable {W : Wld} {m : MW} {w : World} {bs : List Nat} {p : Option Addr}
theorem k_spec_l12Busiest {s c : Int} (h : RdW bs w W m) (wp : WldP W) (c0 : 0 ≤ c) (c1 : c < (W.cpus.length : Int)) : PureX bs Tryz.prog fn_spec_l12Busiest #[.agg (encW W m).toArray, .int .i64 s, .int .i64 c] w (.int .i64 (bsyN W c s W.cpus.length)) :=
  p_spec_l12Busiest W.now m.cO W.cpus.length m.cC m.tO W.tasks.length m.tC m.gO W.groups.length m.gC s c fun wr hx => by
    have h := (h.ext hx).less (cs := []) (by simp)
    have h4 := wp.a.c2
    have htl := wp.a.t
    intro _ _
    refine loop2 W.cpus.length 0 rfl (fun x k => k ≤ W.cpus.length ∧ x = bsyN W c s k) ⟨Nat.zero_le _, rfl⟩ fun x k ⟨hk, hx2⟩ => ⟨fun hlt => ?_, fun hge => ?_⟩
    · subst hx2
      have hlt := of_decide_eq_true hlt
      have hr := bsyN_range W c s k
      refine ⟨_, fun _ => k_spec_MaskHas, _, fun _ _ => k_spec_l12Load h wp, _, fun _ _ => k_spec_l12Load h wp, fun g => ?_, fun g => ?_⟩
      · refine ⟨⟨by omega, by omega⟩, loop2_next (by omega) ⟨by omega, ?_⟩⟩
        rw [bsyN_no]
        intro hc
        simp only [Bool.and_eq_true] at hc
        have hne := (any_at wp hc.1.2).2.2
        rw [beq_eq_false_iff_ne.2 hne, hc.1.1] at g
        simp only [Bool.not_true, Bool.or_self, Bool.false_or, Bool.and_eq_true, decide_eq_true_eq] at g
        unfold ltL at hc
        simp only [Bool.or_eq_true, decide_eq_true_eq] at hc
        omega
      · simp only [Bool.or_eq_false_iff, Bool.not_eq_false'] at g
        obtain ⟨⟨g1, g2⟩, g3⟩ := g
        have hb : (decide (bsyN W c s k < 0) || ltL W (k : Int) (bsyN W c s k)) = true := by
          unfold ltL
          simp only [Bool.or_eq_true, decide_eq_true_eq]
          simp only [Bool.and_eq_false_iff, decide_eq_false_iff_not] at g3
          omega
        refine loop2 12 0 rfl (fun y j => j ≤ 12 ∧ y = if anyB (fun t => ((tkk W (t : Int)).cpu == (k : Int)) && couldD W (t : Int) c) j = true then (k : Int) else bsyN W c s k) ⟨Nat.zero_le _, rfl⟩ fun y j ⟨hj, hy⟩ => ⟨fun hlt2 => ?_, fun hge2 => ?_⟩
        · have hlt2 := of_decide_eq_true hlt2
          have hj12 : j < 12 := by omega
          refine ⟨h.t.ix encT_c (by omega) hlt2, _, h.t.f (by omega) hlt2 (j := 2) rfl, _, fun _ => k_spec_l12Could h wp (by omega) hlt2 c0 c1, fun g4 => ?_, fun g4 => ?_⟩
          · have g4 : (((tkk W (j : Int)).cpu == (k : Int)) && couldD W (j : Int) c) = true := g4
            refine ⟨⟨by omega, by omega⟩, loop2_next hj12 ⟨by omega, ?_⟩⟩
            rw [if_pos]
            simp only [anyB, Bool.or_eq_true]
            exact .inr g4
          · have g4 : (((tkk W (j : Int)).cpu == (k : Int)) && couldD W (j : Int) c) = false := g4
            refine ⟨⟨by omega, by omega⟩, loop2_next hj12 ⟨by omega, ?_⟩⟩
            rw [hy, anyB_no (p := fun t => ((tkk W (t : Int)).cpu == (k : Int)) && couldD W (t : Int) c) g4]
        · have hge2 := of_decide_eq_false hge2
          have : j = 12 := by omega
          subst this
          refine ⟨⟨by omega, by omega⟩, loop2_next (by omega) ⟨by omega, ?_⟩⟩
          rw [hy]
          show (if anyC W (k : Int) c = true then (k : Int) else bsyN W c s k) = _
          cases ha : anyC W (k : Int) c with
          | true => rw [bsyN_yes (by rw [g2, ha, hb]; rfl), if_pos rfl]
          | false => rw [bsyN_no (by rw [ha]; simp), if_neg (by decide)]
    · have hge := of_decide_eq_false hge
      have : k = W.cpus.length := by omega
      subst this
      rw [hx2]
theorem filt_at {P : Int → Bool} {l : List Int} {k : Nat} (hk : k < l.length) : (P (gi l (k : Int)) = true → ((l.take k).filter P).length < (l.filter P).length ∧ gi (l.filter P) (((l.take k).filter P).length : Int) = gi l (k : Int) ∧ (l.take (k + 1)).filter P = (l.take k).filter P ++ [gi l (k : Int)]) ∧
    (P (gi l (k : Int)) = false → (l.take (k + 1)).filter P = (l.take k).filter P) := by
  have e1 : l.take (k + 1) = l.take k ++ [gi l (k : Int)] := by rw [List.take_succ_eq_append_getElem hk, gi_lt hk]
  have e2 : l = l.take k ++ (gi l (k : Int) :: l.drop (k + 1)) := by
    conv => lhs; rw [← List.take_append_drop (k + 1) l, e1, List.append_assoc]
    rfl
  refine ⟨fun h => ?_, fun h => ?_⟩
  · have e3 : l.filter P = (l.take k).filter P ++ (gi l (k : Int) :: (l.drop (k + 1)).filter P) := by
      conv => lhs; rw [e2, List.filter_append]
      simp [h]
    refine ⟨by rw [e3]; simp, ?_, by rw [e1, List.filter_append]; simp [h]⟩
    rw [e3]
    exact gi_app_len _ _ _
  · rw [e1, List.filter_append]; simp [h]
theorem cell_keep {W1 W2 : World} {b : Nat} {v : Value} {ys : List Nat} (h : CellsX [] W1 (some ⟨b, 0, none⟩) 0 [v]) (hx : ExtX ys W1 W2) (hb : b ∉ ys) : CellsX [] W2 (some ⟨b, 0, none⟩) 0 [v] := by
  obtain ⟨a, ha, _, hc⟩ := h.get 0 _ rfl
  cases ha
  have hw : CellX ys W1 (some ⟨b, 0, none⟩) (0 + 0) v := ⟨_, rfl, hb, hc⟩
  obtain ⟨a2, ha2, _, hc2⟩ := hw.ext hx
  cases ha2
  exact cellsX_one ⟨_, rfl, by simp, hc2⟩
theorem cell_in {W1 : World} {b : Nat} {v : Value} (h : CellsX [] W1 (some ⟨b, 0, none⟩) 0 [v]) : b < W1.heap.size := by
  obtain ⟨a, ha, _, hc⟩ := h.get 0 _ rfl
  cases ha
  have := World.block_lt_of_cell? W1 _ hc
  rwa [add_block] at this
theorem bsy_shape : bodyOf Tryz.f53 = seqs t_impl_lane_busiest_1_pre (.block 0 (.rangeFunc (.tmp 17) #[18] t_impl_lane_busiest_1_asg t_impl_lane_busiest_1_body)) := by kernel_rfl
theorem it_busiest {c lv : Int} {b b1 : Nat} {I : Nat → World → Prop} (wp : WldP W) (c0 : 0 ≤ c) (c1 : c < (W.cpus.length : Int)) (hp : WPt [] w p W m) (hbx : CellsX [] w (some ⟨b, 0, none⟩) 0 [.pointer p, .int .i64 c]) (hb1 : CellsX [] w (some ⟨b1, 0, none⟩) 0 [.int .i64 lv]) (hI : ∀ k W1, I k W1 → ExtX [] w W1) :
    IterY Tryz.prog fn_impl_lane_busiest_1 #[.pointer (some ⟨b, 0, none⟩), .pointer (some ⟨b1, 0, none⟩)] (candL W c (spD (W.cpus.length : Int) c lv) 4).length (fun k => [.int .i64 (gi (candL W c (spD (W.cpus.length : Int) c lv) 4) (k : Int))]) I w := by
  intro l0 J Jx Wc hxc hJI hAJ hAx hY h0
  obtain ⟨M, hM⟩ : ∃ M, M = setM (spD (W.cpus.length : Int) c lv) 4 := ⟨_, rfl⟩
  have hcand : candL W c (spD (W.cpus.length : Int) c lv) 4 = M.filter fun x => anyC W x c := by rw [hM]; rfl
  rw [hcand] at hY ⊢
  refine calls_marks2 (args := [.func (.yield l0) #[] #[], .pointer (some ⟨b, 0, none⟩), .pointer (some ⟨b1, 0, none⟩)]) (n := 44) Tryz.func53 (body := bodyOf Tryz.f53) rfl (by kernel_rfl) (by simp) fun a hn ha hd => ?_
  rw [bsy_shape]
  have a0 := ha 0 _ rfl
  have a1 := ha 1 _ rfl
  have a2 := ha 2 _ rfl
  refine g_impl_lane_busiest_1_pre none (.yield l0) #[] #[] (some ⟨b, 0, none⟩) (some ⟨b1, 0, none⟩) (R := fun e vs w1 => e = .normal ∧ ∃ bm b3 : Nat, vs = [.func (.func fn_impl_cpuSet_members_1) #[] #[.pointer (some ⟨bm, 0, none⟩)], .pointer (some ⟨b3, 0, none⟩)] ∧ CellsX [] w1 (some ⟨bm, 0, none⟩) 0 [.int .i64 (spD (W.cpus.length : Int) c lv)] ∧ CellsX [] w1 (some ⟨b3, 0, none⟩) 0 [.func (.yield l0) #[] #[]] ∧ Wc.heap.size ≤ bm ∧ Wc.heap.size ≤ b3 ∧ ExtX [] Wc w1) hn ?_ ?_ ?_ (fun e vs a1 w1 hne hR _ => absurd hR.1 hne)
  · intro q hq
    simp only [List.mem_cons, List.not_mem_nil, or_false] at hq
    rcases hq with rfl | rfl | rfl
    · exact ⟨Nat.le_of_ble_eq_true rfl, a0⟩
    · exact ⟨Nat.le_of_ble_eq_true rfl, a1⟩
    · exact ⟨Nat.le_of_ble_eq_true rfl, a2⟩
  · intro b3 wb hx hb0 hcell _
    have hxw := hxc.trans hx
    have hpb := hp.ext hxw
    have hbb := hbx.ext hxw
    refine ⟨rfl, p, hbb.get 0 _ rfl, hpb.some, _, _, _, hpb.cpus, rfl, c, hbb.get 1 _ rfl, lv, hb1.ext hxw, _, k_impl_DomainSpan, fun wr hx2 _ => ?_⟩
    refine (k_members (m := spD (W.cpus.length : Int) c lv)).mono fun e w2 ⟨bm, hbm, he, hcm, hx3⟩ => ⟨_, _, _, he, kept_nil, fun wr1 hx4 => ⟨rfl, bm, b3, rfl, hcm.ext hx4, ?_, by have := hx.size; have := hx2.size; omega, hb0, ((hx.trans hx2).trans hx3).trans hx4⟩⟩
    exact (((box_cell ⟨_, hcell⟩).ext hx2).ext hx3).ext hx4
  rintro vs a3 w2 ⟨_, bm, b3, rfl, hcm, hc3, hbm, hb3', hX⟩ fo
  obtain ⟨o17, o3⟩ : a3.tmps.getD 17 undef = .func (.func fn_impl_cpuSet_members_1) #[] #[.pointer (some ⟨bm, 0, none⟩)] ∧ a3.tmps.getD 3 undef = .pointer (some ⟨b3, 0, none⟩) := by
    have := fo.out
    simp only [List.map_cons, List.map_nil, List.cons.injEq, and_true] at this
    exact this
  have o1 := (fo.kept 1 (by decide +kernel)).trans a1
  have hsz3 : a3.tmps.size = 44 := by rw [fo.size, hn]
  have hd3 : a3.defers = [] := by rw [fo.defers, hd]
  have hWc := hX.size
  have hbmL := cell_in hcm
  have hb3L := cell_in hc3
  have noR : ∀ w', (results Tryz.f53 a3.tmps).run Tryz.prog w' = .ok (.tuple #[]) w' := fun w' => results_none (by kernel_rfl) _ _ _
  refine wpIn_block (rangeY (gf := fn_impl_cpuSet_members_1) (lb := #[.pointer (some ⟨bm, 0, none⟩)]) o17 (enters_of Tryz.func106 (by kernel_rfl) rfl)
    (fun k W1 => J ((M.take k).filter fun x => anyC W x c).length W1 ∧ CellsX [] W1 (some ⟨bm, 0, none⟩) 0 [.int .i64 (spD (W.cpus.length : Int) c lv)] ∧ CellsX [] W1 (some ⟨b3, 0, none⟩) 0 [.func (.yield l0) #[] #[]]) (fun cd W1 => cd = .ret ∧ Jx () W1) M.length (fun k => [.int .i64 (gi M (k : Int))])
    (fun k W1 W2 ys h hx hy => ⟨hAJ _ _ _ ys h.1 hx fun y hm => by have := hy y hm; omega, cell_keep h.2.1 hx fun hm => by have := hy _ hm; omega, cell_keep h.2.2 hx fun hm => by have := hy _ hm; omega⟩)
    (fun cd W1 W2 ys h hx hy => ⟨h.1, hAx _ _ _ ys h.2 hx fun y hm => by have := hy y hm; omega⟩)
    ⟨hAJ 0 _ _ [] h0 hX (by simp), hcm, hc3⟩ (fun k => rfl) (by
      have := it_members (m := spD (W.cpus.length : Int) c lv) (bm := bm) (w := w2) (I := fun k W1 => J ((M.take k).filter fun x => anyC W x c).length W1 ∧ CellsX [] W1 (some ⟨bm, 0, none⟩) 0 [.int .i64 (spD (W.cpus.length : Int) c lv)] ∧ CellsX [] W1 (some ⟨b3, 0, none⟩) 0 [.func (.yield l0) #[] #[]]) (fun k W1 h => h.2.1)
      rw [← hM] at this
      exact this) ?_ ?_ ?_)
  · intro l k W1 hk ⟨hJk, hCm, hC3⟩ hl
    rw [fold_one]
    refine g_impl_lane_busiest_1_asg (some l) (gi M (k : Int)) (R := fun e vs W2 => e = .normal ∧ vs = [.int .i64 (gi M (k : Int))] ∧ ExtX [] W1 W2) (by simpa using hsz3) (fun q hq => ?_) (fun wr hx => ⟨rfl, rfl, hx⟩) fun e vs a4 W2 hR fo4 => ?_
    · simp only [List.mem_cons, List.not_mem_nil, or_false] at hq
      subst hq
      exact ⟨Nat.le_of_ble_eq_true rfl, getD_set_same (i := 18) (by rw [hsz3]; decide)⟩
    obtain ⟨rfl, rfl, hx4⟩ := hR
    have q4 : a4.tmps.getD 4 undef = .int .i64 (gi M (k : Int)) := by
      have := fo4.out
      simpa using this
    have q1 : a4.tmps.getD 1 undef = .pointer (some ⟨b, 0, none⟩) := ((fo4.kept 1 (by decide +kernel)).trans (getD_set_other (i := 18) (j := 1) (by decide))).trans o1
    have q3 : a4.tmps.getD 3 undef = .pointer (some ⟨b3, 0, none⟩) := ((fo4.kept 3 (by decide +kernel)).trans (getD_set_other (i := 18) (j := 3) (by decide))).trans o3
    refine ⟨⟨[], hx4, by simp⟩, fun W3 hx5 => ?_⟩
    have hly : ∀ y ∈ [l], w2.heap.size ≤ y := by simpa using hl
    have hJ3 : J ((M.take k).filter fun x => anyC W x c).length W3 := hAJ _ _ _ [l] (hAJ _ _ _ [] hJk hx4 (by simp)) hx5 fun y hm => by have := hly y hm; omega
    have hm3 := cell_keep (hCm.ext hx4) hx5 (fun hm => by have := hly _ hm; omega)
    have hy3 := cell_keep (hC3.ext hx4) hx5 (fun hm => by have := hly _ hm; omega)
    have hb3W := cell_in hy3
    have hW3 : ExtX [] w W3 := hI _ _ (hJI _ _ hJ3)
    have hp3 := hp.ext hW3
    have hb3 := hbx.ext hW3
    have htl := wp.a.t
    obtain ⟨F1, F2⟩ := filt_at (P := fun x => anyC W x c) (l := M) hk
    refine g_impl_lane_busiest_1_body (some l) (some ⟨b, 0, none⟩) (some ⟨b3, 0, none⟩) (gi M (k : Int)) (R := fun e _ W4 => (∃ X, ExtX X W3 W4 ∧ ∀ x ∈ X, x < w2.heap.size) ∧ ((e = .normal ∧ J ((M.take (k + 1)).filter fun x => anyC W x c).length W4 ∧ CellsX [] W4 (some ⟨bm, 0, none⟩) 0 [.int .i64 (spD (W.cpus.length : Int) c lv)] ∧ CellsX [] W4 (some ⟨b3, 0, none⟩) 0 [.func (.yield l0) #[] #[]]) ∨ (e = .ret ∧ Jx () W4))) (by rw [fo4.size]; simpa using hsz3) (fun q hq => ?_) ?_ fun e vs a5 W4 hR _ => ?_
    · simp only [List.mem_cons, List.not_mem_nil, or_false] at hq
      rcases hq with rfl | rfl | rfl
      · exact ⟨Nat.le_of_ble_eq_true rfl, q1⟩
      · exact ⟨Nat.le_of_ble_eq_true rfl, q3⟩
      · exact ⟨Nat.le_of_ble_eq_true rfl, q4⟩
    · refine ⟨rfl, p, hb3.get 0 _ rfl, hp3.some, _, _, _, hp3.tasks, ?_⟩
      refine loop1w 12 0 rfl (fun j w5 => j ≤ 12 ∧ ExtX [] W3 w5 ∧ ∀ i : Nat, i < j → (((tkk W (i : Int)).cpu == gi M (k : Int)) && couldD W (i : Int) c) = false) (fun w5 hx6 _ => ⟨Nat.zero_le _, hx6, fun i hi => absurd hi (Nat.not_lt_zero i)⟩) fun j w5 _ ⟨hj, hX5, hno⟩ => ⟨fun hlt => ?_, fun hge wr hx6 => ?_⟩
      · have hlt := of_decide_eq_true hlt
        have hj12 : j < 12 := by omega
        have hp5 := hp3.ext hX5
        refine ⟨hp5.rd.t.ix encT_c (by omega) hlt, _, _, _, _, _, _, _, _, _, hp5.rd.t j (by omega) hlt, fun b' hb' => ⟨p, c, fun _ => hb3.ext hX5, _, fun _ => k_impl_couldRun hp5 wp (by omega) hlt c0 c1, fun g => ?_, fun g => ⟨⟨by omega, by omega⟩, fun wr hx6 _ => loop1w_next hj12 ⟨by omega, hX5.trans hx6, fun i hi => ?_⟩⟩⟩⟩
        · have g : (((tkk W (j : Int)).cpu == gi M (k : Int)) && couldD W (j : Int) c) = true := g
          have hany : anyC W (gi M (k : Int)) c = true := anyB_t.2 ⟨j, hj12, g⟩
          obtain ⟨f1, f2, f3⟩ := F1 hany
          refine ⟨.yield l0, #[], #[], hy3.ext hX5, fun wr1 hx6 hs6 => ?_⟩
          have hxa := hX5.trans hx6
          have hc := hY _ wr1 f1 (hAJ _ _ _ [] hJ3 hxa (by simp))
          dsimp only at hc
          rw [f2] at hc
          have hsz5 := hX5.size
          have hsz6 := hx6.size
          have hb6 : b' < wr1.heap.size := hs6 b' (by simp)
          refine hc.mono fun e w6 ⟨⟨X, hXX, hXl⟩, hr⟩ => ?_
          have hk6 : Kept [b'] wr1 w6 := fun x hm => by
            have : x = b' := by simpa using hm
            subst this
            exact hXX.block x hb6 fun hmX => by have := hXl x hmX; omega
          have outX : ∀ wr2, ExtX [b'] w6 wr2 → ∃ X, ExtX X W3 wr2 ∧ ∀ x ∈ X, x < w2.heap.size := fun wr2 hx7 => ⟨X, (hxa.of_nil.trans hXX).fresh hx7 fun x hm => .inl (by
            have : x = b' := by simpa using hm
            omega), fun x hm => by have := hXl x hm; omega⟩
          have hby : ∀ y ∈ [b'], Wc.heap.size ≤ y := by
            intro y hm
            have : y = b' := by simpa using hm
            omega
          rcases hr with ⟨he, hJn⟩ | ⟨he, hJx⟩
          · refine ⟨true, he, hk6, fun g => (by cases g), fun _ wr2 hx7 => ⟨outX wr2 hx7, .inl ⟨rfl, ?_, ?_, ?_⟩⟩⟩
            · rw [f3, List.length_append]
              exact hAJ _ _ _ [b'] hJn hx7 hby
            · exact cell_keep (cell_keep (hm3.ext hxa) hXX fun hm => by have := hXl _ hm; omega) hx7 fun hm => by
                have : bm = b' := by simpa using hm
                have := cell_in hm3
                omega
            · exact cell_keep (cell_keep (hy3.ext hxa) hXX fun hm => by have := hXl _ hm; omega) hx7 fun hm => by
                have : b3 = b' := by simpa using hm
                have := cell_in hy3
                omega
          · exact ⟨false, he, hk6, fun _ wr2 hx7 => ⟨outX wr2 hx7, .inr ⟨rfl, hAx _ _ _ [b'] hJx hx7 hby⟩⟩, fun g => (by cases g)⟩
        · have g : (((tkk W (j : Int)).cpu == gi M (k : Int)) && couldD W (j : Int) c) = false := g
          by_cases hij : i < j
          · exact hno i hij
          · have : i = j := by omega
            subst this; exact g
      · have hge := of_decide_eq_false hge
        have : j = 12 := by omega
        subst this
        have hany : anyC W (gi M (k : Int)) c = false := anyB_f hno
        have hxa := hX5.trans hx6
        refine ⟨⟨[], hxa, by simp⟩, .inl ⟨rfl, ?_, hm3.ext hxa, hy3.ext hxa⟩⟩
        rw [F2 hany]
        exact hAJ _ _ _ [] hJ3 hxa (by simp)
    · obtain ⟨hX4, hr⟩ := hR
      rcases hr with ⟨rfl, h1⟩ | ⟨rfl, h1⟩
      · exact ⟨hX4, h1⟩
      · exact ⟨hX4, rfl, h1⟩
  · intro D W1 hD ⟨hJn, _⟩ hdD
    rw [List.take_length] at hJn
    exact (leave_mark (R := fun e W2 => (∃ v, e = Ending.returned v) ∧ (J (M.filter fun x => anyC W x c).length W2 ∨ Jx () W2)) (a := { a3 with defers := markOf D :: a3.defers }) (D := D) (by simp [hd3]) hdD noR fun w' hx => ⟨⟨_, rfl⟩, .inl (hAJ _ _ _ [D] hJn hx fun y hm => by
      have : y = D := by simpa using hm
      omega)⟩).1
  · intro D cd W1 hD ⟨hcd, hJx⟩ hdD
    subst hcd
    exact wpIn_ret (leave_mark (R := fun e W2 => (∃ v, e = Ending.returned v) ∧ (J (M.filter fun x => anyC W x c).length W2 ∨ Jx () W2)) (a := { a3 with defers := markOf D :: a3.defers }) (D := D) (by simp [hd3]) hdD noR fun w' hx => ⟨⟨_, rfl⟩, .inr (hAx _ _ _ [D] hJx hx fun y hm => by
      have : y = D := by simpa using hm
      omega)⟩).2
end
end Go.Proofs.YtnofpcbjpcoghaaGreat
namespace Go.Proofs.YtnofpcbjpcoghaaGreat
open Go.RowKit
set_option linter.unusedVariables false
set_option linter.unusedSimpArgs false
set_option maxRecDepth 10000
section
variable {W : Wld} {m : MW} {w : World} {bs : List Nat} {p : Option Addr}
theorem k_spec_l9Up {c : Int} (h : RdW bs w W m) (hl : W.cpus.length ≤ maxLen) : PureX bs Tryz.prog fn_spec_l9Up #[.agg (encW W m).toArray, .int .i64 c] w (.bool (cpuIn W c && (gi W.cpus c).up)) :=
  p_spec_l9Up W.now m.cO W.cpus.length m.cC m.tO W.tasks.length m.tC m.gO W.groups.length m.gC c fun wr hx => by
    have h := (h.ext hx).less (cs := []) (by simp)
    have hm := maxLen_le
    intro _ _
    exact ⟨⟨by omega, by omega⟩, cpuIn W c, k_spec_l1In, fun q => h.c.ix encC_c (cpuIn_t q).1 (cpuIn_t q).2, _, fun q => h.c.f (cpuIn_t q).1 (cpuIn_t q).2 (j := 0) rfl, rfl⟩
end
end Go.Proofs.YtnofpcbjpcoghaaGreat
namespace Go.Proofs.YtnofpcbjpcoghaaGreat
open Go.RowKit
set_option linter.unusedVariables false
set_option linter.unusedSimpArgs false
set_option maxRecDepth 10000
def fitD (W : Wld) (t b c : Int) : Bool := (loadS W c == 0) || decide (loadS W c + weightOf (tkk W t).nice ≤ loadS W b - weightOf (tkk W t).nice)
def tskP (W : Wld) (b c : Int) (t : Nat) : Bool := (((tkk W (t : Int)).cpu == b) && couldD W (t : Int) c) && fitD W (t : Int) b c
def findT (W : Wld) (b c : Int) : Nat → Nat → Int
  | 0, _ => -1
  | f + 1, j => if tskP W b c j = true then (j : Int) else findT W b c f (j + 1)
theorem findT_hit {W : Wld} {b c : Int} {f j : Nat} (h : tskP W b c j = true) : findT W b c (f + 1) j = (j : Int) := if_pos h
theorem findT_miss {W : Wld} {b c : Int} {f j : Nat} (h : tskP W b c j = false) : findT W b c (f + 1) j = findT W b c f (j + 1) := if_neg (by rw [h]; decide)
noncomputable def plN (W : Wld) (c : Int) : Nat → Nat → Int
  | 0, _ => -1
  | f + 1, k => if busyD W c (k : Int) < 0 then plN W c f (k + 1) else if findT W (busyD W c (k : Int)) c 12 0 < 0 then plN W c f (k + 1) else findT W (busyD W c (k : Int)) c 12 0
noncomputable def pullS (W : Wld) (c : Int) : Int := plN W c (lvD (W.cpus.length : Int)).toNat 0
theorem plN_skip {W : Wld} {c : Int} {f k : Nat} (h : busyD W c (k : Int) < 0) : plN W c (f + 1) k = plN W c f (k + 1) := if_pos h
theorem plN_none {W : Wld} {c : Int} {f k : Nat} (h : findT W (busyD W c (k : Int)) c 12 0 < 0) : plN W c (f + 1) k = plN W c f (k + 1) := by
  simp only [plN]
  by_cases h0 : busyD W c (k : Int) < 0
  · rw [if_pos h0]
  · rw [if_neg h0, if_pos h]
theorem plN_some {W : Wld} {c : Int} {f k : Nat} (h0 : ¬ busyD W c (k : Int) < 0) (h : ¬ findT W (busyD W c (k : Int)) c 12 0 < 0) : plN W c (f + 1) k = findT W (busyD W c (k : Int)) c 12 0 := by
  simp only [plN]
  rw [if_neg h0, if_neg h]
noncomputable def pullD (W : Wld) (c : Int) : Int := if worldB W = true ∧ cpuIn W c = true ∧ (gi W.cpus c).up = true then pullS W c else -1
theorem load_range {W : Wld} (wp : WldP W) (c : Int) : 0 ≤ loadS W c ∧ loadS W c ≤ 240 := by
  have := sumF_range (loadF_range W c) W.tasks.length
  have ht := wp.a.t
  unfold loadS
  omega
section
variable {W : Wld} {m : MW} {w : World} {bs : List Nat} {p : Option Addr}
theorem busy_range {W : Wld} (wp : WldP W) {c lv : Int} (h : ¬ busyD W c lv < 0) : 0 ≤ busyD W c lv ∧ busyD W c lv < (W.cpus.length : Int) := by
  have := bsyN_range W c (spD (W.cpus.length : Int) c lv) W.cpus.length
  unfold busyD at h ⊢
  omega
theorem IterY.ext {P : Program} {gf : FuncId} {lb : Array Value} {N : Nat} {vals : Nat → List Value} {I : Nat → World → Prop} {w w' : World} (h : IterY P gf lb N vals I w) (hx : ExtX [] w w') : IterY P gf lb N vals I w' :=
  fun l J Jx W hW => h l J Jx W (hx.trans hW)
theorem k_spec_l12Fits {t b c : Int} (h : RdW bs w W m) (wp : WldP W) (t0 : 0 ≤ t) (t1 : t < (W.tasks.length : Int)) : PureX bs Tryz.prog fn_spec_l12Fits #[.agg (encW W m).toArray, .int .i64 t, .int .i64 b, .int .i64 c] w (.bool (fitD W t b c)) :=
  p_spec_l12Fits W.now m.cO W.cpus.length m.cC m.tO W.tasks.length m.tC m.gO W.groups.length m.gC t b c fun wr hx => by
    have h := (h.ext hx).less (cs := []) (by simp)
    have r1 := load_range wp c
    have r2 := load_range wp b
    have r3 : 0 ≤ weightOf (gi W.tasks t).nice ∧ weightOf (gi W.tasks t).nice ≤ 20 := weightOf_range _
    exact fun _ _ => ⟨_, k_spec_l12Load h wp, h.t.ix encT_c t0 t1, _, h.t.f t0 t1 (j := 3) rfl, _, k_spec_WeightOf, fun _ => ⟨by omega, by omega⟩, _, fun _ => k_spec_l12Load h wp, fun _ => ⟨by omega, by omega⟩, rfl⟩
theorem k_spec_l12Pull {c : Int} (h : RdW bs w W m) (wp : WldP W) (c0 : 0 ≤ c) (c1 : c < (W.cpus.length : Int)) : PureX bs Tryz.prog fn_spec_l12Pull #[.agg (encW W m).toArray, .int .i64 c] w (.int .i64 (pullS W c)) :=
  p_spec_l12Pull W.now m.cO W.cpus.length m.cC m.tO W.tasks.length m.tC m.gO W.groups.length m.gC c fun wr hx => by
    have h := (h.ext hx).less (cs := []) (by simp)
    have hlv := lv_le (W.cpus.length : Int)
    have htl := wp.a.t
    intro _ _
    refine loop1 2 0 rfl (fun k => (k : Int) ≤ lvD (W.cpus.length : Int) ∧ plN W c ((lvD (W.cpus.length : Int)).toNat - k) k = pullS W c) ⟨hlv.1, rfl⟩ fun k ⟨hk, hI⟩ => ⟨_, k_spec_DomainLevels, fun hlt => ?_, fun hge => ?_⟩
    · have hlt := of_decide_eq_true hlt
      have ek : (lvD (W.cpus.length : Int)).toNat - k = ((lvD (W.cpus.length : Int)).toNat - (k + 1)) + 1 := by omega
      rw [ek] at hI
      have nxt : plN W c ((lvD (W.cpus.length : Int)).toNat - (k + 1)) (k + 1) = pullS W c → ((k + 1 : Nat) : Int) ≤ lvD (W.cpus.length : Int) ∧ plN W c ((lvD (W.cpus.length : Int)).toNat - (k + 1)) (k + 1) = pullS W c := fun hp => ⟨by omega, hp⟩
      refine ⟨_, k_spec_DomainSpan, _, k_spec_l12Busiest h wp c0 c1, fun g => ⟨⟨by omega, by omega⟩, loop1_next (by omega) (nxt ?_)⟩, fun g => ?_⟩
      · rw [← hI, plN_skip (show busyD W c (k : Int) < 0 from of_decide_eq_true g)]
      · have g : ¬ busyD W c (k : Int) < 0 := of_decide_eq_false g
        refine loop1 12 0 rfl (fun j => j ≤ 12 ∧ findT W (busyD W c (k : Int)) c (12 - j) j = findT W (busyD W c (k : Int)) c 12 0) ⟨Nat.zero_le _, rfl⟩ fun j ⟨hj, hF⟩ => ⟨fun hlt2 => ?_, fun hge2 => ?_⟩
        · have hlt2 := of_decide_eq_true hlt2
          have hj12 : j < 12 := by omega
          rw [show 12 - j = (12 - (j + 1)) + 1 by omega] at hF
          refine ⟨h.t.ix encT_c (by omega) hlt2, _, h.t.f (by omega) hlt2 (j := 2) rfl, _, fun _ => k_spec_l12Could h wp (by omega) hlt2 c0 c1, _, fun _ => k_spec_l12Fits h wp (by omega) hlt2, fun g2 => ?_, fun g2 => ⟨⟨by omega, by omega⟩, loop1_next hj12 ⟨by omega, ?_⟩⟩⟩
          · have g2 : tskP W (busyD W c (k : Int)) c j = true := g2
            rw [findT_hit g2] at hF
            rw [← hI, plN_some g (by rw [← hF]; omega), ← hF]
          · have g2 : tskP W (busyD W c (k : Int)) c j = false := g2
            rw [← hF, findT_miss g2]
        · have hge2 := of_decide_eq_false hge2
          have : j = 12 := by omega
          subst this
          refine ⟨⟨by omega, by omega⟩, loop1_next (by omega) (nxt ?_)⟩
          rw [← hI, plN_none (by rw [← hF]; show (-1 : Int) < 0; decide)]
    · have hge := of_decide_eq_false hge
      have : (lvD (W.cpus.length : Int)).toNat - k = 0 := by omega
      rw [this] at hI
      rw [← hI]; rfl
def pullV (x : Int) : Value := if x < 0 then .tuple #[.int .i64 0, .bool false] else .tuple #[.int .i64 x, .bool true]
def pullA (x : Int) : Int := if x < 0 then 0 else x
theorem pullV_eq (x : Int) : pullV x = .tuple #[.int .i64 (pullA x), .bool (!decide (x < 0))] := by
  unfold pullV pullA
  by_cases h : x < 0
  · rw [if_pos h, if_pos h, decide_eq_true h]; rfl
  · rw [if_neg h, if_neg h, decide_eq_false h]; rfl
theorem k_spec_CpuPull {c : Int} (h : RdW bs w W m) (hl : LenW W) : PureX bs Tryz.prog fn_spec_CpuPull #[.agg (encW W m).toArray, .int .i64 c] w (.tuple #[.int .i64 (pullA (pullD W c)), .bool (!decide (pullD W c < 0))]) := by
  rw [← pullV_eq]
  refine p_spec_CpuPull W.now m.cO W.cpus.length m.cC m.tO W.tasks.length m.tC m.gO W.groups.length m.gC c fun wr hx => ?_
  have h := (h.ext hx).less (cs := []) (by simp)
  refine fun _ _ => ⟨_, k_spec_WorldOk h hl.c hl.t hl.g hl.f, _, fun _ => k_spec_l9Up h hl.c, fun q => ?_, fun q => ?_⟩
  · have : pullD W c = -1 := by
      unfold pullD
      rw [if_neg]
      rintro ⟨h1, h2, h3⟩
      rw [h1, h2, h3] at q; cases q
    rw [this]; rfl
  · simp only [Bool.or_eq_false_iff, Bool.not_eq_false', Bool.and_eq_true] at q
    obtain ⟨q1, q2, q3⟩ := q
    have wp := decB_t.1 q1
    have hc := inB_t.1 (show inB c 0 ((W.cpus.length : Int) - 1) = true from q2)
    have e : pullD W c = pullS W c := by unfold pullD; rw [if_pos ⟨q1, q2, q3⟩]
    rw [e]
    refine ⟨_, k_spec_l12Pull h wp hc.1 (by omega), fun g => ?_, fun g => ?_⟩
    · unfold pullV; rw [if_pos (of_decide_eq_true g)]
    · unfold pullV; rw [if_neg (of_decide_eq_false g)]
theorem k_busiest_2 {b : Nat} {c a a' : Int} (h : WPt bs w p W m) (wp : WldP W) (hbx : CellsX bs w (some ⟨b, 0, none⟩) 0 [.pointer p, .int .i64 c]) (h0 : 0 ≤ a) (h1 : a < (W.cpus.length : Int)) (h0' : 0 ≤ a') (h1' : a' < (W.cpus.length : Int)) : PureX bs Tryz.prog fn_impl_lane_busiest_2 #[.int .i64 a, .int .i64 a', .pointer (some ⟨b, 0, none⟩)] w (.bool (ltL W a a')) :=
  p_impl_lane_busiest_2 a a' (some ⟨b, 0, none⟩) fun wr hx => by
    have h := (h.ext hx).less (cs := []) (by simp)
    have hb := (hbx.ext hx).less (cs := []) (by simp)
    exact ⟨rfl, p, hb.get 0 _ rfl, p, a, k_impl_lane, _, k_impl_load h wp h0 h1, rfl, p, hb.get 0 _ rfl, p, a', k_impl_lane, _, k_impl_load h wp h0' h1', rfl⟩
theorem cand_in {W : Wld} (wp : WldP W) {c s : Int} {k : Nat} {i : Nat} (hi : i < (candL W c s k).length) : 0 ≤ gi (candL W c s k) (i : Int) ∧ gi (candL W c s k) (i : Int) < (W.cpus.length : Int) := by
  have hm := gi_mem (l := candL W c s k) (i := (i : Int)) (by omega) (by omega)
  have := (List.mem_filter.1 hm).2
  have := any_at wp this
  exact ⟨this.1, this.2.1⟩
theorem k_impl_busiest {c lv : Int} (h : WPt bs w p W m) (wp : WldP W) (c0 : 0 ≤ c) (c1 : c < (W.cpus.length : Int)) : PureX bs Tryz.prog fn_impl_lane_busiest #[.agg #[.pointer p, .int .i64 c], .int .i64 lv] w (.int .i64 (busyD W c lv)) := by
  refine pureX_of fun wr0 hx0 => e_impl_lane_busiest p c lv (R := fun v w' => v = .int .i64 (busyD W c lv) ∧ ExtX [] wr0 w') ?_
  have h := (h.ext hx0).less (cs := []) (by simp)
  intro b wb hx hb hcell _ b1 wb1 hx1 hb1 hcell1 _ wr hx2 _
  have hX := (hx.trans hx1).trans hx2
  have hp := h.ext hX
  have hbx : CellsX [] wr (some ⟨b, 0, none⟩) 0 [.pointer p, .int .i64 c] := by
    have hc := blk_ext (blk_ext hcell hx1 (by simp)) hx2 (by simp)
    exact cellsX_blk hc (by simp) fun j v hj => by rw [Nat.zero_add, Nat.zero_add]; exact hj
  have hb1x : CellsX [] wr (some ⟨b1, 0, none⟩) 0 [.int .i64 lv] := (box_cell ⟨_, hcell1⟩).ext hx2
  have hbest := cand_best W c (spD (W.cpus.length : Int) c lv) 4
  rw [bsy_high wp.a.c2] at hbest
  refine (k_best (gf := fn_impl_lane_busiest_1) (lb := #[.pointer (some ⟨b, 0, none⟩), .pointer (some ⟨b1, 0, none⟩)]) (bF := .func fn_impl_lane_busiest_2) (bA := #[]) (bK := #[.pointer (some ⟨b, 0, none⟩)]) (xs := candL W c (spD (W.cpus.length : Int) c lv) 4) (lt := ltL W) (w := wr)
    (enters_of Tryz.func53 (by kernel_rfl) rfl)
    (fun I W1 hx3 hI => IterY.ext (it_busiest (W := W) (m := m) (p := p) (c := c) (lv := lv) (b := b) (b1 := b1) (I := I) (w := wr) wp c0 c1 hp hbx hb1x hI) hx3)
    (fun i j hi hj W1 hx3 => .inl ⟨fn_impl_lane_busiest_2, _, rfl, (k_busiest_2 (hp.ext hx3) wp (hbx.ext hx3) (cand_in wp hi).1 (cand_in wp hi).2 (cand_in wp hj).1 (cand_in wp hj).2) W1 (ExtX.refl _ _)⟩)).mono fun e w2 ⟨he, hx3⟩ => ⟨_, _, he, kept_nil, fun g wr1 hx4 => ⟨?_, (hX.trans hx3).trans hx4⟩, fun g wr2 hx4 => ⟨?_, (hX.trans hx3).trans hx4⟩⟩
  · rw [hbest] at g
    split at g
    · have := bsyN_range W c (spD (W.cpus.length : Int) c lv) W.cpus.length
      have e2 : busyD W c lv = -1 := by unfold busyD at *; omega
      rw [e2]
    · cases g
  · rw [hbest] at g ⊢
    split at g
    · cases g
    · rename_i hn
      rw [if_neg hn]
theorem k_impl_pull {c : Int} (h : WPt bs w p W m) (wp : WldP W) (c0 : 0 ≤ c) (c1 : c < (W.cpus.length : Int)) : PureX bs Tryz.prog fn_impl_lane_pull #[.agg #[.pointer p, .int .i64 c]] w (.tuple #[.int .i64 (pullA (pullS W c)), .bool (!decide (pullS W c < 0))]) := by
  rw [← pullV_eq]
  refine p_impl_lane_pull p c fun wr hx => ?_
  have h := (h.ext hx).less (cs := []) (by simp)
  have hlv := lv_le (W.cpus.length : Int)
  have htl := wp.a.t
  refine fun _ _ => ⟨_, k_impl_load h wp c0 c1, h.some, _, _, _, h.cpus, _, k_impl_DomainLevels, ?_⟩
  refine loop1 2 0 rfl (fun k => (k : Int) ≤ lvD (W.cpus.length : Int) ∧ plN W c ((lvD (W.cpus.length : Int)).toNat - k) k = pullS W c) ⟨hlv.1, rfl⟩ fun k ⟨hk, hI⟩ => ⟨fun hlt => ?_, fun hge => ?_⟩
  · have hlt := of_decide_eq_true hlt
    have ek : (lvD (W.cpus.length : Int)).toNat - k = ((lvD (W.cpus.length : Int)).toNat - (k + 1)) + 1 := by omega
    rw [ek] at hI
    have nxt : plN W c ((lvD (W.cpus.length : Int)).toNat - (k + 1)) (k + 1) = pullS W c → ((k + 1 : Nat) : Int) ≤ lvD (W.cpus.length : Int) ∧ plN W c ((lvD (W.cpus.length : Int)).toNat - (k + 1)) (k + 1) = pullS W c := fun hp => ⟨by omega, hp⟩
    refine ⟨_, k_impl_busiest h wp c0 c1, fun g => ⟨⟨by omega, by omega⟩, loop1_next (by omega) (nxt ?_)⟩, fun g => ?_⟩
    · rw [← hI, plN_skip (of_decide_eq_true g)]
    · have g : ¬ busyD W c (k : Int) < 0 := of_decide_eq_false g
      have hbr := busy_range wp g
      refine ⟨p, _, k_impl_lane, _, k_impl_load h wp hbr.1 hbr.2, h.some, _, _, _, h.tasks, ?_⟩
      refine loop1 12 0 rfl (fun j => j ≤ 12 ∧ findT W (busyD W c (k : Int)) c (12 - j) j = findT W (busyD W c (k : Int)) c 12 0) ⟨Nat.zero_le _, rfl⟩ fun j ⟨hj, hF⟩ => ⟨fun hlt2 => ?_, fun hge2 => ?_⟩
      · have hlt2 := of_decide_eq_true hlt2
        have hj12 : j < 12 := by omega
        rw [show 12 - j = (12 - (j + 1)) + 1 by omega] at hF
        have r1 := load_range wp c
        have r2 := load_range wp (busyD W c (k : Int))
        have r3 := weightOf_range (tkk W (j : Int)).nice
        have miss : tskP W (busyD W c (k : Int)) c j = false → j + 1 ≤ 12 ∧ findT W (busyD W c (k : Int)) c (12 - (j + 1)) (j + 1) = findT W (busyD W c (k : Int)) c 12 0 := fun g2 => ⟨by omega, by rw [← hF, findT_miss g2]⟩
        refine ⟨h.rd.t.ix encT_c (by omega) hlt2, _, _, _, _, _, _, _, _, _, h.rd.t j (by omega) hlt2, fun _ _ => ⟨_, fun _ => k_impl_couldRun h wp (by omega) hlt2 c0 c1, fun g2 => ⟨⟨by omega, by omega⟩, loop1_next hj12 (miss ?_)⟩, fun g2 => ⟨_, k_impl_weight h (by omega) hlt2, fun _ => ⟨by omega, by omega⟩, fun _ => ⟨by omega, by omega⟩, fun g3 => ?_, fun g3 => ⟨⟨by omega, by omega⟩, loop1_next hj12 (miss ?_)⟩⟩⟩⟩
        · have g2 : (((tkk W (j : Int)).cpu != busyD W c (k : Int)) || (!couldD W (j : Int) c)) = true := g2
          unfold tskP
          rw [bne] at g2
          revert g2
          cases ((tkk W (j : Int)).cpu == busyD W c (k : Int)) <;> cases couldD W (j : Int) c <;> simp
        · have g2 : (((tkk W (j : Int)).cpu != busyD W c (k : Int)) || (!couldD W (j : Int) c)) = false := g2
          have hp : tskP W (busyD W c (k : Int)) c j = true := by
            unfold tskP
            rw [bne] at g2
            rw [show fitD W (j : Int) (busyD W c (k : Int)) c = true from g3]
            revert g2
            cases ((tkk W (j : Int)).cpu == busyD W c (k : Int)) <;> cases couldD W (j : Int) c <;> simp
          rw [findT_hit hp] at hF
          have e : pullS W c = (j : Int) := by rw [← hI, plN_some g (by rw [← hF]; omega), ← hF]
          rw [e]
          unfold pullV
          rw [if_neg (by omega : ¬ (j : Int) < 0)]
        · unfold tskP
          rw [show fitD W (j : Int) (busyD W c (k : Int)) c = false from g3, Bool.and_false]
      · have hge2 := of_decide_eq_false hge2
        have : j = 12 := by omega
        subst this
        refine ⟨⟨by omega, by omega⟩, loop1_next (by omega) (nxt ?_)⟩
        rw [← hI, plN_none (by rw [← hF]; show (-1 : Int) < 0; decide)]
  · have hge := of_decide_eq_false hge
    have : (lvD (W.cpus.length : Int)).toNat - k = 0 := by omega
    rw [this] at hI
    rw [← hI]; rfl
theorem k_impl_CpuPull {c : Int} (h : RdW bs w W m) (hl : LenW W) : PureX bs Tryz.prog fn_impl_CpuPull #[.agg (encW W m).toArray, .int .i64 c] w (.tuple #[.int .i64 (pullA (pullD W c)), .bool (!decide (pullD W c < 0))]) := by
  refine pureX_of fun wr0 hx0 => e_impl_CpuPull W.now m.cO W.cpus.length m.cC m.tO W.tasks.length m.tC m.gO W.groups.length m.gC c (R := fun v w' => v = .tuple #[.int .i64 (pullA (pullD W c)), .bool (!decide (pullD W c < 0))] ∧ ExtX [] wr0 w') ?_
  have h := (h.ext hx0).less (cs := []) (by simp)
  intro b wb hxb hb hcell _
  have hrd := h.ext hxb
  have hp := wpt_of (bs := []) hcell hrd (ExtX.refl _ _) (by simp)
  have hcr : cpuIn W c = true → 0 ≤ c ∧ c < (W.cpus.length : Int) := fun g => by have := inB_t.1 (show inB c 0 ((W.cpus.length : Int) - 1) = true from g); omega
  refine ⟨_, _, _, _, _, _, _, _, _, _, hp.cs, _, k_impl_WorldOk hrd hl.c hl.g hl.f, cpuIn W c, fun _ => by exact k_impl_cpuThere hp hl.c, _, _, _, fun _ => hp.cpus, fun q => ?_, (gi W.cpus c).up, fun q => ?_, fun q wr hx => ⟨?_, hxb.trans hx⟩, fun q => ?_⟩
  · simp only [Bool.or_eq_false_iff, Bool.not_eq_false'] at q
    exact hp.rd.c.ix encC_c (hcr q.2).1 (hcr q.2).2
  · simp only [Bool.or_eq_false_iff, Bool.not_eq_false'] at q
    exact (hp.rd.c c (hcr q.2).1 (hcr q.2).2).get 0 _ rfl
  · have : pullD W c = -1 := by
      unfold pullD
      rw [if_neg]
      rintro ⟨h1, h2, h3⟩
      rw [h1, h2, h3] at q; cases q
    rw [this]; rfl
  · simp only [Bool.or_eq_false_iff, Bool.not_eq_false'] at q
    obtain ⟨⟨q1, q2⟩, q3⟩ := q
    have wp := decB_t.1 q1
    have e : pullD W c = pullS W c := by unfold pullD; rw [if_pos ⟨q1, q2, q3⟩]
    rw [e]
    exact ⟨some ⟨b, 0, none⟩, c, by exact k_impl_lane, _, _, k_impl_pull hp wp (hcr q2).1 (hcr q2).2, fun wr hx => ⟨rfl, hxb.trans hx⟩⟩
end
end Go.Proofs.YtnofpcbjpcoghaaGreat
namespace Go.Proofs.YtnofpcbjpcoghaaGreat
open Go.RowKit
set_option linter.unusedVariables false
set_option linter.unusedSimpArgs false
set_option maxRecDepth 10000
theorem k_FnExactCpuPull {W : Wld} {m : MW} {w : World} {c : Int} (ft : FitW w W m) (_ : InR .i64 c) :
    Calls Tryz.prog fn_laws_FnExactCpuPull #[.agg (encW W m).toArray, .int .i64 c] w fun e w' => e = .returned (.bool true) ∧ ExtX [] w w' := by
  refine (e_laws_FnExactCpuPull W.now m.cO W.cpus.length m.cC m.tO W.tasks.length m.tC m.gO W.groups.length m.gC c (R := fun v w' => v = .bool true ∧ ExtX [] w w') ?_).mono fun e w' ⟨v, he, hv, h3⟩ => ⟨by rw [he, hv], h3⟩
  intro b hb
  have hl : LenW W := ⟨ft.lc, ft.lt, ft.lg, ft.ft⟩
  refine ⟨_, k_szWorld ft (by decide) (by decide), fun _ w1 hx1 => ⟨rfl, hx1⟩, fun hs wr1 hx1 hs1 => ?_⟩
  have hs := of_decide_eq_false hs
  obtain ⟨sm, _⟩ := szWd_nn (W := W) (left := 1048576) (by decide) (by omega)
  have hbn : ∀ x ∈ [b], w.heap.size ≤ x := by simpa using hb
  refine (k_toWorld (ft.at hx1) sm).mono fun e w2 ⟨m2, he, hO2, hx2⟩ => ⟨_, _, _, _, _, _, _, _, _, _, he, kept_of hx2 hs1, ?_⟩
  have R2 := hO2.rd (bs := [b]) hs1
  have X2 := hx1.trans hx2
  refine ⟨_, _, k_spec_CpuPull R2 hl, fun wr3 hx3 hs3 => ?_⟩
  have X3 : ExtX [] w wr3 := X2.fresh hx3 fun x hm => .inl (hbn x hm)
  refine (k_toWorld (ft.at X3) sm).mono fun e w4 ⟨m4, he, hO4, hx4⟩ => ⟨_, _, _, _, _, _, _, _, _, _, he, kept_of hx4 hs3, fun b1 hb1 => ?_⟩
  have R4 := hO4.rd (bs := [b]) hs3
  have X4 := X3.trans hx4
  refine ⟨_, _, k_impl_CpuPull R4 hl, fun g => by simp at g, fun _ wr5 hx5 hs5 => ?_⟩
  have X5 : ExtX [] w wr5 := X4.fresh hx5 fun x hm => .inl (hbn x hm)
  refine (k_toWorld (ft.at X5) sm).mono fun e w6 ⟨m6, he, hO6, hx6⟩ => ⟨_, _, _, _, _, _, _, _, _, _, he, kept_of hx6 hs5, rfl, ?_⟩
  have R6 := hO6.rd (bs := [b, b1]) hs5
  have R4' : RdW [b, b1] w6 W m4 := ((R4.wide (cs := [b, b1]) fun x hm => by
    simp only [List.mem_cons, List.not_mem_nil, or_false] at hm
    rcases hm with rfl | rfl
    · exact .inl (by simp)
    · exact .inr hb1).ext (hx5.mono (by simp))).ext hx6.of_nil
  refine ⟨_, k_eqWorld R4' R6 sm, fun g => ?_, fun _ w7 hx7 => ⟨rfl, (X5.trans hx6).fresh hx7 fun x hm => .inl ?_⟩⟩
  · rw [decide_eq_true rfl] at g; cases g
  · simp only [List.mem_cons, List.not_mem_nil, or_false] at hm
    rcases hm with rfl | rfl
    · exact hb
    · exact Nat.le_trans X4.size hb1
end Go.Proofs.YtnofpcbjpcoghaaGreat
