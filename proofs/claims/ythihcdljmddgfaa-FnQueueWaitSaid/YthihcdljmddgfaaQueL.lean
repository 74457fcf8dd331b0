/- Plain laws of queues: what is done with a queue that is one leaves one; who stays ready with the same weight gets virtual time by the weight. -/
import Derived.Test.YthihcdljmddgfaaQueS
namespace Go.Proofs.Ythihcdljmddgfaa
open Go.RowKit
set_option linter.unusedVariables false
set_option maxRecDepth 10000

theorem leastS_spec (es : List Ent) : ∀ k : Nat, (leastS es k = -1 ∧ ∀ j : Nat, j < k → (gi es (j : Int)).on = false) ∨
    (0 ≤ leastS es k ∧ leastS es k < (k : Int) ∧ (gi es (leastS es k)).on = true ∧ ∀ j : Nat, j < k → (gi es (j : Int)).on = true → (gi es (leastS es k)).v ≤ (gi es (j : Int)).v)
  | 0 => .inl ⟨rfl, fun j hj => absurd hj (Nat.not_lt_zero j)⟩
  | k + 1 => by
    simp only [leastS]
    split
    · rename_i h
      simp only [Bool.and_eq_true, Bool.or_eq_true, decide_eq_true_eq] at h
      refine .inr ⟨by omega, by omega, h.1, fun j hj ho => ?_⟩
      by_cases hjk : j = k
      · subst hjk; exact Int.le_refl _
      · rcases leastS_spec es k with ⟨_, h2⟩ | ⟨h1, _, _, h4⟩
        · rw [h2 j (by omega)] at ho; cases ho
        · have := h4 j (by omega) ho
          rcases h.2 with h5 | h5 <;> omega
    · rename_i h
      rcases leastS_spec es k with ⟨h1, h2⟩ | ⟨h1, h2, h3, h4⟩
      · refine .inl ⟨h1, fun j hj => ?_⟩
        by_cases hjk : j = k
        · subst hjk
          cases ho : (gi es (j : Int)).on with
          | false => rfl
          | true =>
            exfalso; apply h
            rw [ho, h1]; rfl
        · exact h2 j (by omega)
      · refine .inr ⟨h1, by omega, h3, fun j hj ho => ?_⟩
        by_cases hjk : j = k
        · subst hjk
          rcases Int.lt_or_le (gi es (j : Int)).v (gi es (leastS es j)).v with h5 | h5
          · exfalso; apply h
            rw [ho, decide_eq_true h5]; simp
          · exact h5
        · exact h4 j (by omega) ho
theorem least_none {es : List Ent} (h : least es < 0) : ∀ i : Int, 0 ≤ i → i < (es.length : Int) → (gi es i).on = false := fun i h0 hi => by
  rcases leastS_spec es es.length with ⟨_, h2⟩ | ⟨h1, _⟩
  · have := h2 i.toNat (by omega)
    rwa [show ((i.toNat : Nat) : Int) = i by omega] at this
  · unfold least at h; omega
theorem least_some {es : List Ent} (h : 0 ≤ least es) : least es < (es.length : Int) ∧ (gi es (least es)).on = true ∧ ∀ i : Int, 0 ≤ i → i < (es.length : Int) → (gi es i).on = true → (gi es (least es)).v ≤ (gi es i).v := by
  rcases leastS_spec es es.length with ⟨h1, _⟩ | ⟨_, h2, h3, h4⟩
  · unfold least at h; omega
  · refine ⟨h2, h3, fun i h0 hi ho => ?_⟩
    have := h4 i.toNat (by omega)
    rw [show ((i.toNat : Nat) : Int) = i by omega] at this
    exact this ho
/-- Is it on, and if so by how much ahead of the floor that is to be? -/
structure PreOk (q : Que) : Prop where
  l1 : 1 ≤ q.es.length
  l2 : q.es.length ≤ 20
  f1 : 0 ≤ q.floor
  f2 : q.floor ≤ 100000000000000000
  c1 : -1 ≤ q.cur
  c2 : q.cur < (q.es.length : Int)
  w : ∀ i : Int, 0 ≤ i → i < (q.es.length : Int) → 1 ≤ (gi q.es i).w ∧ (gi q.es i).w ≤ 20 ∧ 0 ≤ (gi q.es i).v ∧ (gi q.es i).v ≤ 100000000000000000 ∧ 0 ≤ (gi q.es i).sum ∧ (gi q.es i).sum ≤ 100000000000000000
  on : ∀ i : Int, 0 ≤ i → i < (q.es.length : Int) → (gi q.es i).on = true → q.floor ≤ (gi q.es i).v ∧ (gi q.es i).v - (riseQ q).floor ≤ lagMost (gi q.es i).w
  idle : q.cur < 0 → q.ran = 0
  busy : 0 ≤ q.cur → (gi q.es q.cur).on = true ∧ 1 ≤ q.ran ∧ q.ran ≤ 149 ∧ (gi q.es q.cur).v - (riseQ q).floor ≤ vstep q.ran (gi q.es q.cur).w
theorem riseQ_cur (q : Que) : (riseQ q).cur = q.cur ∧ (riseQ q).ran = q.ran := by unfold riseQ; split <;> exact ⟨rfl, rfl⟩
theorem maxI_or (a b : Int) : (maxI a b = a ∧ b ≤ a) ∨ (maxI a b = b ∧ a ≤ b) := by
  unfold maxI
  split
  · exact .inl ⟨rfl, by omega⟩
  · exact .inr ⟨rfl, by omega⟩
theorem riseQ_floor (q : Que) : (least q.es < 0 ∧ (riseQ q).floor = q.floor) ∨ (0 ≤ least q.es ∧ q.floor ≤ (riseQ q).floor ∧ (gi q.es (least q.es)).v ≤ (riseQ q).floor ∧ ((riseQ q).floor = q.floor ∨ (riseQ q).floor = (gi q.es (least q.es)).v)) := by
  unfold riseQ
  split
  · rename_i h
    have h : 0 ≤ least q.es := h
    show (least q.es < 0 ∧ maxI q.floor (gi q.es (least q.es)).v = q.floor) ∨ (0 ≤ least q.es ∧ q.floor ≤ maxI q.floor (gi q.es (least q.es)).v ∧ (gi q.es (least q.es)).v ≤ maxI q.floor (gi q.es (least q.es)).v ∧ (maxI q.floor (gi q.es (least q.es)).v = q.floor ∨ maxI q.floor (gi q.es (least q.es)).v = (gi q.es (least q.es)).v))
    rcases maxI_or q.floor (gi q.es (least q.es)).v with ⟨h1, h2⟩ | ⟨h1, h2⟩
    · rw [h1]; exact .inr ⟨h, Int.le_refl _, h2, .inl rfl⟩
    · rw [h1]; exact .inr ⟨h, h2, Int.le_refl _, .inr rfl⟩
  · rename_i h
    exact .inl ⟨by omega, rfl⟩
theorem pre_ok {q : Que} (h : PreOk q) : QueOk (riseQ q) := by
  have hc := riseQ_cur q
  have he := riseQ_es q
  have hl1 := h.l1
  have hl2 := h.l2
  have hc1 := h.c1
  have hc2 := h.c2
  have hf1 := h.f1
  have hf2 := h.f2
  have hfl := riseQ_floor q
  have below : ∀ i : Int, 0 ≤ i → i < (q.es.length : Int) → (gi q.es i).on = true → (riseQ q).floor ≤ (gi q.es i).v := fun i h0 hi ho => by
    have h1 := (h.on i h0 hi ho).1
    rcases hfl with ⟨_, h2⟩ | ⟨h2, _, _, h3⟩
    · omega
    · have h4 := (least_some h2).2.2 i h0 hi ho
      rcases h3 with h3 | h3 <;> omega
  have up : 0 ≤ (riseQ q).floor ∧ (riseQ q).floor ≤ 100000000000000000 := by
    rcases hfl with ⟨_, h2⟩ | ⟨h2, _, _, h3⟩
    · omega
    · have h4 := h.w _ h2 (least_some h2).1
      rcases h3 with h3 | h3 <;> omega
  refine ⟨by rw [he]; exact hl1, by rw [he]; exact hl2, up.1, up.2, by rw [hc.1]; exact hc1, by rw [hc.1, he]; exact hc2, fun i h0 hi => ?_, fun hn => ?_, fun hn => ?_⟩
  · rw [he] at hi ⊢
    have hw := h.w i h0 hi
    exact ⟨hw.1, hw.2.1, hw.2.2.1, hw.2.2.2.1, hw.2.2.2.2.1, hw.2.2.2.2.2, fun ho => ⟨below i h0 hi ho, (h.on i h0 hi ho).2⟩⟩
  · rw [hc.1] at hn; rw [hc.2]; exact h.idle hn
  · rw [hc.1] at hn
    rw [hc.1, hc.2, he]
    exact h.busy hn
theorem rise_mono (q : Que) : q.floor ≤ (riseQ q).floor := by
  rcases riseQ_floor q with ⟨_, h⟩ | ⟨_, h, _⟩ <;> omega
theorem vstep_add {a b w : Int} (h1 : 0 ≤ a) (h2 : 0 ≤ b) (h3 : a + b ≤ 100000000) (h4 : 1 ≤ w) (h5 : w ≤ 20) : vstep a w + vstep b w = vstep (a + b) w := by
  rw [vstep_in h1 (by omega) h4 h5, vstep_in h2 (by omega) h4 h5, vstep_in (by omega) h3 h4 h5, Int.add_mul]
theorem vstep_mono {a b w : Int} (h1 : 0 ≤ a) (h2 : a ≤ b) (h3 : b ≤ 100000000) (h4 : 1 ≤ w) (h5 : w ≤ 20) : vstep a w ≤ vstep b w := by
  have := vstep_add (a := a) (b := b - a) h1 (by omega) (by omega) h4 h5
  have hr := (vstep_range (b - a) w).1
  rw [show a + (b - a) = b by omega] at this
  omega
/-- Entries but one are as they were. -/
theorem set_pre {q : Que} (h : QueOk q) {i : Int} (h0 : 0 ≤ i) (hi : i < (q.es.length : Int)) {x : Ent} {c r : Int} (hx : 1 ≤ x.w ∧ x.w ≤ 20 ∧ 0 ≤ x.v ∧ x.v ≤ 100000000000000000 ∧ 0 ≤ x.sum ∧ x.sum ≤ 100000000000000000)
    (hc1 : -1 ≤ c) (hc2 : c < (q.es.length : Int)) (hidle : c < 0 → r = 0)
    (hon : x.on = true → q.floor ≤ x.v ∧ x.v - (riseQ ⟨q.floor, c, r, q.es.set i.toNat x⟩).floor ≤ lagMost x.w)
    (hbusy : 0 ≤ c → (gi (q.es.set i.toNat x) c).on = true ∧ 1 ≤ r ∧ r ≤ 149 ∧ (gi (q.es.set i.toNat x) c).v - (riseQ ⟨q.floor, c, r, q.es.set i.toNat x⟩).floor ≤ vstep r (gi (q.es.set i.toNat x) c).w) : QueOk (riseQ ⟨q.floor, c, r, q.es.set i.toNat x⟩) := by
  have hm := rise_mono ⟨q.floor, c, r, q.es.set i.toNat x⟩
  refine pre_ok ⟨by simpa using h.l1, by simpa using h.l2, h.f1, h.f2, hc1, by simpa using hc2, fun j hj0 hj => ?_, fun j hj0 hj ho => ?_, hidle, hbusy⟩
  · dsimp only at hj ⊢
    rw [gi_set _ _ h0 hi hj0]
    split
    · exact hx
    · have he := h.es j hj0 (by simpa using hj)
      exact ⟨he.w1, he.w2, he.v1, he.v2, he.s1, he.s2⟩
  · dsimp only at hj ho ⊢
    rw [gi_set _ _ h0 hi hj0] at ho ⊢
    split
    · rename_i e; rw [if_pos e] at ho; exact hon ho
    · rename_i e; rw [if_neg e] at ho
      have he := (h.es j hj0 (by simpa using hj)).on ho
      exact ⟨he.1, by have hm' : q.floor ≤ (riseQ ⟨q.floor, c, r, q.es.set i.toNat x⟩).floor := hm
                      omega⟩
theorem stay_ok {q : Que} (h : QueOk q) : QueOk (riseQ (endQ q)) := by
  have hm := rise_mono (endQ q)
  refine pre_ok ⟨h.l1, h.l2, h.f1, h.f2, Int.le_refl (-1), by show (-1 : Int) < _; have := h.l1; have e : (endQ q).es = q.es := rfl; rw [e]; omega, fun j hj0 hj => ?_, fun j hj0 hj ho => ?_, fun _ => rfl, fun hc => ?_⟩
  · have he := h.es j hj0 hj
    exact ⟨he.w1, he.w2, he.v1, he.v2, he.s1, he.s2⟩
  · have he := (h.es j hj0 hj).on ho
    refine ⟨he.1, ?_⟩
    have h1 : (gi q.es j).v - q.floor ≤ lagMost (gi q.es j).w := he.2
    have h2 : q.floor ≤ (riseQ (endQ q)).floor := hm
    show (gi q.es j).v - (riseQ (endQ q)).floor ≤ lagMost (gi q.es j).w
    omega
  · have : (0 : Int) ≤ -1 := hc
    omega
theorem lagCut_le (l k : Int) : 0 ≤ lagCut l k ∧ lagCut l k ≤ lagMost k := lagCut_range l k
theorem act_ok {q q' : Que} {op : QOp} (h : QueOk q) (ha : actQ q op = some q') : QueOk (riseQ q') := by
  have hl1 := h.l1
  have hf1 := h.f1
  have hf2 := h.f2
  have hc1 := h.c1
  have hc2 := h.c2
  unfold actQ at ha
  split at ha
  · -- joins
    split at ha
    · rename_i hat
      obtain ⟨a0, a1⟩ := atQ_t.1 hat
      unfold joinQ at ha
      split at ha
      · cases ha
      · split at ha
        · cases ha
        · rename_i hv
          simp only [Option.some.injEq] at ha
          subst ha
          have he := h.es _ a0 a1
          have lc := lagCut_le ((gi q.es op.at').v - q.floor) (gi q.es op.at').w
          refine set_pre h a0 a1 (c := -1) (r := 0) ⟨he.w1, he.w2, by show 0 ≤ q.floor + _; omega, by show q.floor + _ ≤ _; omega, he.s1, he.s2⟩ (by decide) (by omega) (fun _ => rfl) (fun _ => ⟨by show q.floor ≤ q.floor + _; omega, ?_⟩) (fun hc => by omega)
          have hm := rise_mono ⟨q.floor, -1, 0, q.es.set op.at'.toNat ⟨true, q.floor + lagCut ((gi q.es op.at').v - q.floor) (gi q.es op.at').w, (gi q.es op.at').w, (gi q.es op.at').sum⟩⟩
          show q.floor + lagCut ((gi q.es op.at').v - q.floor) (gi q.es op.at').w - _ ≤ lagMost (gi q.es op.at').w
          have hm' : q.floor ≤ (riseQ ⟨q.floor, -1, 0, q.es.set op.at'.toNat ⟨true, q.floor + lagCut ((gi q.es op.at').v - q.floor) (gi q.es op.at').w, (gi q.es op.at').w, (gi q.es op.at').sum⟩⟩).floor := hm
          omega
    · cases ha
  · split at ha
    · -- leaves
      split at ha
      · rename_i hat
        obtain ⟨a0, a1⟩ := atQ_t.1 hat
        have he := h.es _ a0 a1
        unfold leaveQ at ha
        split at ha
        · rename_i hon
          simp only [Option.some.injEq] at ha
          split at ha
          · subst ha
            exact set_pre h a0 a1 (c := -1) (r := 0) ⟨he.w1, he.w2, he.v1, he.v2, he.s1, he.s2⟩ (by decide) (by omega) (fun _ => rfl) (fun ho => by cases ho) (fun hc => by omega)
          · rename_i hne
            subst ha
            refine set_pre h a0 a1 (c := q.cur) (r := q.ran) ⟨he.w1, he.w2, he.v1, he.v2, he.s1, he.s2⟩ hc1 hc2 h.idle (fun ho => by cases ho) (fun hc => ?_)
            have hb := h.busy hc
            rw [gi_set _ _ a0 a1 hc, if_neg (fun e => hne e.symm)]
            have hm := rise_mono ⟨q.floor, q.cur, q.ran, q.es.set op.at'.toNat ⟨false, (gi q.es op.at').v, (gi q.es op.at').w, (gi q.es op.at').sum⟩⟩
            have hm' : q.floor ≤ (riseQ ⟨q.floor, q.cur, q.ran, q.es.set op.at'.toNat ⟨false, (gi q.es op.at').v, (gi q.es op.at').w, (gi q.es op.at').sum⟩⟩).floor := hm
            exact ⟨hb.1, hb.2.1, hb.2.2.1, by omega⟩
        · cases ha
      · cases ha
    · split at ha
      · -- runs
        unfold runQ at ha
        split at ha
        · cases ha
        · rename_i hg
          split at ha
          · cases ha
          · rename_i hg2
            simp only [Option.some.injEq] at ha
            subst ha
            have h0 : 0 ≤ nextQ q := by omega
            have hn : inB op.n 1 100 = true := by
              cases hb : inB op.n 1 100 with
              | true => rfl
              | false => exact absurd (.inr hb) hg
            have hn := inB_t.1 hn
            have hlt := nextQ_lt h
            have he := h.es _ h0 hlt
            have hv : tOk (runE (gi q.es (nextQ q)) op.n).v = true := by
              cases hb : tOk (runE (gi q.es (nextQ q)) op.n).v with
              | true => rfl
              | false => exact absurd (.inl hb) hg2
            have hs : tOk (runE (gi q.es (nextQ q)) op.n).sum = true := by
              cases hb : tOk (runE (gi q.es (nextQ q)) op.n).sum with
              | true => rfl
              | false => exact absurd (.inr hb) hg2
            have hv := tOk_t.1 hv
            have hs := tOk_t.1 hs
            have hvs : (runE (gi q.es (nextQ q)) op.n).v = (gi q.es (nextQ q)).v + vstep op.n (gi q.es (nextQ q)).w := rfl
            have hvr := (vstep_range op.n (gi q.es (nextQ q)).w).1
            have hon : (gi q.es (nextQ q)).on = true := by
              unfold nextQ at h0 hlt ⊢
              split
              · rename_i hc; exact (h.busy hc.1).1
              · rename_i hc
                rw [if_neg hc] at h0
                exact (least_some h0).2.1
            have hfl := (he.on hon).1
            -- how far ahead it is of the floor that is to be
            have key : (runE (gi q.es (nextQ q)) op.n).v - (riseQ ⟨q.floor, nextQ q, (if nextQ q ≠ q.cur ∨ q.ran ≥ 50 then 0 else q.ran) + op.n, q.es.set (nextQ q).toNat (runE (gi q.es (nextQ q)) op.n)⟩).floor ≤ vstep ((if nextQ q ≠ q.cur ∨ q.ran ≥ 50 then 0 else q.ran) + op.n) (gi q.es (nextQ q)).w := by
              have hm : q.floor ≤ (riseQ ⟨q.floor, nextQ q, (if nextQ q ≠ q.cur ∨ q.ran ≥ 50 then 0 else q.ran) + op.n, q.es.set (nextQ q).toNat (runE (gi q.es (nextQ q)) op.n)⟩).floor := rise_mono _
              by_cases hcont : nextQ q ≠ q.cur ∨ q.ran ≥ 50
              · rw [if_pos hcont] at hm ⊢
                rw [Int.zero_add] at hm ⊢
                have hnl : nextQ q = least q.es := by
                  unfold nextQ
                  split
                  · rename_i hc
                    unfold nextQ at hcont
                    rw [if_pos hc] at hcont
                    omega
                  · rfl
                have hl0 : 0 ≤ least q.es := by omega
                have hmin := (least_some hl0).2.2
                have hge : (gi q.es (nextQ q)).v ≤ (riseQ ⟨q.floor, nextQ q, op.n, q.es.set (nextQ q).toNat (runE (gi q.es (nextQ q)) op.n)⟩).floor := by
                  rcases riseQ_floor ⟨q.floor, nextQ q, op.n, q.es.set (nextQ q).toNat (runE (gi q.es (nextQ q)) op.n)⟩ with ⟨g1, _⟩ | ⟨g1, _, g2, _⟩
                  · exfalso
                    have := least_none g1 (nextQ q) h0 (by simpa using hlt)
                    rw [gi_set _ _ h0 hlt h0, if_pos rfl] at this
                    have e : (runE (gi q.es (nextQ q)) op.n).on = (gi q.es (nextQ q)).on := rfl
                    rw [e, hon] at this; cases this
                  · refine Int.le_trans ?_ g2
                    obtain ⟨g3, g4, _⟩ := least_some g1
                    dsimp only at g1 g3 g4 ⊢
                    rw [gi_set _ _ h0 hlt g1] at g4 ⊢
                    split
                    · rw [hvs]; omega
                    · rename_i hne
                      rw [if_neg hne] at g4
                      have e : (gi q.es (nextQ q)).v = (gi q.es (least q.es)).v := by rw [hnl]
                      have := hmin _ g1 (by simpa using g3) g4
                      omega
                rw [hvs]; omega
              · rw [if_neg hcont] at hm ⊢
                have hcc : nextQ q = q.cur := by
                  by_cases e : nextQ q = q.cur
                  · exact e
                  · exact absurd (.inl e) hcont
                have hb := h.busy (by omega)
                rw [← hcc] at hb
                have := vstep_add (a := q.ran) (b := op.n) (w := (gi q.es (nextQ q)).w) (by omega) (by omega) (by omega) he.w1 he.w2
                rw [hvs]; omega
            have hran : 1 ≤ (if nextQ q ≠ q.cur ∨ q.ran ≥ 50 then 0 else q.ran) + op.n ∧ (if nextQ q ≠ q.cur ∨ q.ran ≥ 50 then 0 else q.ran) + op.n ≤ 149 := by
              split
              · omega
              · rename_i hcont
                have hcc : nextQ q = q.cur := by
                  by_cases e : nextQ q = q.cur
                  · exact e
                  · exact absurd (.inl e) hcont
                have hb := h.busy (by omega)
                omega
            have hlm := vstep_mono (a := (if nextQ q ≠ q.cur ∨ q.ran ≥ 50 then 0 else q.ran) + op.n) (b := 149) (w := (gi q.es (nextQ q)).w) (by omega) hran.2 (by decide) he.w1 he.w2
            refine set_pre h h0 hlt ⟨he.w1, he.w2, hv.1, hv.2, hs.1, hs.2⟩ (by omega) hlt (fun hc => by omega) (fun _ => ⟨by rw [hvs]; omega, Int.le_trans key hlm⟩) (fun _ => ?_)
            rw [gi_set _ _ h0 hlt h0, if_pos rfl]
            exact ⟨hon, hran.1, hran.2, key⟩
      · split at ha
        · -- weighs
          split at ha
          · rename_i hat
            obtain ⟨a0, a1⟩ := atQ_t.1 hat
            have he := h.es _ a0 a1
            unfold weighQ at ha
            split at ha
            · cases ha
            · rename_i hw
              have hw := inB_t.1 (by simpa using hw : inB op.n 1 20 = true)
              split at ha
              · cases ha
              · rename_i hv
                simp only [Option.some.injEq] at ha
                have hv0 : 0 ≤ weighV q op.at' op.n ∧ ((gi q.es op.at').on = true → q.floor ≤ weighV q op.at' op.n ∧ weighV q op.at' op.n - q.floor ≤ lagMost op.n) := by
                  unfold weighV
                  have lc := lagCut_le ((gi q.es op.at').v - q.floor) op.n
                  have := he.v1
                  split
                  · exact ⟨by omega, fun _ => ⟨by omega, by omega⟩⟩
                  · rename_i hoff; exact ⟨he.v1, fun ho => absurd ho hoff⟩
                split at ha
                · subst ha
                  refine set_pre h a0 a1 (c := -1) (r := 0) ⟨hw.1, hw.2, hv0.1, by show weighV q op.at' op.n ≤ _; omega, he.s1, he.s2⟩ (by decide) (by omega) (fun _ => rfl) (fun ho => ⟨(hv0.2 ho).1, ?_⟩) (fun hc => by omega)
                  have hm : q.floor ≤ (riseQ ⟨q.floor, -1, 0, q.es.set op.at'.toNat ⟨(gi q.es op.at').on, weighV q op.at' op.n, op.n, (gi q.es op.at').sum⟩⟩).floor := rise_mono _
                  have := (hv0.2 ho).2
                  show weighV q op.at' op.n - _ ≤ lagMost op.n
                  omega
                · rename_i hne
                  subst ha
                  have hm : q.floor ≤ (riseQ ⟨q.floor, q.cur, q.ran, q.es.set op.at'.toNat ⟨(gi q.es op.at').on, weighV q op.at' op.n, op.n, (gi q.es op.at').sum⟩⟩).floor := rise_mono _
                  refine set_pre h a0 a1 (c := q.cur) (r := q.ran) ⟨hw.1, hw.2, hv0.1, by show weighV q op.at' op.n ≤ _; omega, he.s1, he.s2⟩ hc1 hc2 h.idle (fun ho => ⟨(hv0.2 ho).1, ?_⟩) (fun hc => ?_)
                  · have := (hv0.2 ho).2
                    show weighV q op.at' op.n - _ ≤ lagMost op.n
                    omega
                  · have hb := h.busy hc
                    rw [gi_set _ _ a0 a1 hc, if_neg (fun e => hne e.symm)]
                    exact ⟨hb.1, hb.2.1, hb.2.2.1, by omega⟩
          · cases ha
        · split at ha
          · simp only [Option.some.injEq] at ha
            subst ha
            exact stay_ok h
          · cases ha
/-- What is done with a queue leaves a queue. -/
theorem do_ok {q : Que} (h : queOk q = true) (op : QOp) : queOk (doQ q op).1 = true := by
  unfold doQ
  rw [if_pos h]
  split
  · rename_i q' ha
    exact queOk_iff.2 (act_ok (queOk_iff.1 h) ha)
  · exact h

/-- Who stays ready with the same weight gets virtual time by the weight. -/
theorem act_gain {q q' : Que} {op : QOp} (h : QueOk q) (ha : actQ q op = some q') {i : Int} (h0 : 0 ≤ i) (hi : i < (q.es.length : Int)) (hon : (gi q.es i).on = true) (hon' : (gi q'.es i).on = true) (hw : (gi q'.es i).w = (gi q.es i).w) :
    ((gi q'.es i).sum - (gi q.es i).sum) * stp (gi q.es i).w = (gi q'.es i).v - (gi q.es i).v := by
  have same : ∀ {x y : Ent}, y = x → (y.sum - x.sum) * stp x.w = y.v - x.v := fun {x y} e => by subst e; rw [Int.sub_self, Int.zero_mul, Int.sub_self]
  have he := h.es i h0 hi
  unfold actQ at ha
  split at ha
  · split at ha
    · rename_i hat
      obtain ⟨a0, a1⟩ := atQ_t.1 hat
      unfold joinQ at ha
      split at ha
      · cases ha
      · rename_i hoff
        split at ha
        · cases ha
        · simp only [Option.some.injEq] at ha
          subst ha
          refine same ?_
          show gi (q.es.set _ _) i = _
          rw [gi_set _ _ a0 a1 h0, if_neg (fun e => hoff (by rw [e]; exact hon))]
    · cases ha
  · split at ha
    · split at ha
      · rename_i hat
        obtain ⟨a0, a1⟩ := atQ_t.1 hat
        unfold leaveQ at ha
        have key : gi q'.es i = gi (q.es.set op.at'.toNat ⟨false, (gi q.es op.at').v, (gi q.es op.at').w, (gi q.es op.at').sum⟩) i := by
          split at ha
          · simp only [Option.some.injEq] at ha
            subst ha
            split <;> rfl
          · cases ha
        rw [key, gi_set _ _ a0 a1 h0] at hon' ⊢
        split
        · rename_i e; rw [if_pos e] at hon'; cases hon'
        · exact same rfl
      · cases ha
    · split at ha
      · unfold runQ at ha
        split at ha
        · cases ha
        · rename_i hg
          split at ha
          · cases ha
          · simp only [Option.some.injEq] at ha
            subst ha
            have a0 : 0 ≤ nextQ q := by omega
            have a1 := nextQ_lt h
            have hn : inB op.n 1 100 = true := by
              cases hb : inB op.n 1 100 with
              | true => rfl
              | false => exact absurd (.inr hb) hg
            have hn := inB_t.1 hn
            show ((gi (q.es.set _ _) i).sum - _) * _ = (gi (q.es.set _ _) i).v - _
            rw [gi_set _ _ a0 a1 h0]
            split
            · rename_i e
              rw [e]
              show ((gi q.es i).sum + op.n - (gi q.es i).sum) * _ = (gi q.es i).v + vstep op.n (gi q.es i).w - (gi q.es i).v
              rw [vstep_in (by omega) (by omega) he.w1 he.w2]
              have e1 : (gi q.es i).sum + op.n - (gi q.es i).sum = op.n := by omega
              rw [e1]; omega
            · exact same rfl
      · split at ha
        · split at ha
          · rename_i hat
            obtain ⟨a0, a1⟩ := atQ_t.1 hat
            unfold weighQ at ha
            split at ha
            · cases ha
            · split at ha
              · cases ha
              · simp only [Option.some.injEq] at ha
                have key : gi q'.es i = gi (q.es.set op.at'.toNat ⟨(gi q.es op.at').on, weighV q op.at' op.n, op.n, (gi q.es op.at').sum⟩) i := by
                  subst ha
                  split <;> rfl
                rw [key, gi_set _ _ a0 a1 h0] at hw ⊢
                split
                · rename_i e
                  rw [if_pos e] at hw
                  rw [e] at hw ⊢
                  have hw : op.n = (gi q.es i).w := hw
                  have hb := he.on hon
                  show ((gi q.es i).sum - (gi q.es i).sum) * _ = weighV q i op.n - (gi q.es i).v
                  have : weighV q i op.n = (gi q.es i).v := by
                    unfold weighV lagCut
                    rw [if_pos hon, hw]
                    split <;> (try split) <;> (try split) <;> omega
                  rw [this, Int.sub_self, Int.zero_mul, Int.sub_self]
                · exact same rfl
          · cases ha
        · split at ha
          · simp only [Option.some.injEq] at ha
            subst ha
            exact same rfl
          · cases ha
theorem do_gain {q : Que} {op : QOp} (h : queOk q = true) {i : Int} (h0 : 0 ≤ i) (hi : i < (q.es.length : Int)) (hon : (gi q.es i).on = true) (hon' : (gi (doQ q op).1.es i).on = true) (hw : (gi (doQ q op).1.es i).w = (gi q.es i).w) :
    ((gi (doQ q op).1.es i).sum - (gi q.es i).sum) * stp (gi q.es i).w = (gi (doQ q op).1.es i).v - (gi q.es i).v := by
  have hq := queOk_iff.1 h
  unfold doQ at *
  rw [if_pos h] at *
  cases ha : actQ q op with
  | none =>
    show ((gi q.es i).sum - (gi q.es i).sum) * _ = (gi q.es i).v - (gi q.es i).v
    rw [Int.sub_self, Int.zero_mul, Int.sub_self]
  | some q' =>
    rw [ha] at hon' hw
    show ((gi (riseQ q').es i).sum - _) * _ = (gi (riseQ q').es i).v - _
    have hon' : (gi (riseQ q').es i).on = true := hon'
    have hw : (gi (riseQ q').es i).w = (gi q.es i).w := hw
    rw [riseQ_es] at hon' hw ⊢
    exact act_gain hq ha h0 hi hon hon' hw
theorem do_len {q : Que} (h : queOk q = true) (op : QOp) : (doQ q op).1.es.length = q.es.length := by
  unfold doQ
  rw [if_pos h]
  split
  · rename_i ha
    rw [riseQ_es]; exact act_len ha
  · rfl
/-- How far apart two come. -/
theorem apart_le {x y wa wb p : Int} (ha1 : 1 ≤ wa) (ha2 : wa ≤ 20) (hb1 : 1 ≤ wb) (hb2 : wb ≤ 20) (hp : p = x * stp wa - y * stp wb) (hle : p ≤ 149 * stp wa + 149 * stp wb) : x * wb - y * wa ≤ 149 * (wa + wb) := by
  have sa := stp_mul ha1 ha2
  have sb := stp_mul hb1 hb2
  have e1 : (x * wb - y * wa) * 232792560 = wa * wb * p := by
    rw [hp, Int.sub_mul, Int.mul_sub]
    have e2 : x * wb * 232792560 = wa * wb * (x * stp wa) := by rw [← sa]; ac_rfl
    have e3 : y * wa * 232792560 = wa * wb * (y * stp wb) := by rw [← sb]; ac_rfl
    rw [e2, e3]
  have e4 : 149 * (wa + wb) * 232792560 = wa * wb * (149 * stp wa + 149 * stp wb) := by
    rw [Int.mul_add, Int.mul_add, Int.add_mul]
    have e5 : 149 * wa * 232792560 = wa * wb * (149 * stp wb) := by rw [← sb]; ac_rfl
    have e6 : 149 * wb * 232792560 = wa * wb * (149 * stp wa) := by rw [← sa]; ac_rfl
    rw [e5, e6, Int.add_comm]
  have hpos : 0 ≤ wa * wb := Int.mul_nonneg (by omega) (by omega)
  have := Int.mul_le_mul_of_nonneg_left hle hpos
  rw [← e1, ← e4] at this
  omega
end Go.Proofs.Ythihcdljmddgfaa
