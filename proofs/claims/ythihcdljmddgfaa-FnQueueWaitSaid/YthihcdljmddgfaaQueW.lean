/- Plain laws of queues: how large its numbers are; how long one waits. -/
import Derived.Test.YthihcdljmddgfaaQueL
namespace Go.Proofs.Ythihcdljmddgfaa
open Go.RowKit
set_option linter.unusedVariables false
set_option maxRecDepth 10000

/-! ### How large -/
structure SmlQ (B : Int) (q : Que) : Prop where
  f : q.floor ≤ B
  v : ∀ i : Int, 0 ≤ i → i < (q.es.length : Int) → (gi q.es i).v ≤ B
  s : ∀ i : Int, 0 ≤ i → i < (q.es.length : Int) → (gi q.es i).sum ≤ B
theorem SmlQ.mono {B B' : Int} {q : Que} (h : SmlQ B q) (hb : B ≤ B') : SmlQ B' q := ⟨Int.le_trans h.f hb, fun i h0 h1 => Int.le_trans (h.v i h0 h1) hb, fun i h0 h1 => Int.le_trans (h.s i h0 h1) hb⟩
theorem sml_set {B : Int} {q : Que} (h : SmlQ B q) {i : Int} (h0 : 0 ≤ i) (hi : i < (q.es.length : Int)) {x : Ent} {c r : Int} (hv : x.v ≤ B) (hs : x.sum ≤ B) : SmlQ B ⟨q.floor, c, r, q.es.set i.toNat x⟩ := by
  refine ⟨h.f, fun j hj0 hj => ?_, fun j hj0 hj => ?_⟩
  · dsimp only at hj ⊢
    rw [gi_set _ _ h0 hi hj0]
    split
    · exact hv
    · exact h.v j hj0 (by simpa using hj)
  · dsimp only at hj ⊢
    rw [gi_set _ _ h0 hi hj0]
    split
    · exact hs
    · exact h.s j hj0 (by simpa using hj)
theorem sml_rise {B : Int} {q : Que} (h : SmlQ B q) : SmlQ B (riseQ q) := by
  have he := riseQ_es q
  refine ⟨?_, fun j hj0 hj => ?_, fun j hj0 hj => ?_⟩
  · rcases riseQ_floor q with ⟨_, h1⟩ | ⟨h1, _, _, h2⟩
    · rw [h1]; exact h.f
    · rcases h2 with h2 | h2
      · rw [h2]; exact h.f
      · rw [h2]; exact h.v _ h1 (least_some h1).1
  · rw [he] at hj ⊢; exact h.v j hj0 hj
  · rw [he] at hj ⊢; exact h.s j hj0 hj
theorem sml_act {B : Int} {q q' : Que} {op : QOp} (h : QueOk q) (hs : SmlQ B q) (ha : actQ q op = some q') : SmlQ (B + 34686091440) q' := by
  have hb : SmlQ (B + 34686091440) q := hs.mono (by omega)
  have hf := hs.f
  unfold actQ at ha
  split at ha
  · split at ha
    · rename_i hat
      obtain ⟨a0, a1⟩ := atQ_t.1 hat
      have e1 := hs.s _ a0 a1
      unfold joinQ at ha
      split at ha
      · cases ha
      · split at ha
        · cases ha
        · simp only [Option.some.injEq] at ha
          subst ha
          have lc := lagCut_le ((gi q.es op.at').v - q.floor) (gi q.es op.at').w
          have lm := lagMost_range (gi q.es op.at').w
          exact sml_set hb a0 a1 (by show q.floor + _ ≤ _; omega) (by show (gi q.es op.at').sum ≤ _; omega)
    · cases ha
  · split at ha
    · split at ha
      · rename_i hat
        obtain ⟨a0, a1⟩ := atQ_t.1 hat
        have e1 := hs.s _ a0 a1
        have e2 := hs.v _ a0 a1
        unfold leaveQ at ha
        split at ha
        · simp only [Option.some.injEq] at ha
          split at ha <;> subst ha <;> exact sml_set hb a0 a1 (by show (gi q.es op.at').v ≤ _; omega) (by show (gi q.es op.at').sum ≤ _; omega)
        · cases ha
      · cases ha
    · split at ha
      · unfold runQ at ha
        split at ha
        · cases ha
        · rename_i hg
          split at ha
          · cases ha
          · simp only [Option.some.injEq] at ha
            subst ha
            have h0 : 0 ≤ nextQ q := by omega
            have hlt := nextQ_lt h
            have hn : inB op.n 1 100 = true := by
              cases hb : inB op.n 1 100 with
              | true => rfl
              | false => exact absurd (.inr hb) hg
            have hn := inB_t.1 hn
            have he := h.es _ h0 hlt
            have e1 := hs.s _ h0 hlt
            have e2 := hs.v _ h0 hlt
            have hv := vstep_mono (a := op.n) (b := 149) (w := (gi q.es (nextQ q)).w) (by omega) (by omega) (by decide) he.w1 he.w2
            have hl : vstep 149 (gi q.es (nextQ q)).w ≤ 34686091440 := (lagMost_range _).2
            exact sml_set hb h0 hlt (by show (gi q.es (nextQ q)).v + vstep op.n (gi q.es (nextQ q)).w ≤ _; omega) (by show (gi q.es (nextQ q)).sum + op.n ≤ _; omega)
      · split at ha
        · split at ha
          · rename_i hat
            obtain ⟨a0, a1⟩ := atQ_t.1 hat
            have e1 := hs.s _ a0 a1
            have e2 := hs.v _ a0 a1
            have lc := lagCut_le ((gi q.es op.at').v - q.floor) op.n
            have lm := lagMost_range op.n
            have hw : weighV q op.at' op.n ≤ B + 34686091440 := by
              unfold weighV
              split <;> omega
            unfold weighQ at ha
            split at ha
            · cases ha
            · split at ha
              · cases ha
              · simp only [Option.some.injEq] at ha
                split at ha <;> subst ha <;> exact sml_set hb a0 a1 hw (by show (gi q.es op.at').sum ≤ _; omega)
          · cases ha
        · split at ha
          · simp only [Option.some.injEq] at ha
            subst ha
            exact ⟨hb.f, hb.v, hb.s⟩
          · cases ha
theorem sml_do {B : Int} {q : Que} (hq : queOk q = true) (hs : SmlQ B q) (op : QOp) : SmlQ (B + 34686091440) (doQ q op).1 := by
  unfold doQ
  rw [if_pos hq]
  split
  · rename_i q' ha
    exact sml_rise (sml_act (queOk_iff.1 hq) hs ha)
  · exact hs.mono (by omega)

/-! ### Sums -/
def sumTo (f : Nat → Int) : Nat → Int
  | 0 => 0
  | k + 1 => sumTo f k + f k
theorem sumTo_le {f g : Nat → Int} : ∀ {k : Nat}, (∀ j : Nat, j < k → f j ≤ g j) → sumTo f k ≤ sumTo g k
  | 0, _ => Int.le_refl _
  | k + 1, h => by
    have h1 := sumTo_le (f := f) (g := g) (k := k) fun j hj => h j (by omega)
    have h2 := h k (by omega)
    simp only [sumTo]; omega
theorem sumTo_eq {f g : Nat → Int} {k : Nat} (h : ∀ j : Nat, j < k → f j = g j) : sumTo f k = sumTo g k :=
  Int.le_antisymm (sumTo_le fun j hj => Int.le_of_eq (h j hj)) (sumTo_le fun j hj => Int.le_of_eq (h j hj).symm)
/-- Two that differ at one place. -/
theorem sumTo_one {f g : Nat → Int} {i : Nat} : ∀ {k : Nat}, i < k → (∀ j : Nat, j < k → j ≠ i → f j = g j) → sumTo f k = sumTo g k + (f i - g i)
  | 0, h, _ => absurd h (Nat.not_lt_zero i)
  | k + 1, h, hs => by
    simp only [sumTo]
    by_cases hik : i = k
    · subst hik
      rw [sumTo_eq (f := f) (g := g) (k := i) fun j hj => hs j (by omega) (by omega)]
      omega
    · rw [sumTo_one (f := f) (g := g) (k := k) (by omega) fun j hj hne => hs j (by omega) hne, hs k (by omega) (by omega)]
      omega
theorem sumTo_nn {f : Nat → Int} : ∀ {k : Nat}, (∀ j : Nat, j < k → 0 ≤ f j) → 0 ≤ sumTo f k
  | 0, _ => Int.le_refl _
  | k + 1, h => by
    have h1 := sumTo_nn (f := f) (k := k) fun j hj => h j (by omega)
    have h2 := h k (by omega)
    simp only [sumTo]; omega
theorem sumTo_up {f : Nat → Int} {B : Int} : ∀ {k : Nat}, (∀ j : Nat, j < k → f j ≤ B) → sumTo f k ≤ (k : Int) * B
  | 0, _ => by simp [sumTo]
  | k + 1, h => by
    have h1 := sumTo_up (f := f) (B := B) (k := k) fun j hj => h j (by omega)
    have h2 := h k (by omega)
    simp only [sumTo]
    rw [show ((k + 1 : Nat) : Int) * B = (k : Int) * B + B by rw [show ((k + 1 : Nat) : Int) = (k : Int) + 1 by omega, Int.add_mul, Int.one_mul]]
    omega

/-! ### Waiting -/
theorem vunits_range (v w : Int) : 0 ≤ vunits v w ∧ vunits v w ≤ 300000000000000000 := by
  by_cases h : 1 ≤ v ∧ v ≤ 300000000000000000 ∧ 1 ≤ w ∧ w ≤ 20
  · rw [vunits_in h.1 h.2.1 h.2.2.1 h.2.2.2]
    have hs : 1 ≤ stp w := by
      have := stp_mul h.2.2.1 h.2.2.2
      rcases Int.lt_or_le (stp w) 1 with h1 | h1
      · have : stp w * w ≤ 0 := Int.mul_nonpos_of_nonpos_of_nonneg (by omega) (by omega)
        omega
      · exact h1
    refine ⟨Int.ediv_nonneg (by omega) (by omega), ?_⟩
    refine Int.le_trans (Int.ediv_le_of_le_mul (c := stp w) (a := v + stp w - 1) (b := v) (by omega) ?_) h.2.1
    have : v + stp w - 1 ≤ v * stp w := by
      have h1 : 0 ≤ (v - 1) * (stp w - 1) := Int.mul_nonneg (by omega) (by omega)
      rw [Int.sub_mul, Int.mul_sub, Int.mul_sub] at h1
      omega
    exact this
  · rw [vunits_out h]; omega
/-- So many units are less than what brings one so far. -/
theorem units_lt {x D w : Int} (hx : 0 ≤ x) (hD : D ≤ 300000000000000000) (h1 : 1 ≤ w) (h2 : w ≤ 20) (h : x * stp w < D) : x < vunits D w := by
  have hs : 1 ≤ stp w := by
    have := stp_mul h1 h2
    rcases Int.lt_or_le (stp w) 1 with h1 | h1
    · have : stp w * w ≤ 0 := Int.mul_nonpos_of_nonpos_of_nonneg (by omega) (by omega)
      omega
    · exact h1
  have h0 : 0 ≤ x * stp w := Int.mul_nonneg hx (by omega)
  rw [vunits_in (by omega) hD h1 h2]
  have : x + 1 ≤ (D + stp w - 1) / stp w := by
    refine (Int.le_ediv_iff_mul_le (by omega)).2 ?_
    rw [Int.add_mul, Int.one_mul]; omega
  omega
def goalQ (q : Que) (i u : Int) : Int := (gi q.es i).v + vstep u (gi q.es i).w
def waitF (q : Que) (i G : Int) (j : Nat) : Int := if (j : Int) ≠ i ∧ (gi q.es (j : Int)).on = true then 149 + vunits (G - (gi q.es (j : Int)).v) (gi q.es (j : Int)).w else 0
def waitQ (q : Que) (i u : Int) : Int := if queOk q = true ∧ atQ q i = true ∧ inB u 1 100000000 = true ∧ (gi q.es i).on = true then u + sumTo (waitF q i (goalQ q i u)) q.es.length else 0
theorem waitF_nn (q : Que) (i G : Int) (j : Nat) : 0 ≤ waitF q i G j ∧ waitF q i G j ≤ 300000000000000149 := by
  have := vunits_range (G - (gi q.es (j : Int)).v) (gi q.es (j : Int)).w
  unfold waitF
  split <;> omega
/-- What runs alone do. -/
structure WI (q0 : Que) (i G done : Int) (q : Que) : Prop where
  ok : queOk q = true
  len : q.es.length = q0.es.length
  on : ∀ j : Int, 0 ≤ j → j < (q0.es.length : Int) → (gi q.es j).on = (gi q0.es j).on
  w : ∀ j : Int, 0 ≤ j → j < (q0.es.length : Int) → (gi q.es j).w = (gi q0.es j).w
  x0 : ∀ j : Int, 0 ≤ j → j < (q0.es.length : Int) → 0 ≤ (gi q.es j).sum - (gi q0.es j).sum ∧ (gi q.es j).sum - (gi q0.es j).sum ≤ done
  off : ∀ j : Int, 0 ≤ j → j < (q0.es.length : Int) → (gi q0.es j).on = false → (gi q.es j).sum = (gi q0.es j).sum
  g : ∀ j : Int, 0 ≤ j → j < (q0.es.length : Int) → ((gi q.es j).sum - (gi q0.es j).sum) * stp (gi q0.es j).w = (gi q.es j).v - (gi q0.es j).v
  tot : sumTo (fun j => (gi q.es (j : Int)).sum - (gi q0.es (j : Int)).sum) q0.es.length = done
  wait : G ≤ (gi q.es i).v ∨ ∀ j : Int, 0 ≤ j → j < (q0.es.length : Int) → j ≠ i → (gi q0.es j).on = true →
    (gi q.es j).sum - (gi q0.es j).sum ≤ 149 + vunits (G - (gi q0.es j).v) (gi q0.es j).w ∧ (q.cur = j → (gi q.es j).sum - (gi q0.es j).sum ≤ vunits (G - (gi q0.es j).v) (gi q0.es j).w + q.ran)
theorem WI.start {q0 : Que} {i G : Int} (h : queOk q0 = true) : WI q0 i G 0 q0 := by
  have Q := queOk_iff.1 h
  refine ⟨h, rfl, fun _ _ _ => rfl, fun _ _ _ => rfl, fun _ _ _ => by omega, fun _ _ _ _ => rfl, fun _ _ _ => by rw [Int.sub_self, Int.zero_mul, Int.sub_self], ?_, .inr fun j h0 h1 _ _ => ?_⟩
  · rw [sumTo_eq (g := fun _ => 0) fun j _ => Int.sub_self _]
    have h1 := sumTo_nn (f := fun _ => (0 : Int)) (k := q0.es.length) fun _ _ => Int.le_refl _
    have h2 := sumTo_up (f := fun _ => (0 : Int)) (B := 0) (k := q0.es.length) fun _ _ => Int.le_refl _
    omega
  · have := vunits_range (G - (gi q0.es j).v) (gi q0.es j).w
    refine ⟨by omega, fun hc => ?_⟩
    have := (Q.busy (by omega)).2.1
    omega
theorem stp_up {w : Int} (h1 : 1 ≤ w) (h2 : w ≤ 20) : 1 ≤ stp w ∧ stp w ≤ 232792560 := by
  have h := stp_mul h1 h2
  have hs : 1 ≤ stp w := by
    rcases Int.lt_or_le (stp w) 1 with h1 | h1
    · have : stp w * w ≤ 0 := Int.mul_nonpos_of_nonpos_of_nonneg (by omega) (by omega)
      omega
    · exact h1
  refine ⟨hs, ?_⟩
  have : stp w * 1 ≤ stp w * w := Int.mul_le_mul_of_nonneg_left h1 (by omega)
  omega
theorem wi_run {q0 q : Que} {i G done m a : Int} (h : WI q0 i G done q) (h0 : 0 ≤ i) (hi : i < (q0.es.length : Int)) (hon : (gi q0.es i).on = true) (hm1 : 1 ≤ m) (hm2 : m ≤ 100) (hG : G ≤ 200000000000000000) (hd : 0 ≤ done) (hd2 : done + m ≤ 1000000)
    (hsm : SmlQ 10000000000000 q0) (h00 : queOk q0 = true) : (doQ q ⟨3, a, m⟩).2 = true ∧ WI q0 i G (done + m) (doQ q ⟨3, a, m⟩).1 := by
  have Q := queOk_iff.1 h.ok
  have Q0 := queOk_iff.1 h00
  have hl := h.len
  have hoi : (gi q.es i).on = true := by rw [h.on i h0 hi]; exact hon
  have hk0 : 0 ≤ nextQ q := by
    unfold nextQ
    split
    · rename_i hc; exact hc.1
    · rcases Int.lt_or_le (least q.es) 0 with hl0 | hl0
      · have := least_none hl0 i h0 (by omega)
        rw [hoi] at this; cases this
      · exact hl0
  have hkl := nextQ_lt Q
  have hkon : (gi q.es (nextQ q)).on = true := by
    unfold nextQ at hk0 hkl ⊢
    split
    · rename_i hc; exact (Q.busy hc.1).1
    · rename_i hc
      rw [if_neg hc] at hk0
      exact (least_some hk0).2.1
  have hfresh : (nextQ q ≠ q.cur ∨ q.ran ≥ 50) → (gi q.es (nextQ q)).v ≤ (gi q.es i).v := fun hf => by
    have e : nextQ q = least q.es := by
      unfold nextQ
      split
      · rename_i hc
        unfold nextQ at hf
        rw [if_pos hc] at hf
        omega
      · rfl
    rw [e] at hk0 ⊢
    exact (least_some hk0).2.2 i h0 (by omega) hoi
  have ek := Q.es _ hk0 hkl
  have hkl0 : nextQ q < (q0.es.length : Int) := by omega
  have ek0 := Q0.es _ hk0 hkl0
  have hw := h.w _ hk0 hkl0
  have hx := h.x0 _ hk0 hkl0
  have hg := h.g _ hk0 hkl0
  have hsu := stp_up ek0.w1 ek0.w2
  have hvs : vstep m (gi q.es (nextQ q)).w = m * stp (gi q0.es (nextQ q)).w := by rw [hw]; exact vstep_in (by omega) (by omega) ek0.w1 ek0.w2
  have b1 : ((gi q.es (nextQ q)).sum - (gi q0.es (nextQ q)).sum) * stp (gi q0.es (nextQ q)).w ≤ done * 232792560 := by
    refine Int.le_trans (Int.mul_le_mul_of_nonneg_right hx.2 (by omega)) (Int.mul_le_mul_of_nonneg_left hsu.2 hd)
  have b2 : m * stp (gi q0.es (nextQ q)).w ≤ m * 232792560 := Int.mul_le_mul_of_nonneg_left hsu.2 (by omega)
  have b3 : 0 ≤ m * stp (gi q0.es (nextQ q)).w := Int.mul_nonneg (by omega) (by omega)
  have s1 := hsm.v _ hk0 hkl0
  have s2 := hsm.s _ hk0 hkl0
  have v0 := ek.v1
  have t1 := ek.s1
  have hrun : actQ q ⟨3, a, m⟩ = some ⟨q.floor, nextQ q, (if nextQ q ≠ q.cur ∨ q.ran ≥ 50 then 0 else q.ran) + m, q.es.set (nextQ q).toNat (runE (gi q.es (nextQ q)) m)⟩ := by
    have e : actQ q ⟨3, a, m⟩ = runQ q m := rfl
    rw [e]
    unfold runQ
    rw [if_neg, if_neg]
    · have hv : tOk (runE (gi q.es (nextQ q)) m).v = true := tOk_t.2 (by show 0 ≤ (gi q.es (nextQ q)).v + vstep m _ ∧ (gi q.es (nextQ q)).v + vstep m _ ≤ _; omega)
      have hs : tOk (runE (gi q.es (nextQ q)) m).sum = true := tOk_t.2 (by show 0 ≤ (gi q.es (nextQ q)).sum + m ∧ (gi q.es (nextQ q)).sum + m ≤ _; omega)
      rw [hv, hs]
      rintro (hc | hc) <;> cases hc
    · have : inB m 1 100 = true := inB_t.2 ⟨hm1, hm2⟩
      rw [this]
      rintro (hc | hc)
      · omega
      · cases hc
  have hdo : doQ q ⟨3, a, m⟩ = (riseQ ⟨q.floor, nextQ q, (if nextQ q ≠ q.cur ∨ q.ran ≥ 50 then 0 else q.ran) + m, q.es.set (nextQ q).toNat (runE (gi q.es (nextQ q)) m)⟩, true) := by
    unfold doQ; rw [if_pos h.ok, hrun]
  have hok := do_ok h.ok ⟨3, a, m⟩
  rw [hdo] at hok ⊢
  refine ⟨rfl, ?_⟩
  show WI q0 i G (done + m) (riseQ ⟨q.floor, nextQ q, (if nextQ q ≠ q.cur ∨ q.ran ≥ 50 then 0 else q.ran) + m, q.es.set (nextQ q).toNat (runE (gi q.es (nextQ q)) m)⟩)
  have hok : queOk (riseQ ⟨q.floor, nextQ q, (if nextQ q ≠ q.cur ∨ q.ran ≥ 50 then 0 else q.ran) + m, q.es.set (nextQ q).toNat (runE (gi q.es (nextQ q)) m)⟩) = true := hok
  have hes := riseQ_es ⟨q.floor, nextQ q, (if nextQ q ≠ q.cur ∨ q.ran ≥ 50 then 0 else q.ran) + m, q.es.set (nextQ q).toNat (runE (gi q.es (nextQ q)) m)⟩
  have hcu := riseQ_cur ⟨q.floor, nextQ q, (if nextQ q ≠ q.cur ∨ q.ran ≥ 50 then 0 else q.ran) + m, q.es.set (nextQ q).toNat (runE (gi q.es (nextQ q)) m)⟩
  generalize riseQ ⟨q.floor, nextQ q, (if nextQ q ≠ q.cur ∨ q.ran ≥ 50 then 0 else q.ran) + m, q.es.set (nextQ q).toNat (runE (gi q.es (nextQ q)) m)⟩ = q' at hok hes hcu ⊢
  have Q' := queOk_iff.1 hok
  dsimp only at hes hcu
  obtain ⟨hc1, hc2⟩ := hcu
  -- the entries
  have same : ∀ j : Int, 0 ≤ j → j ≠ nextQ q → gi q'.es j = gi q.es j := fun j hj hne => by rw [hes, gi_set _ _ hk0 hkl hj, if_neg (fun e => hne e.symm)]
  have here : gi q'.es (nextQ q) = runE (gi q.es (nextQ q)) m := by rw [hes, gi_set _ _ hk0 hkl hk0, if_pos rfl]
  have hsum : (gi q'.es (nextQ q)).sum = (gi q.es (nextQ q)).sum + m := by rw [here]; rfl
  have hvv : (gi q'.es (nextQ q)).v = (gi q.es (nextQ q)).v + m * stp (gi q0.es (nextQ q)).w := by rw [here, ← hvs]; rfl
  have hran : q'.ran ≤ 149 := by
    have := (Q'.busy (by rw [hc1]; exact hk0)).2.2.1
    exact this
  refine ⟨hok, by rw [hes, List.length_set]; exact hl, fun j hj hjl => ?_, fun j hj hjl => ?_, fun j hj hjl => ?_, fun j hj hjl hoff => ?_, fun j hj hjl => ?_, ?_, ?_⟩
  · by_cases hjk : j = nextQ q
    · subst hjk; rw [here]; exact h.on _ hj hjl
    · rw [same j hj hjk]; exact h.on j hj hjl
  · by_cases hjk : j = nextQ q
    · subst hjk; rw [here]; exact h.w _ hj hjl
    · rw [same j hj hjk]; exact h.w j hj hjl
  · by_cases hjk : j = nextQ q
    · subst hjk; rw [hsum]; omega
    · rw [same j hj hjk]; have := h.x0 j hj hjl; omega
  · by_cases hjk : j = nextQ q
    · subst hjk
      rw [h.on _ hj hjl, hoff] at hkon; cases hkon
    · rw [same j hj hjk]; exact h.off j hj hjl hoff
  · by_cases hjk : j = nextQ q
    · subst hjk
      rw [hsum, hvv, show (gi q.es (nextQ q)).sum + m - (gi q0.es (nextQ q)).sum = ((gi q.es (nextQ q)).sum - (gi q0.es (nextQ q)).sum) + m by omega, Int.add_mul, hg]
      omega
    · rw [same j hj hjk]; exact h.g j hj hjl
  · rw [sumTo_one (f := fun j => (gi q'.es (j : Int)).sum - (gi q0.es (j : Int)).sum) (g := fun j => (gi q.es (j : Int)).sum - (gi q0.es (j : Int)).sum) (i := (nextQ q).toNat) (k := q0.es.length) (by omega) fun j hj hne => by
      rw [same (j : Int) (by omega) (by omega)]]
    rw [h.tot]
    rw [show (((nextQ q).toNat : Nat) : Int) = nextQ q by omega, hsum]
    omega
  · rcases h.wait with hG' | hall
    · left
      by_cases hik : i = nextQ q
      · subst hik; rw [hvv]; omega
      · rw [same i h0 hik]; exact hG'
    · by_cases hik : i = nextQ q
      · by_cases hgo : G ≤ (gi q'.es i).v
        · exact .inl hgo
        · right
          intro j hj hjl hji hjon
          have hjk : j ≠ nextQ q := fun e => hji (by rw [e, ← hik])
          rw [same j hj hjk]
          exact ⟨(hall j hj hjl hji hjon).1, fun hc => absurd (hc1.symm.trans hc).symm hjk⟩
      · by_cases hgo : G ≤ (gi q'.es i).v
        · exact .inl hgo
        · right
          intro j hj hjl hji hjon
          have hlt : (gi q.es i).v < G := by rw [same i h0 hik] at hgo; omega
          by_cases hjk : j = nextQ q
          · subst hjk
            have key : (gi q'.es (nextQ q)).sum - (gi q0.es (nextQ q)).sum ≤ vunits (G - (gi q0.es (nextQ q)).v) (gi q0.es (nextQ q)).w + q'.ran := by
              rw [hsum, hc2]
              split
              · rename_i hf
                have hle := hfresh hf
                have hv00 := ek0.v1
                have := units_lt (x := (gi q.es (nextQ q)).sum - (gi q0.es (nextQ q)).sum) (D := G - (gi q0.es (nextQ q)).v) hx.1 (by omega) ek0.w1 ek0.w2 (by rw [hg]; omega)
                omega
              · rename_i hf
                have hcc : q.cur = nextQ q := by
                  by_cases e : nextQ q = q.cur
                  · exact e.symm
                  · exact absurd (.inl e) hf
                have := (hall _ hj hjl hji hjon).2 hcc
                omega
            exact ⟨by omega, fun _ => key⟩
          · rw [same j hj hjk]
            exact ⟨(hall j hj hjl hji hjon).1, fun hc => absurd (hc1.symm.trans hc).symm hjk⟩
/-- Who waits that long has got it. -/
theorem wi_end {q0 q : Que} {i u : Int} (hq0 : queOk q0 = true) (h0 : 0 ≤ i) (hi : i < (q0.es.length : Int)) (hu1 : 1 ≤ u) (hu2 : u ≤ 100000000) (h : WI q0 i (goalQ q0 i u) (u + sumTo (waitF q0 i (goalQ q0 i u)) q0.es.length) q) : u ≤ (gi q.es i).sum - (gi q0.es i).sum := by
  have Q0 := queOk_iff.1 hq0
  have e0 := Q0.es i h0 hi
  have hx := h.x0 i h0 hi
  have hg := h.g i h0 hi
  have hsu := stp_up e0.w1 e0.w2
  rcases Int.lt_or_le ((gi q.es i).sum - (gi q0.es i).sum) u with hlt | hle
  · exfalso
    have hv : (gi q.es i).v < goalQ q0 i u := by
      have e : goalQ q0 i u = (gi q0.es i).v + u * stp (gi q0.es i).w := by unfold goalQ; rw [vstep_in (by omega) hu2 e0.w1 e0.w2]
      have := Int.mul_lt_mul_of_pos_right hlt (show 0 < stp (gi q0.es i).w by omega)
      omega
    rcases h.wait with hG | hall
    · omega
    · have hle : sumTo (fun j => (gi q.es (j : Int)).sum - (gi q0.es (j : Int)).sum) q0.es.length ≤ sumTo (fun j => if (j : Int) = i then u - 1 else waitF q0 i (goalQ q0 i u) j) q0.es.length := sumTo_le fun j hj => by
        split
        · rename_i e; rw [e]; omega
        · rename_i e
          unfold waitF
          cases ho : (gi q0.es (j : Int)).on with
          | true =>
            rw [if_pos ⟨e, rfl⟩]
            exact (hall (j : Int) (by omega) (by omega) e ho).1
          | false =>
            rw [if_neg (fun hc => by cases hc.2), h.off (j : Int) (by omega) (by omega) ho]
            omega
      rw [h.tot, sumTo_one (f := fun j => if (j : Int) = i then u - 1 else waitF q0 i (goalQ q0 i u) j) (g := waitF q0 i (goalQ q0 i u)) (i := i.toNat) (by omega) fun j hj hne => by
        rw [if_neg (by omega)]] at hle
      rw [if_pos (by omega)] at hle
      have : waitF q0 i (goalQ q0 i u) i.toNat = 0 := by
        unfold waitF
        rw [if_neg (fun hc => hc.1 (by omega))]
      omega
  · exact hle
end Go.Proofs.Ythihcdljmddgfaa
