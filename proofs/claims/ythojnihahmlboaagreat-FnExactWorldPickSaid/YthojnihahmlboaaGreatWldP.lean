/- Worlds: who is next on a processor. -/
import Derived.Test.YthojnihahmlboaaGreatWldC
namespace Go.Proofs.YthojnihahmlboaaGreat
open Go.RowKit
set_option linter.unusedVariables false
set_option maxRecDepth 10000

/-! ### The first of the least -/
def leastN (p : Nat → Bool) (v : Nat → Int) : Nat → Int
  | 0 => -1
  | k + 1 => if (p k && (decide (leastN p v k < 0) || decide (v k < v (leastN p v k).toNat))) = true then (k : Int) else leastN p v k
theorem leastN_spec (p : Nat → Bool) (v : Nat → Int) : ∀ k : Nat, (leastN p v k = -1 ∧ ∀ j, j < k → p j = false) ∨
    (0 ≤ leastN p v k ∧ leastN p v k < (k : Int) ∧ p (leastN p v k).toNat = true ∧ (∀ j, j < k → p j = true → v (leastN p v k).toNat ≤ v j) ∧ ∀ j : Nat, (j : Int) < leastN p v k → p j = true → v (leastN p v k).toNat < v j)
  | 0 => .inl ⟨rfl, fun j hj => absurd hj (Nat.not_lt_zero j)⟩
  | k + 1 => by
    simp only [leastN]
    split
    · rename_i h
      simp only [Bool.and_eq_true, Bool.or_eq_true, decide_eq_true_eq] at h
      refine .inr ⟨by omega, by omega, by simpa using h.1, fun j hj hp => ?_, fun j hj hp => ?_⟩
      · rw [Int.toNat_natCast]
        by_cases hjk : j = k
        · subst hjk; exact Int.le_refl _
        · rcases leastN_spec p v k with ⟨_, h2⟩ | ⟨h1, _, _, h4, _⟩
          · rw [h2 j (by omega)] at hp; cases hp
          · have := h4 j (by omega) hp
            rcases h.2 with h5 | h5 <;> omega
      · rw [Int.toNat_natCast]
        rcases leastN_spec p v k with ⟨_, h2⟩ | ⟨h1, _, _, h4, _⟩
        · rw [h2 j (by omega)] at hp; cases hp
        · have := h4 j (by omega) hp
          rcases h.2 with h5 | h5 <;> omega
    · rename_i h
      rcases leastN_spec p v k with ⟨h1, h2⟩ | ⟨h1, h2, h3, h4, h5⟩
      · refine .inl ⟨h1, fun j hj => ?_⟩
        by_cases hjk : j = k
        · subst hjk
          cases hp : p j with
          | false => rfl
          | true =>
            exfalso; apply h
            rw [hp, h1]; rfl
        · exact h2 j (by omega)
      · refine .inr ⟨h1, by omega, h3, fun j hj hp => ?_, h5⟩
        by_cases hjk : j = k
        · subst hjk
          rcases Int.lt_or_le (v j) (v (leastN p v j).toNat) with h6 | h6
          · exfalso; apply h
            rw [hp, decide_eq_true h6]; simp
          · exact h6
        · exact h4 j (by omega) hp
/-- It is the only one. -/
theorem leastN_one {p : Nat → Bool} {v : Nat → Int} {n k : Nat} (hk : k < n) (hp : p k = true) (h0 : 0 ≤ leastN p v n) (hv : v k = v (leastN p v n).toNat) (hb : ∀ j, j < k → p j = true → v j ≠ v (leastN p v n).toNat) : leastN p v n = (k : Int) := by
  rcases leastN_spec p v n with ⟨h1, _⟩ | ⟨_, h2, h3, h4, h5⟩
  · omega
  · by_cases hlt : (k : Int) < leastN p v n
    · have := h5 k hlt hp; omega
    · by_cases hgt : leastN p v n < (k : Int)
      · exact absurd rfl (hb _ (by omega) h3)
      · omega
theorem leastN_skip {p : Nat → Bool} {v : Nat → Int} {k : Nat} (h : p k = false) : leastN p v (k + 1) = leastN p v k := by
  simp only [leastN]
  rw [if_neg (by rw [h]; simp)]
/-- The same over a list. -/
def minL (v : Nat → Int) (l : List Nat) : Int := l.foldl (fun (m : Int) x => if (decide (m < 0) || decide (v x < v m.toNat)) = true then (x : Int) else m) (-1)
theorem minL_app (v : Nat → Int) (l : List Nat) (x : Nat) : minL v (l ++ [x]) = if (decide (minL v l < 0) || decide (v x < v (minL v l).toNat)) = true then (x : Int) else minL v l := by
  unfold minL
  rw [List.foldl_append]; rfl
theorem minL_filter (p : Nat → Bool) (v : Nat → Int) : ∀ n : Nat, minL v ((List.range n).filter p) = leastN p v n
  | 0 => rfl
  | n + 1 => by
    rw [List.range_succ, List.filter_append]
    simp only [leastN]
    cases hp : p n with
    | false => simp [hp, minL_filter p v n]
    | true =>
      have : [n].filter p = [n] := by simp [hp]
      rw [this, minL_app, minL_filter p v n, Bool.true_and]
theorem minL_nn (v : Nat → Int) : ∀ l : List Nat, l ≠ [] → 0 ≤ minL v l := by
  have key : ∀ (l : List Nat) (m : Int), 0 ≤ m → 0 ≤ l.foldl (fun (m : Int) x => if (decide (m < 0) || decide (v x < v m.toNat)) = true then (x : Int) else m) m := fun l => by
    induction l with
    | nil => exact fun m h => h
    | cons x l ih =>
      intro m h
      rw [List.foldl_cons]
      refine ih _ ?_
      split <;> omega
  intro l hl
  cases l with
  | nil => exact absurd rfl hl
  | cons x l =>
    unfold minL
    rw [List.foldl_cons]
    refine key l _ ?_
    rw [if_pos (by simp)]; omega

/-! ### Entries of a group's queue: places 0 to 11 are tasks, 12 to 19 groups -/
def memP (W : Wld) (g c : Int) (i : Nat) : Bool := if i < 12 then actT W g c i else actG W g c (i - 12)
def memV (W : Wld) (c : Int) (i : Nat) : Int := if i < 12 then (tkk W (i : Int)).v else (shf W ((i - 12 : Nat) : Int) c).v
def firstD (W : Wld) (g c : Int) : Int := leastN (memP W g c) (memV W c) 20
def nextD : Nat → Wld → Int → Int → Int
  | 0, _, _, _ => -1
  | f + 1, W, g, c => if firstD W g c < 0 then -1 else if firstD W g c < 12 then firstD W g c else nextD f W (firstD W g c - 12) c
def nextW (W : Wld) (g c : Int) : Int := nextD (4 - dep 3 W.groups g).toNat W g c
def pickW (W : Wld) (c : Int) : Int := if (gi W.cpus c).cur ≥ 0 ∧ (gi W.cpus c).ran < 50 then (gi W.cpus c).cur else nextW W 0 c
noncomputable def pickD (W : Wld) (c : Int) : Int := if worldB W = true ∧ cpuIn W c = true ∧ (gi W.cpus c).up = true then pickW W c else -1
theorem memP_t {W : Wld} {g c : Int} {i : Nat} (h : i < 12) : memP W g c i = actT W g c i := if_pos h
theorem memP_g {W : Wld} {g c : Int} {i : Nat} : memP W g c (12 + i) = actG W g c i := by
  unfold memP
  rw [if_neg (by omega), show 12 + i - 12 = i by omega]
theorem memV_t {W : Wld} {c : Int} {i : Nat} (h : i < 12) : memV W c i = (tkk W (i : Int)).v := if_pos h
theorem memV_g {W : Wld} {c : Int} {i : Nat} : memV W c (12 + i) = (shf W (i : Int) c).v := by
  unfold memV
  rw [if_neg (by omega), show 12 + i - 12 = i by omega]
theorem memP_12 (W : Wld) (g c : Int) : memP W g c 12 = false := by
  rw [show (12 : Nat) = 12 + 0 from rfl, memP_g]; rfl
/-- A group that is first is in the group, one step down. -/
theorem first_kid {W : Wld} {g c : Int} (ha : WA W) (hu : usedD W.groups g = true) (h : 12 ≤ firstD W g c) : usedD W.groups (firstD W g c - 12) = true ∧ firstD W g c - 12 ≠ 0 ∧ dep 3 W.groups (firstD W g c - 12) = dep 3 W.groups g + 1 ∧ firstD W g c < 20 := by
  unfold firstD at *
  rcases leastN_spec (memP W g c) (memV W c) 20 with ⟨h1, _⟩ | ⟨h1, h2, h3, _, _⟩
  · omega
  · have e : (leastN (memP W g c) (memV W c) 20).toNat = 12 + ((leastN (memP W g c) (memV W c) 20).toNat - 12) := by omega
    rw [e, memP_g] at h3
    unfold actG at h3
    simp only [Bool.and_eq_true, decide_eq_true_eq, beq_iff_eq] at h3
    obtain ⟨⟨k1, k2, k3⟩, _⟩ := h3
    have ek : (((leastN (memP W g c) (memV W c) 20).toNat - 12 : Nat) : Int) = leastN (memP W g c) (memV W c) 20 - 12 := by omega
    rw [ek] at k2 k3
    have hgl := ha.gl
    have hk : usedD W.groups (leastN (memP W g c) (memV W c) 20 - 12) = true := usedD_iff.2 ⟨by omega, by omega, k2⟩
    have hz : leastN (memP W g c) (memV W c) 20 - 12 ≠ 0 := by omega
    obtain ⟨_, _, _, d, e1, e2, _⟩ := climb ha.tree hk hz
    rw [k3] at e2
    exact ⟨hk, hz, by omega, by omega⟩
theorem dep_le {W : Wld} (ha : WA W) {g : Int} (hu : usedD W.groups g = true) : 0 ≤ dep 3 W.groups g ∧ dep 3 W.groups g ≤ 3 := by
  have hr := dep_range W.groups 3 g
  by_cases hz : g = 0
  · subst hz; rw [dep_root]; omega
  · obtain ⟨_, _, _, d, e1, _⟩ := climb ha.tree hu hz
    omega
theorem next_step {W : Wld} (ha : WA W) {g c : Int} (hu : usedD W.groups g = true) : nextW W g c = if firstD W g c < 0 then -1 else if firstD W g c < 12 then firstD W g c else nextW W (firstD W g c - 12) c := by
  have hd := dep_le ha hu
  have e : (4 - dep 3 W.groups g).toNat = (3 - dep 3 W.groups g).toNat + 1 := by omega
  show nextD (4 - dep 3 W.groups g).toNat W g c = _
  rw [e]
  simp only [nextD]
  split
  · rfl
  · split
    · rfl
    · obtain ⟨_, _, hk, _⟩ := first_kid ha hu (c := c) (by omega)
      unfold nextW
      rw [hk, show (4 - (dep 3 W.groups g + 1)) = 3 - dep 3 W.groups g by omega]
section
variable {W : Wld} {m : MW} {w : World} {bs : List Nat} {p : Option Addr}
/-- The least time, and whether there is one. -/
def bestV (W : Wld) (g c : Int) (k : Nat) : Int := if leastN (memP W g c) (memV W c) k < 0 then 0 else memV W c (leastN (memP W g c) (memV W c) k).toNat
def bestB (W : Wld) (g c : Int) (k : Nat) : Bool := decide (0 ≤ leastN (memP W g c) (memV W c) k)
theorem best_cond {W : Wld} {g c : Int} {k : Nat} : (decide (leastN (memP W g c) (memV W c) k < 0) || decide (memV W c k < memV W c (leastN (memP W g c) (memV W c) k).toNat)) = (!bestB W g c k || decide (memV W c k < bestV W g c k)) := by
  unfold bestB bestV
  by_cases h : leastN (memP W g c) (memV W c) k < 0
  · have h2 : decide (0 ≤ leastN (memP W g c) (memV W c) k) = false := decide_eq_false (by omega)
    rw [if_pos h, decide_eq_true h, h2]; rfl
  · have h2 : decide (0 ≤ leastN (memP W g c) (memV W c) k) = true := decide_eq_true (by omega)
    rw [if_neg h, decide_eq_false h, h2]; rfl
theorem best_yes {W : Wld} {g c : Int} {k : Nat} (h : (memP W g c k && (!bestB W g c k || decide (memV W c k < bestV W g c k))) = true) : bestV W g c (k + 1) = memV W c k ∧ bestB W g c (k + 1) = true := by
  rw [← best_cond] at h
  have e : leastN (memP W g c) (memV W c) (k + 1) = (k : Int) := by
    simp only [leastN]; rw [if_pos h]
  unfold bestV bestB
  rw [e, if_neg (by omega), Int.toNat_natCast]
  exact ⟨rfl, decide_eq_true (by omega)⟩
theorem best_no {W : Wld} {g c : Int} {k : Nat} (h : (memP W g c k && (!bestB W g c k || decide (memV W c k < bestV W g c k))) = false) : bestV W g c (k + 1) = bestV W g c k ∧ bestB W g c (k + 1) = bestB W g c k := by
  rw [← best_cond] at h
  have e : leastN (memP W g c) (memV W c) (k + 1) = leastN (memP W g c) (memV W c) k := by
    simp only [leastN]; rw [if_neg (by rw [h]; decide)]
  unfold bestV bestB
  rw [e]
  exact ⟨rfl, rfl⟩
theorem k_spec_l8Least {g c : Int} (h : RdW bs w W m) (ha : WA W) (c0 : 0 ≤ c) (c1 : c < (W.cpus.length : Int)) : PureX bs Tryz.prog fn_spec_l8Least #[.agg (encW W m).toArray, .int .i64 g, .int .i64 c] w (.tuple #[.int .i64 (bestV W g c 20), .bool (bestB W g c 20)]) :=
  p_spec_l8Least W.now m.cO W.cpus.length m.cC m.tO W.tasks.length m.tC m.gO W.groups.length m.gC g c fun wr hx => by
    have h := (h.ext hx).less (cs := []) (by simp)
    have hgl := ha.gl
    have htl := ha.t
    intro _ _
    refine ⟨fun vs => ∃ k : Nat, k ≤ 12 ∧ vs = [.int .i64 (bestV W g c k), .bool (bestB W g c k), .int .i64 (k : Int)], cntM 12 2, ⟨0, by omega, rfl⟩, ?_⟩
    rintro best some t ⟨k, hk, he⟩
    simp only [List.cons.injEq, Value.int.injEq, Value.bool.injEq, true_and, and_true] at he
    obtain ⟨rfl, rfl, rfl⟩ := he
    refine ⟨fun hlt => ?_, fun hge => ?_⟩
    · have hlt := of_decide_eq_true hlt
      have hk12 : k < 12 := by omega
      refine ⟨h.t.ix encT_c (by omega) hlt, _, _, _, _, _, _, _, _, _, h.t k (by omega) hlt, fun _ _ => ⟨fun q => ⟨⟨by omega, by omega⟩, ⟨k + 1, by omega, ?_⟩, cntM_ltW (k := k) rfl rfl hk12⟩, fun q => ⟨⟨by omega, by omega⟩, ⟨k + 1, by omega, ?_⟩, cntM_ltW (k := k) rfl rfl hk12⟩⟩⟩
      · have q' : (memP W g c k && (!bestB W g c k || decide (memV W c k < bestV W g c k))) = true := by rw [memP_t hk12, memV_t hk12]; exact q
        obtain ⟨e1, e2⟩ := best_yes q'
        rw [e1, e2, memV_t hk12]; simp [tkk]
      · have q' : (memP W g c k && (!bestB W g c k || decide (memV W c k < bestV W g c k))) = false := by rw [memP_t hk12, memV_t hk12]; exact q
        obtain ⟨e1, e2⟩ := best_no q'
        rw [e1, e2]; simp
    · have hge := of_decide_eq_false hge
      have : k = 12 := by omega
      subst this
      have e12 : bestV W g c 13 = bestV W g c 12 ∧ bestB W g c 13 = bestB W g c 12 := best_no (by rw [memP_12]; rfl)
      refine ⟨fun vs => ∃ k : Nat, 1 ≤ k ∧ k ≤ 8 ∧ vs = [.int .i64 (bestV W g c (12 + k)), .bool (bestB W g c (12 + k)), .int .i64 (k : Int)], cntM 8 2, ⟨1, by omega, by omega, by rw [show 12 + 1 = 13 from rfl, e12.1, e12.2]; rfl⟩, ?_⟩
      rintro best1 some1 t1 ⟨k, hk1, hk, he⟩
      simp only [List.cons.injEq, Value.int.injEq, Value.bool.injEq, true_and, and_true] at he
      obtain ⟨rfl, rfl, rfl⟩ := he
      refine ⟨fun hlt => ?_, fun hge => ?_⟩
      · have hlt := of_decide_eq_true hlt
        have hk0 : (0 : Int) ≤ (k : Int) := by omega
        have used : ∀ {x : Bool}, (((gi W.groups (k : Int)).used && ((gi W.groups (k : Int)).parent == g)) && x) = true → usedD W.groups (k : Int) = true ∧ c < ((gi W.groups (k : Int)).shelves.length : Int) := fun {x} q => by
          simp only [Bool.and_eq_true] at q
          have hu := used_of hlt q.1.1
          exact ⟨hu, by rw [ha.sl hu]; exact c1⟩
        have eA : actG W g c k = (((gi W.groups (k : Int)).used && ((gi W.groups (k : Int)).parent == g)) && (shf W (k : Int) c).on) := by
          unfold actG; rw [decide_eq_true hk1, Bool.true_and]
        have eP : memP W g c (12 + k) = (((gi W.groups (k : Int)).used && ((gi W.groups (k : Int)).parent == g)) && (shf W (k : Int) c).on) := by rw [memP_g, eA]
        refine ⟨h.g.ix hk0 hlt, _, h.g.used hk0 hlt, fun _ => h.g.ix hk0 hlt, _, fun _ => h.g.parent hk0 hlt, (shf W (k : Int) c).on, fun q => k_spec_l8Queued h ha (used (x := true) (by rw [q]; rfl)).1 c0 c1, fun _ _ => h.g.ix hk0 hlt, _, _, _, fun _ _ => h.g.shelf hk0 hlt, fun _ q => (h.g.shelves _ hk0 hlt).ix encS_c c0 (used q).2, (shf W (k : Int) c).v, fun _ q => RdS.f (h.g.shelves _ hk0 hlt) c0 (used q).2 (j := 2) rfl, fun q => ?_, fun q => ⟨⟨by omega, by omega⟩, ⟨k + 1, by omega, by omega, ?_⟩, cntM_ltW (k := k) rfl rfl (by omega)⟩⟩
        · have q2 := q
          simp only [Bool.and_eq_true] at q2
          have hu := used (x := (shf W (k : Int) c).on) (by simp only [Bool.and_eq_true]; exact q2.1)
          have q' : (memP W g c (12 + k) && (!bestB W g c (12 + k) || decide (memV W c (12 + k) < bestV W g c (12 + k)))) = true := by rw [eP, memV_g]; exact q
          obtain ⟨e1, e2⟩ := best_yes q'
          refine ⟨h.g.ix hk0 hlt, _, _, _, h.g.shelf hk0 hlt, (h.g.shelves _ hk0 hlt).ix encS_c c0 hu.2, _, RdS.f (h.g.shelves _ hk0 hlt) c0 hu.2 (j := 2) rfl, ⟨by omega, by omega⟩, ⟨k + 1, by omega, by omega, ?_⟩, cntM_ltW (k := k) rfl rfl (by omega)⟩
          rw [show 12 + (k + 1) = 12 + k + 1 from rfl, e1, e2, memV_g]; simp [shf]
        · have q' : (memP W g c (12 + k) && (!bestB W g c (12 + k) || decide (memV W c (12 + k) < bestV W g c (12 + k)))) = false := by rw [eP, memV_g]; exact q
          obtain ⟨e1, e2⟩ := best_no q'
          rw [show 12 + (k + 1) = 12 + k + 1 from rfl, e1, e2]; simp
      · have hge := of_decide_eq_false hge
        have : k = 8 := by omega
        subst this
        rfl
theorem k_spec_l9Next {g c : Int} (h : RdW bs w W m) (ha : WA W) (hu : usedD W.groups g = true) (c0 : 0 ≤ c) (c1 : c < (W.cpus.length : Int)) : PureX bs Tryz.prog fn_spec_l9Next #[.agg (encW W m).toArray, .int .i64 g, .int .i64 c] w (.int .i64 (nextW W g c)) := by
  have hgl := ha.gl
  have htl := ha.t
  have key : ∀ (n : Nat) (g : Int), usedD W.groups g = true → (3 - dep 3 W.groups g).toNat = n → ∀ {bs : List Nat} {w : World}, RdW bs w W m → PureX bs Tryz.prog fn_spec_l9Next #[.agg (encW W m).toArray, .int .i64 g, .int .i64 c] w (.int .i64 (nextW W g c)) := by
    intro n
    induction n using Nat.strongRecOn with
    | ind n ih =>
      intro g hu hn bs w h
      refine p_spec_l9Next W.now m.cO W.cpus.length m.cC m.tO W.tasks.length m.tC m.gO W.groups.length m.gC g c fun wr hx => ?_
      have h := (h.ext hx).less (cs := []) (by simp)
      have hstep := next_step ha hu (c := c)
      have hd := dep_le ha hu
      intro _ _
      refine ⟨_, _, k_spec_l8Least h ha c0 c1, fun q => ?_, fun q => ?_⟩
      · have q : ¬ 0 ≤ leastN (memP W g c) (memV W c) 20 := by
          unfold bestB at q
          simpa using q
        have q : ¬ 0 ≤ firstD W g c := q
        rw [hstep, if_pos (by omega)]
      have hF0 : 0 ≤ leastN (memP W g c) (memV W c) 20 := by
        unfold bestB at q
        simpa using q
      have hF : 0 ≤ firstD W g c := hF0
      have hbest : bestV W g c 20 = memV W c (firstD W g c).toNat := by
        show (if firstD W g c < 0 then 0 else memV W c (firstD W g c).toNat) = _
        rw [if_neg (show ¬ firstD W g c < 0 by omega)]
      -- who is found is the first
      have found : ∀ k : Nat, k < 20 → memP W g c k = true → memV W c k = bestV W g c 20 → (∀ j, j < k → memP W g c j = true → memV W c j ≠ bestV W g c 20) → firstD W g c = (k : Int) := fun k hk hp hv hb => by
        rw [hbest] at hv hb
        exact leastN_one hk hp hF hv hb
      refine ⟨fun vs => ∃ k : Nat, vs = [.int .i64 (k : Int)] ∧ k ≤ 12 ∧ ∀ j, j < k → memP W g c j = true → memV W c j ≠ bestV W g c 20, cntM 12 0, ⟨0, rfl, by omega, fun j hj => absurd hj (Nat.not_lt_zero j)⟩, ?_⟩
      rintro t ⟨k, he, hk, hI⟩
      simp only [List.cons.injEq, Value.int.injEq, true_and, and_true] at he
      subst he
      refine ⟨fun hlt => ?_, fun hge => ?_⟩
      · have hlt := of_decide_eq_true hlt
        have hk12 : k < 12 := by omega
        refine ⟨h.t.ix encT_c (by omega) hlt, _, _, _, _, _, _, _, _, _, h.t k (by omega) hlt, fun b1 hb1 => ⟨fun q2 => ?_, fun q2 => ⟨⟨by omega, by omega⟩, ⟨k + 1, by simp, by omega, fun j hj hp hv => ?_⟩, cntM_ltW (k := k) rfl rfl hk12⟩⟩⟩
        · have q2' : (actT W g c k && ((tkk W (k : Int)).v == bestV W g c 20)) = true := q2
          simp only [Bool.and_eq_true, beq_iff_eq] at q2'
          have := found k (by omega) (by rw [memP_t hk12]; exact q2'.1) (by rw [memV_t hk12]; exact q2'.2) hI
          rw [hstep, if_neg (by omega), if_pos (by omega), this]
        · by_cases hjk : j < k
          · exact hI j hjk hp hv
          · have : j = k := by omega
            subst this
            rw [memP_t hk12] at hp
            rw [memV_t hk12] at hv
            have q2' : (actT W g c j && ((tkk W (j : Int)).v == bestV W g c 20)) = false := q2
            rw [hp, hv] at q2'
            simp at q2'
      · have hge := of_decide_eq_false hge
        have : k = 12 := by omega
        subst this
        refine ⟨fun vs => ∃ k : Nat, vs = [.int .i64 (k : Int)] ∧ 1 ≤ k ∧ k ≤ 8 ∧ ∀ j, j < 12 + k → memP W g c j = true → memV W c j ≠ bestV W g c 20, cntM 8 0, ⟨1, rfl, by omega, by omega, fun j hj hp => by
          by_cases hj12 : j < 12
          · exact hI j hj12 hp
          · have : j = 12 := by omega
            subst this
            rw [memP_12] at hp; cases hp⟩, ?_⟩
        rintro t2 ⟨k, he, hk1, hk, hI2⟩
        simp only [List.cons.injEq, Value.int.injEq, true_and, and_true] at he
        subst he
        refine ⟨fun hlt => ?_, fun hge2 => ?_⟩
        · have hlt := of_decide_eq_true hlt
          have hk0 : (0 : Int) ≤ (k : Int) := by omega
          have used : ∀ {x : Bool}, (((gi W.groups (k : Int)).used && ((gi W.groups (k : Int)).parent == g)) && x) = true → usedD W.groups (k : Int) = true ∧ c < ((gi W.groups (k : Int)).shelves.length : Int) := fun {x} q => by
            simp only [Bool.and_eq_true] at q
            have hu := used_of hlt q.1.1
            exact ⟨hu, by rw [ha.sl hu]; exact c1⟩
          have eA : actG W g c k = (((gi W.groups (k : Int)).used && ((gi W.groups (k : Int)).parent == g)) && (shf W (k : Int) c).on) := by
            unfold actG; rw [decide_eq_true hk1, Bool.true_and]
          have eP : memP W g c (12 + k) = (((gi W.groups (k : Int)).used && ((gi W.groups (k : Int)).parent == g)) && (shf W (k : Int) c).on) := by rw [memP_g, eA]
          refine ⟨h.g.ix hk0 hlt, _, h.g.used hk0 hlt, fun _ => h.g.ix hk0 hlt, _, fun _ => h.g.parent hk0 hlt, (shf W (k : Int) c).on, fun q => k_spec_l8Queued h ha (used (x := true) (by rw [q]; rfl)).1 c0 c1, fun _ => h.g.ix hk0 hlt, _, _, _, fun _ => h.g.shelf hk0 hlt, fun q => (h.g.shelves _ hk0 hlt).ix encS_c c0 (used q).2, (shf W (k : Int) c).v, fun q => RdS.f (h.g.shelves _ hk0 hlt) c0 (used q).2 (j := 2) rfl, fun q => ?_, fun q => ⟨⟨by omega, by omega⟩, ⟨k + 1, by simp, by omega, by omega, fun j hj hp hv => ?_⟩, cntM_ltW (k := k) rfl rfl (by omega)⟩⟩
          · have q2 := q
            simp only [Bool.and_eq_true, beq_iff_eq] at q2
            have hfk := found (12 + k) (by omega) (by rw [eP]; simp only [Bool.and_eq_true, beq_iff_eq]; exact q2.1) (by rw [memV_g]; exact q2.2) hI2
            have hkid := first_kid ha hu (c := c) (by omega)
            have ek : firstD W g c - 12 = (k : Int) := by omega
            rw [ek] at hkid
            have hdk := dep_le ha hkid.1
            refine ⟨_, ih _ (show (3 - dep 3 W.groups (k : Int)).toNat < n by omega) (k : Int) hkid.1 rfl h, ?_⟩
            rw [hstep, if_neg (by omega), if_neg (by omega), ek]
          · by_cases hjk : j < 12 + k
            · exact hI2 j hjk hp hv
            · have : j = 12 + k := by omega
              subst this
              rw [eP] at hp
              rw [memV_g] at hv
              rw [hp, hv] at q
              simp at q
        · have hge2 := of_decide_eq_false hge2
          have : k = 8 := by omega
          subst this
          rcases leastN_spec (memP W g c) (memV W c) 20 with ⟨h1, _⟩ | ⟨h1, h2, h3, _, _⟩
          · have : firstD W g c = -1 := h1
            omega
          · exact absurd hbest.symm (hI2 (firstD W g c).toNat (by unfold firstD; omega) h3)
  exact key _ g hu rfl h
theorem k_spec_l9Pick {c : Int} (h : RdW bs w W m) (wp : WldP W) (c0 : 0 ≤ c) (c1 : c < (W.cpus.length : Int)) : PureX bs Tryz.prog fn_spec_l9Pick #[.agg (encW W m).toArray, .int .i64 c] w (.int .i64 (pickW W c)) := by
  refine p_spec_l9Pick W.now m.cO W.cpus.length m.cC m.tO W.tasks.length m.tC m.gO W.groups.length m.gC c fun wr hx => ?_
  have h := (h.ext hx).less (cs := []) (by simp)
  intro _ _
  refine ⟨h.c.ix encC_c c0 c1, _, h.c.f c0 c1 (j := 1) rfl, fun _ => h.c.ix encC_c c0 c1, _, fun _ => h.c.f c0 c1 (j := 2) rfl, fun g => ⟨h.c.ix encC_c c0 c1, _, h.c.f c0 c1 (j := 1) rfl, ?_⟩, fun g => ⟨_, k_spec_l9Next h wp.a wp.a.root c0 c1, ?_⟩⟩
  · simp only [Bool.and_eq_true, decide_eq_true_eq] at g
    unfold pickW; rw [if_pos g]
  · unfold pickW; rw [if_neg (fun hc => by
      rw [decide_eq_true hc.1, decide_eq_true hc.2] at g; cases g)]
theorem k_spec_l9Up {c : Int} (h : RdW bs w W m) (hl : W.cpus.length ≤ maxLen) : PureX bs Tryz.prog fn_spec_l9Up #[.agg (encW W m).toArray, .int .i64 c] w (.bool (cpuIn W c && (gi W.cpus c).up)) :=
  p_spec_l9Up W.now m.cO W.cpus.length m.cC m.tO W.tasks.length m.tC m.gO W.groups.length m.gC c fun wr hx => by
    have h := (h.ext hx).less (cs := []) (by simp)
    have hm := maxLen_le
    intro _ _
    exact ⟨⟨by omega, by omega⟩, cpuIn W c, k_spec_l1In, fun q => h.c.ix encC_c (cpuIn_t q).1 (cpuIn_t q).2, _, fun q => h.c.f (cpuIn_t q).1 (cpuIn_t q).2 (j := 0) rfl, rfl⟩
theorem k_spec_WorldPick {c : Int} (h : RdW bs w W m) (hl : LenW W) : PureX bs Tryz.prog fn_spec_WorldPick #[.agg (encW W m).toArray, .int .i64 c] w (.int .i64 (pickD W c)) := by
  refine p_spec_WorldPick W.now m.cO W.cpus.length m.cC m.tO W.tasks.length m.tC m.gO W.groups.length m.gC c fun wr hx => ?_
  have h := (h.ext hx).less (cs := []) (by simp)
  intro _ _
  refine ⟨_, k_spec_WorldOk h hl.c hl.t hl.g hl.f, _, fun _ => k_spec_l9Up h hl.c, fun g => ?_, fun g => ?_⟩
  · unfold pickD
    rw [if_neg]
    rintro ⟨h1, h2, h3⟩
    rw [h1, h2, h3] at g; cases g
  · simp only [Bool.or_eq_false_iff, Bool.not_eq_false', Bool.and_eq_true] at g
    have e : pickD W c = pickW W c := by unfold pickD; rw [if_pos ⟨g.1, g.2.1, g.2.2⟩]
    rw [e]
    obtain ⟨c0, c1⟩ := cpuIn_t g.2.1
    exact ⟨_, k_spec_l9Pick h (decB_t.1 g.1) c0 c1, rfl⟩
end
end Go.Proofs.YthojnihahmlboaaGreat
