/- The tree of groups: what it is, in plain Lean; the reference's functions. -/
import Derived.Test.YthojnihahmlboaaGreatGrp
import Derived.Test.YthojnihahmlboaaGreatKa
namespace Go.Proofs.YthojnihahmlboaaGreat
open Go.RowKit
set_option linter.unusedVariables false
set_option linter.unusedSimpArgs false
set_option maxRecDepth 10000

/-! ### Names -/
def fileN (s : ByteArray) : Bool := (((((strEq s (⟨[119, 101, 105, 103, 104, 116].toArray⟩)) || (strEq s (⟨[109, 97, 120].toArray⟩))) || (strEq s (⟨[99, 112, 117, 115].toArray⟩))) || (strEq s (⟨[112, 114, 111, 99, 115].toArray⟩))) || (strEq s (⟨[115, 116, 97, 116].toArray⟩)))
def okc (x : Int) : Bool := (((decide (x ≥ 97)) && (decide (x ≤ 122))) || ((decide (x ≥ 48)) && (decide (x ≤ 57))))
def nameOk (s : ByteArray) : Bool := inB (s.size : Int) 1 8 && !fileN s && (List.range s.size).all fun i => okc (strAt s (i : Int))
theorem nameOk_iff {s : ByteArray} : nameOk s = true ↔ (1 ≤ s.size ∧ s.size ≤ 8) ∧ fileN s = false ∧ ∀ i : Nat, i < s.size → okc (strAt s (i : Int)) = true := by
  unfold nameOk
  simp only [Bool.and_eq_true, inB_t, Bool.not_eq_true', List.all_eq_true, List.mem_range]
  constructor
  · rintro ⟨⟨h1, h2⟩, h3⟩; exact ⟨⟨by omega, by omega⟩, h2, h3⟩
  · rintro ⟨⟨h0, h1⟩, h2, h3⟩; exact ⟨⟨⟨by omega, by omega⟩, h2⟩, h3⟩
theorem nameOk_no {s : ByteArray} (h : ¬ ((1 ≤ s.size ∧ s.size ≤ 8) ∧ fileN s = false ∧ ∀ i : Nat, i < s.size → okc (strAt s (i : Int)) = true)) : nameOk s = false := by
  cases hn : nameOk s with
  | false => rfl
  | true => exact absurd (nameOk_iff.1 hn) h
theorem k_spec_l6File {s : ByteArray} {w : World} {bs : List Nat} : PureX bs Tryz.prog fn_spec_l6File #[.string s] w (.bool (fileN s)) :=
  p_spec_l6File s fun wr hx => rfl
theorem k_spec_NameOk {s : ByteArray} {w : World} {bs : List Nat} : PureX bs Tryz.prog fn_spec_NameOk #[.string s] w (.bool (nameOk s)) :=
  p_spec_NameOk s fun wr hx => by
    refine ⟨_, k_spec_l1In, fileN s, fun _ => k_spec_l6File, fun h => ?_, fun h => ?_⟩
    · rw [nameOk_no]
      rintro ⟨h1, h2, _⟩
      rw [h2, inB_t.2 (by omega)] at h
      cases h
    · have h : inB (s.size : Int) 1 8 = true ∧ fileN s = false := by simpa using h
      have h1 := inB_t.1 h.1
      refine loop1 s.size 0 rfl (fun k => k ≤ s.size ∧ ∀ j : Nat, j < k → okc (strAt s (j : Int)) = true) ⟨Nat.zero_le _, fun j hj => absurd hj (Nat.not_lt_zero j)⟩ fun k ⟨hk, hI⟩ => ⟨fun hlt => ?_, fun hge => ?_⟩
      · have hlt := of_decide_eq_true hlt
        have hr : 0 ≤ (k : Int) ∧ (k : Int) < (s.size : Int) := ⟨by omega, hlt⟩
        refine ⟨hr, fun _ => hr, fun _ => hr, fun _ _ => hr, fun hno => ?_, fun hyes => ⟨⟨by omega, by omega⟩, loop1_next (by omega) ⟨by omega, fun j hj => ?_⟩⟩⟩
        · rw [nameOk_no]
          rintro ⟨_, _, h3⟩
          have := h3 k (by omega)
          unfold okc at this
          rw [this] at hno
          cases hno
        · by_cases hjk : j < k
          · exact hI j hjk
          · have : j = k := by omega
            subst this
            unfold okc
            rw [Bool.not_eq_false'] at hyes
            exact hyes
      · have hge := of_decide_eq_false hge
        have hk : k = s.size := by omega
        subst hk
        rw [nameOk_iff.2 ⟨⟨by omega, by omega⟩, h.2, hI⟩]

/-! ### The tree -/
def usedD (gs : List Grp) (g : Int) : Bool := (decide (g ≥ 0) && decide (g < (gs.length : Int))) && (gi gs g).used
theorem usedD_iff {gs : List Grp} {g : Int} : usedD gs g = true ↔ 0 ≤ g ∧ g < (gs.length : Int) ∧ (gi gs g).used = true := by
  unfold usedD
  simp [and_assoc]
/-- The steps to the root, if it takes no more than so many; else -1. -/
def dep : Nat → List Grp → Int → Int
  | 0, _, g => if g = 0 then 0 else -1
  | f + 1, gs, g => if g = 0 then 0 else if dep f gs (gi gs g).parent < 0 then -1 else dep f gs (gi gs g).parent + 1
def l6dep : Nat → List Grp → Int → Int → Int
  | 0, _, _, _ => -1
  | f + 1, gs, g, n => if usedD gs g = false then -1 else if g = 0 then n else l6dep f gs (gi gs g).parent (n + 1)
theorem dep_range (gs : List Grp) : ∀ (f : Nat) (g : Int), -1 ≤ dep f gs g ∧ dep f gs g ≤ f
  | 0, g => by simp only [dep]; split <;> omega
  | f + 1, g => by
    have := dep_range gs f (gi gs g).parent
    simp only [dep]
    split
    · omega
    · split <;> omega
theorem dep_more (gs : List Grp) : ∀ (f f' : Nat) (g : Int), 0 ≤ dep f gs g → dep f gs g ≤ f' → dep f' gs g = dep f gs g
  | 0, f', g, h, _ => by
    simp only [dep] at h ⊢
    split at h
    · rename_i hg
      cases f' <;> simp [dep, hg]
    · omega
  | f + 1, f', g, h, hle => by
    simp only [dep] at h hle ⊢
    by_cases hg : g = 0
    · rw [if_pos hg]
      cases f' <;> simp [dep, hg]
    · rw [if_neg hg] at h hle ⊢
      by_cases hd : dep f gs (gi gs g).parent < 0
      · rw [if_pos hd] at h; omega
      · rw [if_neg hd] at hle ⊢
        cases f' with
        | zero => omega
        | succ f' =>
          have := dep_more gs f f' (gi gs g).parent (by omega) (by omega)
          simp only [dep]
          rw [if_neg hg, this, if_neg hd]
theorem dep_root (gs : List Grp) (f : Nat) : dep f gs 0 = 0 := by cases f <;> simp [dep]
theorem dep_zero {gs : List Grp} {f : Nat} {g : Int} (h : dep f gs g = 0) : g = 0 := by
  cases f with
  | zero => simp only [dep] at h; split at h <;> first | assumption | omega
  | succ f =>
    simp only [dep] at h
    split at h
    · assumption
    · split at h <;> omega
/-- What makes groups a tree. -/
structure TreeP (gs : List Grp) : Prop where
  len : gs.length = 8
  ru : (gi gs 0).used = true
  rp : (gi gs 0).parent = -1
  rn : (gi gs 0).name = ⟨[].toArray⟩
  nm : ∀ g : Int, 1 ≤ g → g < 8 → (gi gs g).used = true → nameOk (gi gs g).name = true
  par : ∀ g : Int, 1 ≤ g → g < 8 → (gi gs g).used = true → usedD gs (gi gs g).parent = true
  dp : ∀ g : Int, 1 ≤ g → g < 8 → (gi gs g).used = true → 0 ≤ dep 3 gs g
  uniq : ∀ g h : Int, 1 ≤ h → h < g → g < 8 → (gi gs g).used = true → (gi gs h).used = true → ¬ ((gi gs h).parent = (gi gs g).parent ∧ (gi gs h).name = (gi gs g).name)
noncomputable def treeB (gs : List Grp) : Bool := @decide (TreeP gs) (Classical.propDecidable _)
theorem treeB_iff {gs : List Grp} : treeB gs = true ↔ TreeP gs := @decide_eq_true_iff _ (Classical.propDecidable _)
theorem treeB_no {gs : List Grp} (h : ¬ TreeP gs) : treeB gs = false := by
  cases hb : treeB gs with
  | false => rfl
  | true => exact absurd (treeB_iff.1 hb) h
theorem l6dep_eq {gs : List Grp} (hp : ∀ g : Int, g ≠ 0 → usedD gs g = true → usedD gs (gi gs g).parent = true) : ∀ (f : Nat) (g n : Int), usedD gs g = true → l6dep (f + 1) gs g n = if dep f gs g < 0 then -1 else n + dep f gs g
  | 0, g, n, hu => by
    simp only [l6dep, dep, hu]
    by_cases hg : g = 0 <;> simp [hg]
  | f + 1, g, n, hu => by
    rw [l6dep]
    simp only [hu]
    by_cases hg : g = 0
    · simp [hg, dep]
    · have ih := l6dep_eq hp f (gi gs g).parent (n + 1) (hp g hg hu)
      have hr := dep_range gs f (gi gs g).parent
      simp only [dep, if_neg hg]
      rw [ih]
      by_cases hd : dep f gs (gi gs g).parent < 0
      · simp [hd]
      · have h2 : ¬ (dep f gs (gi gs g).parent + 1 < 0) := by omega
        simp [hd, h2]; omega
/-- If it leads to the root through used places only, the parent is used. -/
theorem l6dep_par {gs : List Grp} {f : Nat} {g n : Int} (hg : g ≠ 0) (h : l6dep (f + 1) gs g n ≠ -1) : f ≠ 0 ∧ usedD gs (gi gs g).parent = true := by
  rw [l6dep] at h
  by_cases hu : usedD gs g = false
  · rw [if_pos hu] at h; exact absurd rfl h
  · rw [if_neg hu, if_neg hg] at h
    cases f with
    | zero => exact absurd rfl h
    | succ f =>
      rw [l6dep] at h
      by_cases hp : usedD gs (gi gs g).parent = false
      · rw [if_pos hp] at h; exact absurd rfl h
      · exact ⟨by omega, by simpa using hp⟩
/-- The same as the reference asks it, place by place. -/
structure TreeS (gs : List Grp) (k : Int) : Prop where
  each : ∀ g : Int, 1 ≤ g → g < k → (gi gs g).used = true → nameOk (gi gs g).name = true ∧ inB (l6dep 9 gs g 0) 1 3 = true ∧ ∀ h : Int, 1 ≤ h → h < g → (gi gs h).used = true → ¬ ((gi gs h).parent = (gi gs g).parent ∧ (gi gs h).name = (gi gs g).name)
theorem tree_of_S {gs : List Grp} (hl : gs.length = 8) (ru : (gi gs 0).used = true) (rp : (gi gs 0).parent = -1) (rn : (gi gs 0).name = ⟨[].toArray⟩) (h : TreeS gs 8) : TreeP gs := by
  have par : ∀ g : Int, 1 ≤ g → g < 8 → (gi gs g).used = true → usedD gs (gi gs g).parent = true := fun g h1 h2 hu => by
    have := inB_t.1 (h.each g h1 h2 hu).2.1
    exact (l6dep_par (f := 8) (n := 0) (by omega) (by show l6dep 9 gs g 0 ≠ -1; omega)).2
  have hp : ∀ g : Int, g ≠ 0 → usedD gs g = true → usedD gs (gi gs g).parent = true := fun g hg hu => by
    obtain ⟨a, b, c⟩ := usedD_iff.1 hu
    exact par g (by omega) (by omega) c
  refine ⟨hl, ru, rp, rn, fun g h1 h2 hu => (h.each g h1 h2 hu).1, par, fun g h1 h2 hu => ?_, fun g k h1 h2 h3 hu hk => (h.each g (by omega) h3 hu).2.2 k h1 h2 hk⟩
  have h9 := inB_t.1 (h.each g h1 h2 hu).2.1
  rw [l6dep_eq hp 8 g 0 (usedD_iff.2 ⟨by omega, by omega, hu⟩)] at h9
  split at h9
  · omega
  · rename_i hd
    have := dep_more gs 8 3 g (by omega) (by omega)
    omega
theorem S_of_tree {gs : List Grp} (h : TreeP gs) : TreeS gs 8 := by
  have hp : ∀ g : Int, g ≠ 0 → usedD gs g = true → usedD gs (gi gs g).parent = true := fun g hg hu => by
    obtain ⟨a, b, c⟩ := usedD_iff.1 hu
    have := h.len
    exact h.par g (by omega) (by omega) c
  refine ⟨fun g h1 h2 hu => ⟨h.nm g h1 h2 hu, ?_, fun k h3 h4 hk => h.uniq g k h3 h4 h2 hu hk⟩⟩
  have hl := h.len
  rw [l6dep_eq hp 8 g 0 (usedD_iff.2 ⟨by omega, by omega, hu⟩)]
  have h3 := h.dp g h1 h2 hu
  have hr := dep_range gs 3 g
  have := dep_more gs 3 8 g h3 (by omega)
  rw [this, if_neg (by omega)]
  have hz : dep 3 gs g ≠ 0 := fun e => by have := dep_zero e; omega
  exact inB_t.2 (by omega)

section
variable {gs : List Grp} {ms : Nat → MG} {o : Option Addr} {c : Nat} {w : World} {bs : List Nat}
theorem RdG.used (h : RdG bs w o gs ms) {i : Int} (h0 : 0 ≤ i) (h1 : i < (gs.length : Int)) : CellsX bs w o (Int.toNat i * 14 + 0) [.bool (gi gs i).used] := (h.cells i h0 h1).get 0 _ rfl
theorem RdG.parent (h : RdG bs w o gs ms) {i : Int} (h0 : 0 ≤ i) (h1 : i < (gs.length : Int)) : CellsX bs w o (Int.toNat i * 14 + 1) [.int .i64 (gi gs i).parent] := (h.cells i h0 h1).get 1 _ rfl
theorem RdG.name (h : RdG bs w o gs ms) {i : Int} (h0 : 0 ≤ i) (h1 : i < (gs.length : Int)) : CellsX bs w o (Int.toNat i * 14 + 2) [.string (gi gs i).name] := (h.cells i h0 h1).get 2 _ rfl
theorem k_spec_l6Used {g : Int} (h : RdG bs w o gs ms) : PureX bs Tryz.prog fn_spec_l6Used #[.slice o gs.length c, .int .i64 g] w (.bool (usedD gs g)) :=
  p_spec_l6Used o gs.length c g fun wr hx => by
    have h := (h.ext hx).less (cs := []) (by simp)
    refine ⟨fun q => ?_, (gi gs g).used, fun q => ?_, rfl⟩
    · have q : 0 ≤ g ∧ g < (gs.length : Int) := by simpa using q
      exact h.ix q.1 q.2
    · have q : 0 ≤ g ∧ g < (gs.length : Int) := by simpa using q
      exact h.used q.1 q.2
theorem k_spec_l6Depth {g : Int} (h : RdG bs w o gs ms) (hl : gs.length < maxLen) : PureX bs Tryz.prog fn_spec_l6Depth #[.slice o gs.length c, .int .i64 g] w (.int .i64 (l6dep (gs.length + 1) gs g 0)) :=
  p_spec_l6Depth o gs.length c g fun wr hx => by
    have h := (h.ext hx).less (cs := []) (by simp)
    refine loop2 (gs.length + 1) 0 rfl (fun x k => k ≤ gs.length + 1 ∧ l6dep (gs.length + 1 - k) gs x k = l6dep (gs.length + 1) gs g 0) ⟨by omega, rfl⟩ fun x k ⟨hk, he⟩ => ⟨fun hlt => ?_, fun hge => ?_⟩
    · have hlt := of_decide_eq_true hlt
      have hf : gs.length + 1 - k = (gs.length - k) + 1 := by omega
      rw [hf, l6dep] at he
      refine ⟨_, k_spec_l6Used h, fun hu => ?_, fun hu => ?_⟩
      · have hu : usedD gs x = false := by simpa using hu
        rw [if_pos hu] at he
        rw [← he]
      · have hu : usedD gs x = true := by simpa using hu
        rw [if_neg (by simp [hu])] at he
        obtain ⟨u1, u2, u3⟩ := usedD_iff.1 hu
        refine ⟨fun hz => ?_, fun hz => ?_⟩
        · rw [if_pos (by simpa using hz)] at he
          rw [← he]
        · rw [if_neg (by simpa using hz)] at he
          have hm := maxLen_le
          refine ⟨h.ix u1 u2, _, h.parent u1 u2, ⟨by omega, by omega⟩, loop2_next (by omega) ⟨by omega, ?_⟩⟩
          rw [← he, show gs.length + 1 - (k + 1) = gs.length - k by omega]
          rfl
    · have hge := of_decide_eq_false hge
      have : gs.length + 1 - k = 0 := by omega
      rw [this] at he
      rw [← he]; rfl
theorem k_spec_TreeOk (h : RdG bs w o gs ms) (hl : gs.length ≤ maxLen) : PureX bs Tryz.prog fn_spec_TreeOk #[.slice o gs.length c] w (.bool (treeB gs)) :=
  p_spec_TreeOk o gs.length c fun wr hx => by
    have h := (h.ext hx).less (cs := []) (by simp)
    have l8 : ((((gs.length : Nat) : Int) != 8) = false) → gs.length = 8 := fun q => by have := (bne_eq_false_iff_eq).1 q; omega
    have i0 : ∀ q : (((gs.length : Nat) : Int) != 8) = false, (0 : Int) < (gs.length : Int) := fun q => by have := l8 q; omega
    refine ⟨fun q => h.ix (Int.le_refl _) (i0 q), (gi gs 0).used, fun q => h.used (Int.le_refl _) (i0 q), fun q => ?_, (gi gs 0).parent, fun q => ?_, fun q => ?_, (gi gs 0).name, fun q => ?_, fun q => ?_, fun q => ?_⟩
    · simp only [Bool.or_eq_false_iff] at q; exact h.ix (Int.le_refl _) (i0 q.1)
    · simp only [Bool.or_eq_false_iff] at q; exact h.parent (Int.le_refl _) (i0 q.1)
    · simp only [Bool.or_eq_false_iff] at q; exact h.ix (Int.le_refl _) (i0 q.1.1)
    · simp only [Bool.or_eq_false_iff] at q; exact h.name (Int.le_refl _) (i0 q.1.1)
    · rw [treeB_no]
      intro ht
      have e : ((gs.length : Nat) : Int) = 8 := by have := ht.len; omega
      rw [e, ht.ru, ht.rp, ht.rn, strEq_eq] at q
      simp at q
    · simp only [Bool.or_eq_false_iff, Bool.not_eq_false', bne_eq_false_iff_eq, strEq_iff] at q
      obtain ⟨⟨⟨q1, ru⟩, rp⟩, rn⟩ := q
      have hl8 : gs.length = 8 := by omega
      refine loop1 8 1 rfl (fun k => 1 ≤ k ∧ k ≤ 8 ∧ TreeS gs k) ⟨Nat.le_refl _, by omega, ⟨fun g h1 h2 => by omega⟩⟩ fun k ⟨hk1, hk, hS⟩ => ⟨fun hlt => ?_, fun hge => ?_⟩
      · have hlt := of_decide_eq_true hlt
        have hk0 : (0 : Int) ≤ (k : Int) := by omega
        have step : ((gi gs (k : Int)).used = true → nameOk (gi gs (k : Int)).name = true ∧ inB (l6dep 9 gs (k : Int) 0) 1 3 = true ∧ ∀ h : Int, 1 ≤ h → h < (k : Int) → (gi gs h).used = true → ¬ ((gi gs h).parent = (gi gs (k : Int)).parent ∧ (gi gs h).name = (gi gs (k : Int)).name)) → TreeS gs ((k + 1 : Nat) : Int) := fun hst => ⟨fun g h1 h2 hu => by
          by_cases hgk : g < (k : Int)
          · exact hS.each g h1 hgk hu
          · have : g = (k : Int) := by omega
            subst this; exact hst hu⟩
        refine ⟨h.ix hk0 hlt, _, h.used hk0 hlt, fun hu => ⟨⟨by omega, by omega⟩, loop1_next (by omega) ⟨by omega, by omega, step fun hu' => by rw [hu'] at hu; cases hu⟩⟩, fun hu => ?_⟩
        have hu : (gi gs (k : Int)).used = true := by simpa using hu
        refine ⟨h.ix hk0 hlt, _, h.name hk0 hlt, _, k_spec_NameOk, l6dep 9 gs (k : Int) 0, fun _ => ?_, inB (l6dep 9 gs (k : Int) 0) 1 3, fun _ => k_spec_l1In, fun q => ?_, fun q => ?_⟩
        · have := k_spec_l6Depth (c := c) (g := (k : Int)) h (by rw [hl8]; simp [maxLen])
          rwa [hl8] at this ⊢
        · rw [treeB_no]
          intro ht
          have := (S_of_tree ht).each (k : Int) (by omega) (by omega) hu
          rw [this.1, this.2.1] at q
          cases q
        · simp only [Bool.or_eq_false_iff, Bool.not_eq_false'] at q
          refine loop1 k 1 rfl (fun j => 1 ≤ j ∧ j ≤ k ∧ ∀ h : Int, 1 ≤ h → h < (j : Int) → (gi gs h).used = true → ¬ ((gi gs h).parent = (gi gs (k : Int)).parent ∧ (gi gs h).name = (gi gs (k : Int)).name)) ⟨Nat.le_refl _, hk1, fun g h1 h2 => by omega⟩ fun j ⟨hj1, hjk, hJ⟩ => ⟨fun hlt2 => ?_, fun hge2 => ?_⟩
          · have hlt2 := of_decide_eq_true hlt2
            have hj0 : (0 : Int) ≤ (j : Int) := by omega
            have hjl : (j : Int) < (gs.length : Int) := by omega
            refine ⟨h.ix hj0 hjl, _, h.used hj0 hjl, fun _ => h.ix hj0 hjl, _, fun _ => h.parent hj0 hjl, fun _ => h.ix hk0 hlt, _, fun _ => h.parent hk0 hlt, fun _ => h.ix hj0 hjl, _, fun _ => h.name hj0 hjl, fun _ => h.ix hk0 hlt, _, fun _ => h.name hk0 hlt, fun hs => ?_, fun hs => ⟨⟨by omega, by omega⟩, loop1_next (by omega) ⟨by omega, by omega, fun g h1 h2 hg => ?_⟩⟩⟩
            · rw [treeB_no]
              intro ht
              simp only [Bool.and_eq_true, beq_iff_eq, strEq_iff] at hs
              exact ht.uniq (k : Int) (j : Int) (by omega) hlt2 (by omega) hu hs.1.1 ⟨hs.1.2, hs.2⟩
            · by_cases hgj : g < (j : Int)
              · exact hJ g h1 hgj hg
              · have : g = (j : Int) := by omega
                subst this
                rintro ⟨e1, e2⟩
                rw [hg, e1, e2, strEq_eq] at hs
                simp at hs
          · have hge2 := of_decide_eq_false hge2
            have : j = k := by omega
            subst this
            exact ⟨⟨by omega, by omega⟩, loop1_next (by omega) ⟨by omega, by omega, step fun _ => ⟨q.1, q.2, hJ⟩⟩⟩
      · have hge := of_decide_eq_false hge
        have : k = 8 := by omega
        subst this
        rw [treeB_iff.2 (tree_of_S hl8 ru rp rn hS)]
/-- Is h in g? (of a tree) -/
def insD : Nat → List Grp → Int → Int → Bool
  | 0, _, g, h => h == g
  | f + 1, gs, g, h => h == g || (h != 0 && insD f gs g (gi gs h).parent)
noncomputable def underB (gs : List Grp) (g h : Int) : Bool := treeB gs && usedD gs g && usedD gs h && insD 3 gs g h
/-- Climbing, in a tree. -/
theorem climb {gs : List Grp} (ht : TreeP gs) {h : Int} (hu : usedD gs h = true) (hz : h ≠ 0) : usedD gs (gi gs h).parent = true ∧ 0 ≤ h ∧ h < (gs.length : Int) ∧ ∃ d : Nat, dep 3 gs h = (d : Int) + 1 ∧ dep 3 gs (gi gs h).parent = (d : Int) ∧ d < 3 := by
  obtain ⟨a, b, u⟩ := usedD_iff.1 hu
  have hl := ht.len
  have h1 : 1 ≤ h := by omega
  have hd := ht.dp h h1 (by omega) u
  refine ⟨ht.par h h1 (by omega) u, a, b, ?_⟩
  have hr := dep_range gs 2 (gi gs h).parent
  have e : dep 3 gs h = if dep 2 gs (gi gs h).parent < 0 then -1 else dep 2 gs (gi gs h).parent + 1 := by simp only [dep, if_neg hz]
  rw [e] at hd ⊢
  split at hd
  · omega
  · rename_i hn
    rw [if_neg hn]
    have := dep_more gs 2 3 (gi gs h).parent (by omega) (by omega)
    exact ⟨(dep 2 gs (gi gs h).parent).toNat, by omega, by omega, by omega⟩
theorem insD_more {gs : List Grp} (ht : TreeP gs) (g : Int) : ∀ (f f' : Nat) (h : Int), usedD gs h = true → dep 3 gs h ≤ f → dep 3 gs h ≤ f' → insD f gs g h = insD f' gs g h := by
  intro f
  induction f with
  | zero =>
    intro f' h hu h1 h2
    have hz : h = 0 := Decidable.byContradiction fun hz => by
      obtain ⟨_, _, _, d, e, _⟩ := climb ht hu hz
      omega
    subst hz
    cases f' <;> simp [insD]
  | succ f ih =>
    intro f' h hu h1 h2
    by_cases hz : h = 0
    · subst hz
      cases f' <;> simp [insD]
    · obtain ⟨hp, _, _, d, e, e2, _⟩ := climb ht hu hz
      cases f' with
      | zero => omega
      | succ f' =>
        simp only [insD]
        rw [ih f' (gi gs h).parent hp (by omega) (by omega)]
theorem insD_step {gs : List Grp} (ht : TreeP gs) {g h : Int} (hu : usedD gs h = true) (hz : h ≠ 0) (hg : h ≠ g) : insD 3 gs g h = insD 3 gs g (gi gs h).parent := by
  obtain ⟨hp, _, _, d, e, e2, hd⟩ := climb ht hu hz
  rw [← insD_more ht g 2 3 (gi gs h).parent hp (by omega) (by omega)]
  have e3 : insD 3 gs g h = (h == g || (h != 0 && insD 2 gs g (gi gs h).parent)) := rfl
  rw [e3]
  have e4 : (h == g) = false := by simpa using hg
  have e5 : (h != 0) = true := by simpa using hz
  rw [e4, e5, Bool.false_or, Bool.true_and]
theorem k_spec_TreeUnder {g h : Int} (hr : RdG bs w o gs ms) (hl : gs.length ≤ maxLen) : PureX bs Tryz.prog fn_spec_TreeUnder #[.slice o gs.length c, .int .i64 g, .int .i64 h] w (.bool (underB gs g h)) :=
  p_spec_TreeUnder o gs.length c g h fun wr hx => by
    have hr := (hr.ext hx).less (cs := []) (by simp)
    refine ⟨_, k_spec_TreeOk hr hl, _, fun _ => k_spec_l6Used hr, _, fun _ => k_spec_l6Used hr, fun q => ?_, fun q => ?_⟩
    · have : underB gs g h = false := by
        unfold underB
        cases h1 : treeB gs <;> cases h2 : usedD gs g <;> cases h3 : usedD gs h <;> simp_all
      rw [this]
    · simp only [Bool.or_eq_false_iff, Bool.not_eq_false'] at q
      obtain ⟨⟨q1, q2⟩, q3⟩ := q
      have ht := treeB_iff.1 q1
      have hU : underB gs g h = insD 3 gs g h := by unfold underB; rw [q1, q2, q3]; rfl
      refine ⟨fun vs => ∃ x : Int, vs = [.int .i64 x] ∧ usedD gs x = true ∧ insD 3 gs g x = insD 3 gs g h, fun vs => (dep 3 gs (ctrAt 0 vs)).toNat, ⟨h, rfl, q3, rfl⟩, ?_⟩
      rintro x ⟨x', he, hu, hI⟩
      simp only [List.cons.injEq, Value.int.injEq, true_and, and_true] at he
      subst he
      refine ⟨fun hne => ⟨fun hz => ?_, fun hz => ?_⟩, fun heq => ?_⟩
      · have hz : x = 0 := by simpa using hz
        subst hz
        have : insD 3 gs g 0 = false := by
          have : ¬ (0 = g) := by simpa using hne
          simp [insD, this]
        rw [hU, ← hI, this]
      · have hz : x ≠ 0 := by simpa using hz
        have hne : x ≠ g := by simpa using hne
        obtain ⟨hp, a, b, d, e, e2, hd⟩ := climb ht hu hz
        refine ⟨hr.ix a b, _, hr.parent a b, ⟨_, rfl, hp, by rw [← insD_step ht hu hz hne]; exact hI⟩, ?_⟩
        show (dep 3 gs (gi gs x).parent).toNat < (dep 3 gs x).toNat
        omega
      · have heq : x = g := by simpa using heq
        subst heq
        rw [hU, ← hI]
        simp [insD]
end
end Go.Proofs.YthojnihahmlboaaGreat
