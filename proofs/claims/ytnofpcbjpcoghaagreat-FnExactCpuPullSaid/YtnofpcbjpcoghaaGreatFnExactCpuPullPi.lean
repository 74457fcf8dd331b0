/- Part 9 of what the law FnExactCpuPull needs: the engine, the functions' propositions, the contracts. -/
import Derived.Test.YtnofpcbjpcoghaaGreatFnExactCpuPullPh
namespace Go.Proofs.YtnofpcbjpcoghaaGreat
open Go.RowKit
set_option linter.unusedVariables false
set_option linter.unusedSimpArgs false
set_option maxRecDepth 10000
theorem l6dep_eq {gs : List Grp} (hp : ∀ g : Int, g ≠ 0 → usedD gs g = true → usedD gs (gi gs g).parent = true) : ∀ (f : Nat) (g n : Int), usedD gs g = true → l6dep (f + 1) gs g n = if dep f gs g < 0 then -1 else n + dep f gs g
  | 0, g, n, hu => by
    simp only [l6dep, dep, hu]
    by_cases hg : g = 0 <;> simp [hg]
  | f + 1, g, n, hu => by
    rw [l6dep]
    simp only [hu]
    by_cases hg : g = 0
    · simp [hg, dep]
    · have ih := l6dep_eq hp f (gi gs g).parent (n + 1) (hp g hg hu)
      have hr := dep_range gs f (gi gs g).parent
      simp only [dep, if_neg hg]
      rw [ih]
      by_cases hd : dep f gs (gi gs g).parent < 0
      · simp [hd]
      · have h2 : ¬ (dep f gs (gi gs g).parent + 1 < 0) := by omega
        simp [hd, h2]; omega
theorem l6dep_par {gs : List Grp} {f : Nat} {g n : Int} (hg : g ≠ 0) (h : l6dep (f + 1) gs g n ≠ -1) : f ≠ 0 ∧ usedD gs (gi gs g).parent = true := by
  rw [l6dep] at h
  by_cases hu : usedD gs g = false
  · rw [if_pos hu] at h; exact absurd rfl h
  · rw [if_neg hu, if_neg hg] at h
    cases f with
    | zero => exact absurd rfl h
    | succ f =>
      rw [l6dep] at h
      by_cases hp : usedD gs (gi gs g).parent = false
      · rw [if_pos hp] at h; exact absurd rfl h
      · exact ⟨by omega, by simpa using hp⟩
structure TreeS (gs : List Grp) (k : Int) : Prop where
  each : ∀ g : Int, 1 ≤ g → g < k → (gi gs g).used = true → nameOk (gi gs g).name = true ∧ inB (l6dep 9 gs g 0) 1 3 = true ∧ ∀ h : Int, 1 ≤ h → h < g → (gi gs h).used = true → ¬ ((gi gs h).parent = (gi gs g).parent ∧ (gi gs h).name = (gi gs g).name)
theorem tree_of_S {gs : List Grp} (hl : gs.length = 8) (ru : (gi gs 0).used = true) (rp : (gi gs 0).parent = -1) (rn : (gi gs 0).name = ⟨[].toArray⟩) (h : TreeS gs 8) : TreeP gs := by
  have par : ∀ g : Int, 1 ≤ g → g < 8 → (gi gs g).used = true → usedD gs (gi gs g).parent = true := fun g h1 h2 hu => by
    have := inB_t.1 (h.each g h1 h2 hu).2.1
    exact (l6dep_par (f := 8) (n := 0) (by omega) (by show l6dep 9 gs g 0 ≠ -1; omega)).2
  have hp : ∀ g : Int, g ≠ 0 → usedD gs g = true → usedD gs (gi gs g).parent = true := fun g hg hu => by
    obtain ⟨a, b, c⟩ := usedD_iff.1 hu
    exact par g (by omega) (by omega) c
  refine ⟨hl, ru, rp, rn, fun g h1 h2 hu => (h.each g h1 h2 hu).1, par, fun g h1 h2 hu => ?_, fun g k h1 h2 h3 hu hk => (h.each g (by omega) h3 hu).2.2 k h1 h2 hk⟩
  have h9 := inB_t.1 (h.each g h1 h2 hu).2.1
  rw [l6dep_eq hp 8 g 0 (usedD_iff.2 ⟨by omega, by omega, hu⟩)] at h9
  split at h9
  · omega
  · rename_i hd
    have := dep_more gs 8 3 g (by omega) (by omega)
    omega
theorem S_of_tree {gs : List Grp} (h : TreeP gs) : TreeS gs 8 := by
  have hp : ∀ g : Int, g ≠ 0 → usedD gs g = true → usedD gs (gi gs g).parent = true := fun g hg hu => by
    obtain ⟨a, b, c⟩ := usedD_iff.1 hu
    have := h.len
    exact h.par g (by omega) (by omega) c
  refine ⟨fun g h1 h2 hu => ⟨h.nm g h1 h2 hu, ?_, fun k h3 h4 hk => h.uniq g k h3 h4 h2 hu hk⟩⟩
  have hl := h.len
  rw [l6dep_eq hp 8 g 0 (usedD_iff.2 ⟨by omega, by omega, hu⟩)]
  have h3 := h.dp g h1 h2 hu
  have hr := dep_range gs 3 g
  have := dep_more gs 3 8 g h3 (by omega)
  rw [this, if_neg (by omega)]
  have hz : dep 3 gs g ≠ 0 := fun e => by have := dep_zero e; omega
  exact inB_t.2 (by omega)
section
variable {gs : List Grp} {ms : Nat → MG} {o : Option Addr} {c : Nat} {w : World} {bs : List Nat}
theorem RdG.used (h : RdG bs w o gs ms) {i : Int} (h0 : 0 ≤ i) (h1 : i < (gs.length : Int)) : CellsX bs w o (Int.toNat i * 14 + 0) [.bool (gi gs i).used] := (h.cells i h0 h1).get 0 _ rfl
theorem RdG.parent (h : RdG bs w o gs ms) {i : Int} (h0 : 0 ≤ i) (h1 : i < (gs.length : Int)) : CellsX bs w o (Int.toNat i * 14 + 1) [.int .i64 (gi gs i).parent] := (h.cells i h0 h1).get 1 _ rfl
theorem RdG.name (h : RdG bs w o gs ms) {i : Int} (h0 : 0 ≤ i) (h1 : i < (gs.length : Int)) : CellsX bs w o (Int.toNat i * 14 + 2) [.string (gi gs i).name] := (h.cells i h0 h1).get 2 _ rfl
theorem k_spec_l6Used {g : Int} (h : RdG bs w o gs ms) : PureX bs Tryz.prog fn_spec_l6Used #[.slice o gs.length c, .int .i64 g] w (.bool (usedD gs g)) :=
  p_spec_l6Used o gs.length c g fun wr hx => by
    have h := (h.ext hx).less (cs := []) (by simp)
    refine ⟨fun q => ?_, (gi gs g).used, fun q => ?_, rfl⟩
    · have q : 0 ≤ g ∧ g < (gs.length : Int) := by simpa using q
      exact h.ix q.1 q.2
    · have q : 0 ≤ g ∧ g < (gs.length : Int) := by simpa using q
      exact h.used q.1 q.2
theorem k_spec_l6Depth {g : Int} (h : RdG bs w o gs ms) (hl : gs.length < maxLen) : PureX bs Tryz.prog fn_spec_l6Depth #[.slice o gs.length c, .int .i64 g] w (.int .i64 (l6dep (gs.length + 1) gs g 0)) :=
  p_spec_l6Depth o gs.length c g fun wr hx => by
    have h := (h.ext hx).less (cs := []) (by simp)
    refine loop2 (gs.length + 1) 0 rfl (fun x k => k ≤ gs.length + 1 ∧ l6dep (gs.length + 1 - k) gs x k = l6dep (gs.length + 1) gs g 0) ⟨by omega, rfl⟩ fun x k ⟨hk, he⟩ => ⟨fun hlt => ?_, fun hge => ?_⟩
    · have hlt := of_decide_eq_true hlt
      have hf : gs.length + 1 - k = (gs.length - k) + 1 := by omega
      rw [hf, l6dep] at he
      refine ⟨_, k_spec_l6Used h, fun hu => ?_, fun hu => ?_⟩
      · have hu : usedD gs x = false := by simpa using hu
        rw [if_pos hu] at he
        rw [← he]
      · have hu : usedD gs x = true := by simpa using hu
        rw [if_neg (by simp [hu])] at he
        obtain ⟨u1, u2, u3⟩ := usedD_iff.1 hu
        refine ⟨fun hz => ?_, fun hz => ?_⟩
        · rw [if_pos (by simpa using hz)] at he
          rw [← he]
        · rw [if_neg (by simpa using hz)] at he
          have hm := maxLen_le
          refine ⟨h.ix u1 u2, _, h.parent u1 u2, ⟨by omega, by omega⟩, loop2_next (by omega) ⟨by omega, ?_⟩⟩
          rw [← he, show gs.length + 1 - (k + 1) = gs.length - k by omega]
          rfl
    · have hge := of_decide_eq_false hge
      have : gs.length + 1 - k = 0 := by omega
      rw [this] at he
      rw [← he]; rfl
theorem k_spec_TreeOk (h : RdG bs w o gs ms) (hl : gs.length ≤ maxLen) : PureX bs Tryz.prog fn_spec_TreeOk #[.slice o gs.length c] w (.bool (treeB gs)) :=
  p_spec_TreeOk o gs.length c fun wr hx => by
    have h := (h.ext hx).less (cs := []) (by simp)
    have l8 : ((((gs.length : Nat) : Int) != 8) = false) → gs.length = 8 := fun q => by have := (bne_eq_false_iff_eq).1 q; omega
    have i0 : ∀ q : (((gs.length : Nat) : Int) != 8) = false, (0 : Int) < (gs.length : Int) := fun q => by have := l8 q; omega
    refine ⟨fun q => h.ix (Int.le_refl _) (i0 q), (gi gs 0).used, fun q => h.used (Int.le_refl _) (i0 q), fun q => ?_, (gi gs 0).parent, fun q => ?_, fun q => ?_, (gi gs 0).name, fun q => ?_, fun q => ?_, fun q => ?_⟩
    · simp only [Bool.or_eq_false_iff] at q; exact h.ix (Int.le_refl _) (i0 q.1)
    · simp only [Bool.or_eq_false_iff] at q; exact h.parent (Int.le_refl _) (i0 q.1)
    · simp only [Bool.or_eq_false_iff] at q; exact h.ix (Int.le_refl _) (i0 q.1.1)
    · simp only [Bool.or_eq_false_iff] at q; exact h.name (Int.le_refl _) (i0 q.1.1)
    · rw [treeB_no]
      intro ht
      have e : ((gs.length : Nat) : Int) = 8 := by have := ht.len; omega
      rw [e, ht.ru, ht.rp, ht.rn, strEq_eq] at q
      simp at q
    · simp only [Bool.or_eq_false_iff, Bool.not_eq_false', bne_eq_false_iff_eq, strEq_iff] at q
      obtain ⟨⟨⟨q1, ru⟩, rp⟩, rn⟩ := q
      have hl8 : gs.length = 8 := by omega
      refine loop1 8 1 rfl (fun k => 1 ≤ k ∧ k ≤ 8 ∧ TreeS gs k) ⟨Nat.le_refl _, by omega, ⟨fun g h1 h2 => by omega⟩⟩ fun k ⟨hk1, hk, hS⟩ => ⟨fun hlt => ?_, fun hge => ?_⟩
      · have hlt := of_decide_eq_true hlt
        have hk0 : (0 : Int) ≤ (k : Int) := by omega
        have step : ((gi gs (k : Int)).used = true → nameOk (gi gs (k : Int)).name = true ∧ inB (l6dep 9 gs (k : Int) 0) 1 3 = true ∧ ∀ h : Int, 1 ≤ h → h < (k : Int) → (gi gs h).used = true → ¬ ((gi gs h).parent = (gi gs (k : Int)).parent ∧ (gi gs h).name = (gi gs (k : Int)).name)) → TreeS gs ((k + 1 : Nat) : Int) := fun hst => ⟨fun g h1 h2 hu => by
          by_cases hgk : g < (k : Int)
          · exact hS.each g h1 hgk hu
          · have : g = (k : Int) := by omega
            subst this; exact hst hu⟩
        refine ⟨h.ix hk0 hlt, _, h.used hk0 hlt, fun hu => ⟨⟨by omega, by omega⟩, loop1_next (by omega) ⟨by omega, by omega, step fun hu' => by rw [hu'] at hu; cases hu⟩⟩, fun hu => ?_⟩
        have hu : (gi gs (k : Int)).used = true := by simpa using hu
        refine ⟨h.ix hk0 hlt, _, h.name hk0 hlt, _, k_spec_NameOk, l6dep 9 gs (k : Int) 0, fun _ => ?_, inB (l6dep 9 gs (k : Int) 0) 1 3, fun _ => k_spec_l1In, fun q => ?_, fun q => ?_⟩
        · have := k_spec_l6Depth (c := c) (g := (k : Int)) h (by rw [hl8]; simp [maxLen])
          rwa [hl8] at this ⊢
        · rw [treeB_no]
          intro ht
          have := (S_of_tree ht).each (k : Int) (by omega) (by omega) hu
          rw [this.1, this.2.1] at q
          cases q
        · simp only [Bool.or_eq_false_iff, Bool.not_eq_false'] at q
          refine loop1 k 1 rfl (fun j => 1 ≤ j ∧ j ≤ k ∧ ∀ h : Int, 1 ≤ h → h < (j : Int) → (gi gs h).used = true → ¬ ((gi gs h).parent = (gi gs (k : Int)).parent ∧ (gi gs h).name = (gi gs (k : Int)).name)) ⟨Nat.le_refl _, hk1, fun g h1 h2 => by omega⟩ fun j ⟨hj1, hjk, hJ⟩ => ⟨fun hlt2 => ?_, fun hge2 => ?_⟩
          · have hlt2 := of_decide_eq_true hlt2
            have hj0 : (0 : Int) ≤ (j : Int) := by omega
            have hjl : (j : Int) < (gs.length : Int) := by omega
            refine ⟨h.ix hj0 hjl, _, h.used hj0 hjl, fun _ => h.ix hj0 hjl, _, fun _ => h.parent hj0 hjl, fun _ => h.ix hk0 hlt, _, fun _ => h.parent hk0 hlt, fun _ => h.ix hj0 hjl, _, fun _ => h.name hj0 hjl, fun _ => h.ix hk0 hlt, _, fun _ => h.name hk0 hlt, fun hs => ?_, fun hs => ⟨⟨by omega, by omega⟩, loop1_next (by omega) ⟨by omega, by omega, fun g h1 h2 hg => ?_⟩⟩⟩
            · rw [treeB_no]
              intro ht
              simp only [Bool.and_eq_true, beq_iff_eq, strEq_iff] at hs
              exact ht.uniq (k : Int) (j : Int) (by omega) hlt2 (by omega) hu hs.1.1 ⟨hs.1.2, hs.2⟩
            · by_cases hgj : g < (j : Int)
              · exact hJ g h1 hgj hg
              · have : g = (j : Int) := by omega
                subst this
                rintro ⟨e1, e2⟩
                rw [hg, e1, e2, strEq_eq] at hs
                simp at hs
          · have hge2 := of_decide_eq_false hge2
            have : j = k := by omega
            subst this
            exact ⟨⟨by omega, by omega⟩, loop1_next (by omega) ⟨by omega, by omega, step fun _ => ⟨q.1, q.2, hJ⟩⟩⟩
      · have hge := of_decide_eq_false hge
        have : k = 8 := by omega
        subst this
        rw [treeB_iff.2 (tree_of_S hl8 ru rp rn hS)]
theorem climb {gs : List Grp} (ht : TreeP gs) {h : Int} (hu : usedD gs h = true) (hz : h ≠ 0) : usedD gs (gi gs h).parent = true ∧ 0 ≤ h ∧ h < (gs.length : Int) ∧ ∃ d : Nat, dep 3 gs h = (d : Int) + 1 ∧ dep 3 gs (gi gs h).parent = (d : Int) ∧ d < 3 := by
  obtain ⟨a, b, u⟩ := usedD_iff.1 hu
  have hl := ht.len
  have h1 : 1 ≤ h := by omega
  have hd := ht.dp h h1 (by omega) u
  refine ⟨ht.par h h1 (by omega) u, a, b, ?_⟩
  have hr := dep_range gs 2 (gi gs h).parent
  have e : dep 3 gs h = if dep 2 gs (gi gs h).parent < 0 then -1 else dep 2 gs (gi gs h).parent + 1 := by simp only [dep, if_neg hz]
  rw [e] at hd ⊢
  split at hd
  · omega
  · rename_i hn
    rw [if_neg hn]
    have := dep_more gs 2 3 (gi gs h).parent (by omega) (by omega)
    exact ⟨(dep 2 gs (gi gs h).parent).toNat, by omega, by omega, by omega⟩
end
end Go.Proofs.YtnofpcbjpcoghaaGreat
namespace Go.Proofs.YtnofpcbjpcoghaaGreat
open Go.RowKit
set_option linter.unusedVariables false
set_option linter.unusedSimpArgs false
set_option maxRecDepth 10000
theorem get_strAt {s : ByteArray} {i : Nat} (h : i < s.size) : ((s.get! i).toNat : Int) = strAt s (i : Int) := by
  have hi : i < s.data.size := h
  unfold strAt
  rw [Int.toNat_natCast]
  simp [ByteArray.get!, getElem!_pos s.data i hi, Array.getD, h]
theorem decode_lo {s : ByteArray} {i : Nat} (h : (s.get! i).toNat < 128) : Utf8.decode s i = ((s.get! i).toNat, 1) := by
  simp only [Utf8.decode, Nat.add_zero]
  rw [if_pos h]
theorem decode_hi {s : ByteArray} {i : Nat} (h : ¬ (s.get! i).toNat < 128) : 128 ≤ (Utf8.decode s i).1 ∧ 1 ≤ (Utf8.decode s i).2 := by
  simp only [Utf8.decode, Nat.add_zero, Utf8.runeError]
  rw [if_neg h]
  split
  · split
    · rename_i h1; exact ⟨h1, by show 1 ≤ 2; omega⟩
    · exact ⟨by decide, by decide⟩
  · split
    · split
      · rename_i h1
        simp only [ge_iff_le, Bool.and_eq_true, decide_eq_true_eq] at h1
        exact ⟨by show 128 ≤ _; omega, by show 1 ≤ 3; omega⟩
      · exact ⟨by decide, by decide⟩
    · split
      · split
        · rename_i h1
          simp only [ge_iff_le, Bool.and_eq_true, decide_eq_true_eq] at h1
          exact ⟨by show 128 ≤ _; omega, by show 1 ≤ 4; omega⟩
        · exact ⟨by decide, by decide⟩
      · exact ⟨by decide, by decide⟩
theorem iterW_ext (w : World) (b : Nat) (s : ByteArray) (p : Nat) : ExtX [b] w (iterW w b s p) :=
  ⟨rfl, rfl, rfl, by simp [iterW], fun k _ hk => by
    have : b ≠ k := fun e => hk (by simp [e])
    simp only [iterW]
    rw [Array.getElem?_setIfInBounds_ne this]⟩
theorem iterW_at {w : World} {b : Nat} {s : ByteArray} {p : Nat} (h : b < w.heap.size) : (iterW w b s p).heap[b]? = some (.stringIter s p) := by
  simp [iterW, h]
def posOf (b : Nat) (w : World) : Nat := match w.heap[b]? with
  | some (.stringIter s p) => s.size + 1 - p
  | _ => 0
theorem fileN_false {s : ByteArray} (h1 : strEq s (⟨[119, 101, 105, 103, 104, 116].toArray⟩) = false) (h2 : strEq s (⟨[109, 97, 120].toArray⟩) = false) (h3 : strEq s (⟨[99, 112, 117, 115].toArray⟩) = false) (h4 : strEq s (⟨[112, 114, 111, 99, 115].toArray⟩) = false) (h5 : strEq s (⟨[115, 116, 97, 116].toArray⟩) = false) : fileN s = false := by
  unfold fileN; rw [h1, h2, h3, h4, h5]; rfl
theorem nameOk_file {s : ByteArray} (h : fileN s = true) : nameOk s = false := nameOk_no fun ⟨_, h2, _⟩ => by rw [h] at h2; cases h2
theorem k_impl_NameOk {s : ByteArray} {w : World} {bs : List Nat} : PureX bs Tryz.prog fn_impl_NameOk #[.string s] w (.bool (nameOk s)) := by
  refine pureX_of fun wr hx => e_impl_NameOk s (R := fun v w' => v = .bool (nameOk s) ∧ ExtX [] wr w') ?_
  refine ⟨fun h => ?_, fun h1 => ⟨fun h => ?_, fun h2 => ⟨fun h => ?_, fun h3 => ⟨fun h => ?_, fun h4 => ⟨fun h => ?_, fun h5 => ?_⟩⟩⟩⟩⟩
  · intro w1 hx1; rw [nameOk_file (by unfold fileN; rw [h]; rfl)]; exact ⟨rfl, hx1⟩
  · intro w1 hx1; rw [nameOk_file (by unfold fileN; rw [h]; simp)]; exact ⟨rfl, hx1⟩
  · intro w1 hx1; rw [nameOk_file (by unfold fileN; rw [h]; simp)]; exact ⟨rfl, hx1⟩
  · intro w1 hx1; rw [nameOk_file (by unfold fileN; rw [h]; simp)]; exact ⟨rfl, hx1⟩
  · intro w1 hx1; rw [nameOk_file (by unfold fileN; rw [h]; simp)]; exact ⟨rfl, hx1⟩
  · have hf := fileN_false h1 h2 h3 h4 h5
    refine ⟨_, k_impl_inRange, fun h => ?_, fun h => ?_⟩
    · intro w1 hx1
      have h : inB (s.size : Int) 1 8 = false := by simpa using h
      have h := inB_f.1 h
      rw [nameOk_no fun ⟨h6, _⟩ => h (by omega)]
      exact ⟨rfl, hx1⟩
    · have h : inB (s.size : Int) 1 8 = true := by simpa using h
      have h := inB_t.1 h
      intro w1 hx1 _
      refine ⟨some ⟨w1.heap.size, 0, none⟩, w1.alloc (.stringIter s 0), by simp [Instr.range, run_underlying u_string], kept_nil, ?_⟩
      have hb0 : (w1.alloc (.stringIter s 0)).heap[w1.heap.size]? = some (.stringIter s 0) := Array.getElem?_push_size ..
      have hX0 : ExtX [] wr (w1.alloc (.stringIter s 0)) := hx1.trans (ext_alloc w1 _)
      have hbr : wr.heap.size ≤ w1.heap.size := hx1.size
      generalize w1.heap.size = b at hb0 hbr
      generalize w1.alloc (.stringIter s 0) = w2 at hb0 hX0
      refine ⟨fun vs w' => vs = [] ∧ ExtX [] wr w' ∧ ∃ p : Nat, p ≤ s.size ∧ w'.heap[b]? = some (.stringIter s p) ∧ ∀ j : Nat, j < p → okc (strAt s (j : Int)) = true, fun _ w' => posOf b w', fun w3 hx3 _ => ⟨rfl, hX0.trans hx3, 0, Nat.zero_le _, blk_ext hb0 hx3 (by simp), fun j hj => absurd hj (Nat.not_lt_zero j)⟩, ?_⟩
      intro w3 _ ⟨_, hX, p, hp, hb, hI⟩ w4 hx4 _
      have hb4 := blk_ext hb hx4 (by simp)
      refine ⟨b, s, p, rfl, by simp, hb4, fun hge => ⟨(by intro q; cases q), fun _ w5 hx5 => ?_⟩, fun hlt => ⟨fun _ => ?_, by intro q; cases q⟩⟩
      · have : p = s.size := by omega
        subst this
        rw [nameOk_iff.2 ⟨⟨by omega, by omega⟩, hf, hI⟩]
        exact ⟨rfl, (hX.trans hx4).trans hx5⟩
      · have hX5 : ExtX [] wr (iterW w4 b s (p + (Utf8.decode s p).2)) := (hX.trans hx4).fresh (iterW_ext w4 b s _) fun x hm => .inl (by rw [List.mem_singleton.1 hm]; exact hbr)
        have hg := get_strAt hlt
        refine ⟨fun hno => ?_, fun hyes => ?_⟩
        · intro w5 hx5
          have hno' : nameOk s = false := nameOk_no fun ⟨_, _, h3⟩ => by
            have h3 := h3 p hlt
            by_cases hlo : (s.get! p).toNat < 128
            · rw [decode_lo hlo] at hno
              simp only [hg] at hno
              unfold okc at h3
              rw [h3] at hno
              cases hno
            · unfold okc at h3
              simp only [Bool.or_eq_true, Bool.and_eq_true, decide_eq_true_eq] at h3
              omega
          rw [hno']
          exact ⟨rfl, hX5.trans hx5⟩
        · intro w5 hx5 _
          by_cases hlo : (s.get! p).toNat < 128
          · rw [decode_lo hlo] at hyes hX5 hx5
            simp only [hg] at hyes
            have hat := blk_ext (iterW_at (s := s) (p := p + 1) (blk_lt hb4)) hx5 (by simp)
            refine ⟨⟨rfl, hX5.trans hx5, p + 1, by omega, hat, fun j hj => ?_⟩, ?_⟩
            · by_cases hjp : j < p
              · exact hI j hjp
              · have : j = p := by omega
                subst this
                unfold okc
                rw [Bool.not_eq_false'] at hyes
                exact hyes
            · simp only [posOf, hat, hb]
              omega
          · exfalso
            have := decode_hi hlo
            rw [Bool.not_eq_false'] at hyes
            simp only [Bool.or_eq_true, Bool.and_eq_true, decide_eq_true_eq] at hyes
            omega
end Go.Proofs.YtnofpcbjpcoghaaGreat
