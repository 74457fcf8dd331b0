/- The engine, part 14: 'evC' is sound; functions. -/
import Derived.Test.YthojnihahmlboaaGreatEng13
namespace Go.Proofs.YthojnihahmlboaaGreat
open Go.RowKit
set_option linter.unusedVariables false

theorem keepF_get {F : PT SV} : ∀ {l : List Nat} {i : Nat} {sv : SV}, (∀ x ∈ l, x < 4000) → (keepF F l).get i = some sv → i ∈ l ∧ F.get i = some sv ∧ ∃ e, sv = .un e
  | [], i, sv, _, h => by simp [keepF, PT.get] at h
  | k :: r, i, sv, hl, h => by
    have hr : ∀ x ∈ r, x < 4000 := fun x hx => hl x (List.mem_cons_of_mem _ hx)
    simp only [keepF] at h
    split at h
    · rename_i e he
      rw [PT.get_set _ 12 _ _ _ (by have h1 := hl k (List.mem_cons_self ..); show @LT.lt Nat _ (k + 1) (2 ^ 12); omega)] at h
      by_cases hk : k = i
      · subst hk
        rw [if_pos rfl] at h
        simp only [Option.some.injEq] at h
        subst h
        exact ⟨List.mem_cons_self .., he, e, rfl⟩
      · rw [if_neg hk] at h
        obtain ⟨h1, h2, h3⟩ := keepF_get hr h
        exact ⟨List.mem_cons_of_mem _ h1, h2, h3⟩
    · obtain ⟨h1, h2, h3⟩ := keepF_get hr h
      exact ⟨List.mem_cons_of_mem _ h1, h2, h3⟩
theorem setVs_get {F : PT SV} : ∀ {chg : List (Nat × CK)} {vs : List Value} {i : Nat} {sv : SV}, (∀ p ∈ chg, p.1 < 4000) → (setVs F chg vs).get i = some sv →
    (∃ (j : Nat) (k : CK) (v : Value), chg[j]? = some (i, k) ∧ vs[j]? = some v ∧ sv = .un (.v v)) ∨ F.get i = some sv
  | [], vs, i, sv, _, h => .inr h
  | (a, k) :: r, [], i, sv, _, h => .inr h
  | (a, k) :: r, v :: vs, i, sv, hl, h => by
    have hr : ∀ p ∈ r, p.1 < 4000 := fun x hx => hl x (List.mem_cons_of_mem _ hx)
    simp only [setVs] at h
    rw [PT.get_set _ 12 _ _ _ (by have h1 := hl (a, k) (List.mem_cons_self ..); show @LT.lt Nat _ (a + 1) (2 ^ 12); simp only at h1; omega)] at h
    by_cases hk : a = i
    · subst hk
      rw [if_pos rfl] at h
      simp only [Option.some.injEq] at h
      exact .inl ⟨0, k, v, rfl, rfl, h.symm⟩
    · rw [if_neg hk] at h
      rcases setVs_get hr h with ⟨j, k', v', h1, h2, h3⟩ | h1
      · exact .inl ⟨j + 1, k', v', by simpa using h1, by simpa using h2, h3⟩
      · exact .inr h1
theorem valsS_get {S : St} : ∀ {chg : List (Nat × CK)} {xs : List Value}, valsS S chg = some xs → xs.length = chg.length ∧ ∀ (j i : Nat) (k : CK) (v : Value), chg[j]? = some (i, k) → xs[j]? = some v → ∃ e, S.F.get i = some (.un e) ∧ avl S e = some v
  | [], xs, h => by simp only [valsS, Option.some.injEq] at h; subst h; exact ⟨rfl, fun j i k v hj => by simp at hj⟩
  | (a, k) :: r, xs, h => by
    simp only [valsS] at h
    split at h
    · rename_i e he
      split at h
      · rename_i x l hx hl
        simp only [Option.some.injEq] at h; subst h
        obtain ⟨h1, h2⟩ := valsS_get hl
        refine ⟨by simp [h1], fun j i k' v hj hv => ?_⟩
        cases j with
        | zero =>
          simp only [List.getElem?_cons_zero, Option.some.injEq, Prod.mk.injEq] at hj hv
          obtain ⟨rfl, rfl⟩ := hj
          subst hv
          exact ⟨e, he, hx⟩
        | succ j => exact h2 j i k' v (by simpa using hj) (by simpa using hv)
      · cases h
    · cases h

theorem nodupB_spec : ∀ {l : List Nat}, nodupB l = true → l.Nodup
  | [], _ => List.nodup_nil
  | x :: r, h => by
    simp only [nodupB, Bool.and_eq_true, Bool.not_eq_true'] at h
    exact List.nodup_cons.2 ⟨memB_spec h.1, nodupB_spec h.2⟩

/-- The local blocks at a loop's head: their types stay; the unchanged stay; the changed hold what the values say. -/
theorem setLs_get {S' : St} : ∀ {chgL : List (Nat × List CK)} {L : List (TypeId × List Value)} {ys : List Value}, (chgL.map (·.1)).Nodup → valsL S' chgL = some ys → (∀ (id : Nat) (t : TypeId) (cs : List Value), L[id]? = some (t, cs) → ∃ cs', S'.L[id]? = some (t, cs')) →
    (setLs L chgL ys).length = L.length ∧
    (∀ (id : Nat), id ∉ chgL.map (·.1) → (setLs L chgL ys)[id]? = L[id]?) ∧
    (∀ (id : Nat) (t : TypeId) (cs : List Value), id ∈ chgL.map (·.1) → (setLs L chgL ys)[id]? = some (t, cs) → S'.L[id]? = some (t, cs))
  | [], L, ys, _, _, _ => ⟨rfl, fun _ _ => rfl, fun id t cs h => by cases h⟩
  | (a, ks) :: r, L, ys, hnd, hv, hty => by
    have hnd' := List.nodup_cons.1 (by simpa using hnd : (a :: r.map (·.1)).Nodup)
    simp only [valsL] at hv
    split at hv
    · rename_i t' cs' l ha hl
      cases hb : Nat.beq cs'.length ks.length with
      | false => rw [hb] at hv; cases hv
      | true =>
        rw [hb] at hv
        simp only [cond_true, Option.some.injEq] at hv
        subst hv
        have hlen : cs'.length = ks.length := Nat.eq_of_beq_eq_true hb
        have ht : (cs' ++ l).take ks.length = cs' := by rw [← hlen]; exact List.take_left
        have hdr : (cs' ++ l).drop ks.length = l := by rw [← hlen]; exact List.drop_left
        simp only [setLs]
        cases hLa : L[a]? with
        | none =>
          simp only [hdr]
          obtain ⟨h1, h2, h3⟩ := setLs_get (L := L) hnd'.2 hl hty
          refine ⟨h1, fun id hid => h2 id (fun h => hid (List.mem_cons_of_mem _ h)), fun id t cs hid hc => ?_⟩
          rcases List.mem_cons.1 hid with rfl | hid
          · rw [h2 _ hnd'.1] at hc
            rw [hLa] at hc; cases hc
          · exact h3 id t cs hid hc
        | some q =>
          obtain ⟨t0, c0⟩ := q
          simp only [ht, hdr]
          have hlt : a < L.length := (List.getElem?_eq_some_iff.1 hLa).1
          obtain ⟨cs1, hs1⟩ := hty a t0 c0 hLa
          rw [ha] at hs1
          simp only [Option.some.injEq, Prod.mk.injEq] at hs1
          obtain ⟨rfl, rfl⟩ := hs1
          obtain ⟨h1, h2, h3⟩ := setLs_get (L := L.set a (t', cs')) hnd'.2 hl (fun id t cs hc => by
            by_cases he : a = id
            · subst he
              rw [List.getElem?_set_self hlt] at hc
              cases hc
              exact ⟨_, ha⟩
            · rw [List.getElem?_set_ne he] at hc
              exact hty id t cs hc)
          refine ⟨by rw [h1]; simp, fun id hid => ?_, fun id t cs hid hc => ?_⟩
          · rw [h2 id (fun h => hid (List.mem_cons_of_mem _ h))]
            exact List.getElem?_set_ne (fun e => hid (by subst e; exact List.mem_cons_self ..))
          · rcases List.mem_cons.1 hid with rfl | hid
            · rw [h2 _ hnd'.1] at hc
              rw [List.getElem?_set_self hlt] at hc
              cases hc
              exact ha
            · exact h3 id t cs hid hc
    · cases hv

structure SpFacts (S : St) (sp : LSpec) (ds : List Nat) : Prop where
  keep : ∀ i ∈ sp.keep, i ∉ ds ∧ i < 4000
  chg : ∀ p ∈ sp.chg, p.1 < 4000
  nd : (sp.chgL.map (·.1)).Nodup
  chgL : ∀ id ∈ sp.chgL.map (·.1), id ∉ S.lk
theorem spOk_facts {S : St} {sp : LSpec} {ds : List Nat} (h : spOk S sp ds = true) : SpFacts S sp ds := by
  simp only [spOk, Bool.and_eq_true, List.all_eq_true, Bool.not_eq_true'] at h
  obtain ⟨⟨⟨⟨h1, h2⟩, _⟩, h4⟩, h5⟩ := h
  refine ⟨fun i hi => ⟨memB_spec (h1 i hi).1, Nat.le_of_ble_eq_true (h1 i hi).2⟩, fun p hp => Nat.le_of_ble_eq_true (h2 p hp).1, nodupB_spec h4, fun id hid => ?_⟩
  obtain ⟨p, hp, rfl⟩ := List.mem_map.1 hid
  have := h5 p hp
  split at this
  · simp only [Bool.and_eq_true, Bool.not_eq_true'] at this
    exact memB_spec this.2
  · cases this

theorem lkAll_mem {S : St} {sp : LSpec} {id : Nat} : id ∈ lkAll S sp ↔ id < S.L.length ∧ id ∉ sp.chgL.map (·.1) := by
  unfold lkAll
  simp only [List.mem_filter, List.mem_range, Bool.not_eq_true']
  refine and_congr_right fun _ => ?_
  constructor
  · exact memB_spec
  · intro h
    rw [Bool.eq_false_iff]
    intro hb
    simp only [memB, List.any_eq_true] at hb
    obtain ⟨y, hy, he⟩ := hb
    exact h (Nat.eq_of_beq_eq_true he ▸ hy)

theorem head_fit {n : Nat} {S S' : St} {sp : LSpec} {ds : List Nat} (hs : SpFacts S sp ds) {a a' : Act} (hf : FitC n S a) (hf' : FitC n S' a') (hfa : FrA ds a a') {xs ys : List Value} (hx : valsS S' sp.chg = some xs) : FitC n (headS S sp (xs ++ ys)) a' := by
  obtain ⟨hxl, hxg⟩ := valsS_get hx
  have htk : (xs ++ ys).take sp.chg.length = xs := by rw [← hxl]; exact List.take_left
  have hget : ∀ i sv, (headS S sp (xs ++ ys)).F.get i = some sv → (∃ (j : Nat) (k : CK) (v : Value), sp.chg[j]? = some (i, k) ∧ xs[j]? = some v ∧ sv = .un (.v v)) ∨ (i ∈ sp.keep ∧ S.F.get i = some sv ∧ ∃ e, sv = .un e) := fun i sv h => by
    simp only [headS, htk] at h
    rcases setVs_get (fun p hp => hs.chg p hp) h with h1 | h1
    · exact .inl h1
    · exact .inr (keepF_get (fun x hx => (hs.keep x hx).2) h1)
  refine ⟨hf'.size, fun i x h => ?_, fun i r pc x h => ?_⟩
  · rcases hget i _ h with ⟨j, k, v, h1, h2, h3⟩ | ⟨h1, h2, _⟩
    · obtain ⟨e, he, hv⟩ := hxg j i k v h1 h2
      have := avl_den hv (hf'.fits i e he)
      cases h3
      exact this
    · have h3 := hf.fits i x h2
      rw [← hfa.2.2 i (hs.keep i h1).1] at h3
      exact EV.den_mono (S := S) (fun _ _ h => h) h3
  · rcases hget i _ h with ⟨j, k, v, h1, h2, h3⟩ | ⟨h1, h2, e, h3⟩ <;> cases h3

theorem take_same {l m : List Nat} {k : Nat} (hk : k ≤ l.length) (h : ∀ (i b : Nat), l[i]? = some b → m[i]? = some b) : m.take k = l.take k := by
  apply List.ext_getElem?
  intro i
  rw [List.getElem?_take, List.getElem?_take]
  by_cases hi : i < k
  · rw [if_pos hi, if_pos hi]
    have hl : i < l.length := Nat.lt_of_lt_of_le hi hk
    rw [h i l[i] (List.getElem?_eq_getElem hl), List.getElem?_eq_getElem hl]
  · rw [if_neg hi, if_neg hi]

theorem head_loc {S S' : St} {sp : LSpec} {w w' wr wr' : World} {ds : List Nat} (hs : SpFacts S sp ds) (hw : WRel S w wr) (hw' : WRel S' w' wr') (hB : ∀ (id b : Nat), S.B[id]? = some b → S'.B[id]? = some b) (hty : ∀ (id : Nat) (t : TypeId) (cs : List Value), S.L[id]? = some (t, cs) → ∃ cs', S'.L[id]? = some (t, cs'))
    (hlk : ∀ id, id < S.L.length → id ∉ sp.chgL.map (·.1) → S'.L[id]? = S.L[id]?) {xs ys : List Value} (hxl : xs.length = sp.chg.length) (hy : valsL S' sp.chgL = some ys) :
    (headS S sp (xs ++ ys)).L.length = S.L.length ∧ ∀ (id : Nat) (t : TypeId) (cs : List Value), (headS S sp (xs ++ ys)).L[id]? = some (t, cs) → ∃ b, S.B[id]? = some b ∧ wr'.heap[b]? = some (Obj.cells cs.toArray t (0, 0)) := by
  have hdr : (xs ++ ys).drop sp.chg.length = ys := by rw [← hxl]; exact List.drop_left
  obtain ⟨h1, h2, h3⟩ := setLs_get (L := S.L) hs.nd hy hty
  have hL : (headS S sp (xs ++ ys)).L = setLs S.L sp.chgL ys := by simp only [headS, hdr]
  rw [hL]
  refine ⟨h1, fun id t cs hc => ?_⟩
  have hid : id < S.L.length := by rw [← h1]; exact (List.getElem?_eq_some_iff.1 hc).1
  have hb : S.B[id]? = some (S.B[id]'(by rw [← hw.len]; exact hid)) := List.getElem?_eq_getElem _
  have hS' : S'.L[id]? = some (t, cs) := by
    by_cases hm : id ∈ sp.chgL.map (·.1)
    · exact h3 id t cs hm hc
    · rw [h2 id hm] at hc
      rw [hlk id hid hm]; exact hc
  obtain ⟨b', hb', hh⟩ := hw'.loc id t cs hS'
  rw [hB _ _ hb] at hb'
  cases hb'
  exact ⟨_, hb, hh⟩

theorem initV_out {S : St} {sp : LSpec} {K : List Value → Prop} (h : initV S sp K) : ∃ xs ys, valsS S sp.chg = some xs ∧ valsL S sp.chgL = some ys ∧ kindsOk sp.ks (xs ++ ys) = true ∧ K (xs ++ ys) := by
  unfold initV at h
  split at h
  · rename_i xs ys hx hy
    cases hk : kindsOk sp.ks (xs ++ ys) with
    | false => rw [hk] at h; exact h.elim
    | true => rw [hk] at h; exact ⟨xs, ys, hx, hy, hk, h⟩
  · exact h.elim

theorem head_FrS {S S' : St} {sp : LSpec} {ds : List Nat} (hs : SpFacts S sp ds) (hwf : WfS S) {vs : List Value} (hL : (headS S sp vs).L.length = S.L.length) (hLt : ∀ (id : Nat) (t : TypeId) (cs : List Value), S.L[id]? = some (t, cs) → ∃ cs', (headS S sp vs).L[id]? = some (t, cs'))
    (hLk : ∀ id, id ∉ sp.chgL.map (·.1) → (headS S sp vs).L[id]? = S.L[id]?) (hfr : FrS (headS S sp vs) S') : FrS S { S' with lk := S.lk } ∧ (∀ id, id < S.L.length → id ∉ sp.chgL.map (·.1) → S'.L[id]? = S.L[id]?) := by
  have h2 : ∀ id, id < S.L.length → id ∉ sp.chgL.map (·.1) → S'.L[id]? = S.L[id]? := fun id hid hm => by
    have := hfr.lk id (lkAll_mem.2 ⟨hid, hm⟩)
    rw [this.2, hLk id hm]
  refine ⟨⟨fun id b hb => hfr.B id b hb, fun id t cs hc => ?_, fun id hid => ⟨hid, h2 id (hwf.lk id hid) (fun hm => hs.chgL id hm hid)⟩⟩, h2⟩
  obtain ⟨cs1, h1⟩ := hLt id t cs hc
  exact hfr.ty id t cs1 h1

/-! ### Joins -/
theorem newOf_get {S : St} : ∀ {l : List (TypeId × List CK)} {n : Nat} {zs : List Value}, newOf S n l = some zs → (newLs l zs).length = l.length ∧ (∀ j, j < l.length → n + j < S.L.length) ∧ ∀ j, (newLs l zs)[j]? = if j < l.length then S.L[n + j]? else none
  | [], n, zs, h => ⟨rfl, fun j hj => absurd hj (Nat.not_lt_zero j), fun j => by simp [newLs]⟩
  | (t, ks) :: r, n, zs, h => by
    simp only [newOf] at h
    split at h
    · rename_i t' cs l hL hl
      cases hb : Nat.beq t' t && Nat.beq cs.length ks.length with
      | false => rw [hb] at h; cases h
      | true =>
        rw [hb] at h
        simp only [cond_true, Option.some.injEq] at h
        subst h
        simp only [Bool.and_eq_true] at hb
        have h1 := Nat.eq_of_beq_eq_true hb.1
        have h2 := Nat.eq_of_beq_eq_true hb.2
        subst h1
        obtain ⟨g1, g2, g3⟩ := newOf_get hl
        have ht : (cs ++ l).take ks.length = cs := by rw [← h2]; exact List.take_left
        have hdr : (cs ++ l).drop ks.length = l := by rw [← h2]; exact List.drop_left
        simp only [newLs, ht, hdr]
        refine ⟨by simp [g1], fun j hj => ?_, fun j => ?_⟩
        · cases j with
          | zero => exact (List.getElem?_eq_some_iff.1 hL).1
          | succ j => have := g2 j (by simpa using hj); omega
        · cases j with
          | zero => simp [hL]
          | succ j =>
            have := g3 j
            simp only [List.getElem?_cons_succ, List.length_cons]
            rw [this]
            have e : n + 1 + j = n + (j + 1) := by omega
            rw [e]
            by_cases hj : j < r.length
            · rw [if_pos hj, if_pos (by omega)]
            · rw [if_neg hj, if_neg (by omega)]
    · cases h
theorem ptrOk_spec {S : St} {n k : Nat} {l : List (Nat × Nat)} (h : ptrOk S n k l = true) : ∀ p ∈ l, p.1 < 4000 ∧ p.2 < k ∧ S.F.get p.1 = some (.un (.loc (n + p.2) 0)) := fun p hp => by
  simp only [ptrOk, List.all_eq_true, Bool.and_eq_true] at h
  obtain ⟨⟨h1, h2⟩, h3⟩ := h p hp
  refine ⟨Nat.le_of_ble_eq_true h1, Nat.le_of_ble_eq_true h2, ?_⟩
  split at h3
  · rename_i id hid
    rw [hid, Nat.eq_of_beq_eq_true h3]
  · cases h3
theorem setPs_get {F : PT SV} {n : Nat} : ∀ {l : List (Nat × Nat)} {i : Nat} {sv : SV}, (∀ p ∈ l, p.1 < 4000) → (setPs F n l).get i = some sv → (∃ j, (i, j) ∈ l ∧ sv = .un (.loc (n + j) 0)) ∨ F.get i = some sv
  | [], i, sv, _, h => .inr h
  | (a, j) :: r, i, sv, hl, h => by
    have hr : ∀ p ∈ r, p.1 < 4000 := fun x hx => hl x (List.mem_cons_of_mem _ hx)
    simp only [setPs] at h
    rw [PT.get_set _ 12 _ _ _ (by have h1 := hl (a, j) (List.mem_cons_self ..); show @LT.lt Nat _ (a + 1) (2 ^ 12); simp only at h1; omega)] at h
    by_cases hk : a = i
    · subst hk
      rw [if_pos rfl] at h
      simp only [Option.some.injEq] at h
      exact .inl ⟨j, List.mem_cons_self .., h.symm⟩
    · rw [if_neg hk] at h
      rcases setPs_get hr h with ⟨q, h1, h2⟩ | h1
      · exact .inl ⟨q, List.mem_cons_of_mem _ h1, h2⟩
      · exact .inr h1
theorem joinV_out {S S' : St} {sp : LSpec} {K : List Value → List Nat → Prop} (h : joinV S S' sp K) : ∃ xs ys zs, valsS S' sp.chg = some xs ∧ valsL S' sp.chgL = some ys ∧ newOf S' S.L.length sp.newL = some zs ∧ kindsOk sp.ks (xs ++ ys) = true ∧ kindsOk sp.nks zs = true ∧ ptrOk S' S.L.length sp.newL.length sp.ptr = true ∧
    K (xs ++ ys ++ zs) ((S'.B.drop S.B.length).take sp.newL.length) := by
  unfold joinV at h
  split at h
  · rename_i zs hz
    cases hb : kindsOk sp.nks zs && ptrOk S' S.L.length sp.newL.length sp.ptr with
    | false => rw [hb] at h; exact h.elim
    | true =>
      rw [hb] at h
      simp only [cond_true] at h
      simp only [Bool.and_eq_true] at hb
      obtain ⟨xs, ys, h1, h2, h3, h4⟩ := initV_out h
      exact ⟨xs, ys, zs, h1, h2, hz, h3, hb.1, hb.2, h4⟩
  · exact h.elim
theorem prefix_of {l m : List Nat} (h : ∀ (i b : Nat), l[i]? = some b → m[i]? = some b) : m.take l.length = l := by
  have := take_same (Nat.le_refl l.length) h
  rw [this, List.take_length]
/-- The joined state fits what lies behind any of the ways. -/
theorem join_mk {n : Nat} {S S' : St} {sp : LSpec} {w w' wr wr' : World} {ds : List Nat} {a a' : Act} (hs : SpFacts S sp ds) (hf : FitC n S a) (hw : WRel S w wr) (hwf : WfS S) (hf' : FitC n S' a') (hw' : WRel S' w' wr') (hfa : FrA ds a a') (hfr : FrS { S with lk := lkAll S sp } S')
    {xs ys zs : List Value} (hx : valsS S' sp.chg = some xs) (hy : valsL S' sp.chgL = some ys) (hz : newOf S' S.L.length sp.newL = some zs) (hp : ptrOk S' S.L.length sp.newL.length sp.ptr = true) :
    ((S'.B.drop S.B.length).take sp.newL.length).length = sp.newL.length ∧ (∀ b ∈ S.B ++ (S'.B.drop S.B.length).take sp.newL.length, b ∈ S'.B) ∧
    FitC n (joinS S sp (xs ++ ys) zs ((S'.B.drop S.B.length).take sp.newL.length)) a' ∧ WfS (joinS S sp (xs ++ ys) zs ((S'.B.drop S.B.length).take sp.newL.length)) ∧ FrS S (joinS S sp (xs ++ ys) zs ((S'.B.drop S.B.length).take sp.newL.length)) ∧
    WRel (joinS S sp (xs ++ ys) zs ((S'.B.drop S.B.length).take sp.newL.length)).aged wr' wr' ∧ (w' = w → S'.old = S.old → WRel (joinS S sp (xs ++ ys) zs ((S'.B.drop S.B.length).take sp.newL.length)) w wr') := by
  obtain ⟨n1, n2, n3⟩ := newOf_get hz
  have hB : ∀ (id b : Nat), S.B[id]? = some b → S'.B[id]? = some b := hfr.B
  have hpre := prefix_of hB
  have hlenS := hw.len
  have hlenS' := hw'.len
  have hk : S.B.length + sp.newL.length ≤ S'.B.length := by
    rcases Nat.eq_zero_or_pos sp.newL.length with h0 | h0
    · have : S.B.length ≤ S'.B.length := by
        have := congrArg List.length hpre
        rw [List.length_take] at this
        omega
      omega
    · have := n2 (sp.newL.length - 1) (by omega)
      omega
  have hbl : ((S'.B.drop S.B.length).take sp.newL.length).length = sp.newL.length := by rw [List.length_take, List.length_drop]; omega
  have hGB : S.B ++ (S'.B.drop S.B.length).take sp.newL.length = S'.B.take (S.B.length + sp.newL.length) := by
    rw [List.take_add, hpre]
  have hGget : ∀ (id b : Nat), id < S.B.length + sp.newL.length → S'.B[id]? = some b → (S.B ++ (S'.B.drop S.B.length).take sp.newL.length)[id]? = some b := fun id b hid hb => by
    rw [hGB, List.getElem?_take, if_pos hid]; exact hb
  have hGback : ∀ (id b : Nat), (S.B ++ (S'.B.drop S.B.length).take sp.newL.length)[id]? = some b → S'.B[id]? = some b := fun id b hb => by
    rw [hGB, List.getElem?_take] at hb
    split at hb
    · exact hb
    · cases hb
  obtain ⟨t1, t2⟩ := setLs_get (L := S.L) hs.nd hy hfr.ty
  have hlk : ∀ id, id < S.L.length → id ∉ sp.chgL.map (·.1) → S'.L[id]? = S.L[id]? := fun id hid hm => (hfr.lk id (lkAll_mem.2 ⟨hid, hm⟩)).2
  have hxl := (valsS_get hx).1
  obtain ⟨g1, g2⟩ := head_loc hs hw hw' hB hfr.ty hlk hxl hy
  have hhf := head_fit (ys := ys) hs hf hf' hfa hx
  have hdr : (xs ++ ys).drop sp.chg.length = ys := by rw [← hxl]; exact List.drop_left
  have hL : (headS S sp (xs ++ ys)).L = setLs S.L sp.chgL ys := by simp only [headS, hdr]
  have hpp := ptrOk_spec hp
  have hfit : FitC n (joinS S sp (xs ++ ys) zs ((S'.B.drop S.B.length).take sp.newL.length)) a' := by
    have hmono : ∀ (id b : Nat), (headS S sp (xs ++ ys)).B[id]? = some b → (joinS S sp (xs ++ ys) zs ((S'.B.drop S.B.length).take sp.newL.length)).B[id]? = some b := fun id b hb => by
      have hb' : S.B[id]? = some b := hb
      exact hGget id b (by have := (List.getElem?_eq_some_iff.1 hb').1; omega) (hB id b hb')
    refine ⟨hhf.size, fun i x h => ?_, fun i r pc x h => ?_⟩
    · rcases setPs_get (fun p hp => (hpp p hp).1) h with ⟨j, h1, h2⟩ | h1
      · obtain ⟨_, hj, hF⟩ := hpp (i, j) h1
        have hd := hf'.fits i _ hF
        cases h2
        obtain ⟨b, hb, hv⟩ := hd
        exact ⟨b, hGget _ _ (by simp only at hj; omega) hb, hv⟩
      · exact EV.den_mono (S := headS S sp (xs ++ ys)) hmono (hhf.fits i x h1)
    · rcases setPs_get (fun p hp => (hpp p hp).1) h with ⟨j, h1, h2⟩ | h1
      · cases h2
      · exact hhf.old i r pc x h1
  have hloc : ∀ (id : Nat) (t : TypeId) (cs : List Value), ((headS S sp (xs ++ ys)).L ++ newLs sp.newL zs)[id]? = some (t, cs) → ∃ b, (S.B ++ (S'.B.drop S.B.length).take sp.newL.length)[id]? = some b ∧ wr'.heap[b]? = some (Obj.cells cs.toArray t (0, 0)) := fun id t cs hc => by
    by_cases hid : id < S.L.length
    · rw [List.getElem?_append_left (by rw [g1]; exact hid)] at hc
      obtain ⟨b, h1, h2⟩ := g2 id t cs hc
      exact ⟨b, hGget id b (by omega) (hB id b h1), h2⟩
    · rw [List.getElem?_append_right (by rw [g1]; omega), g1, n3] at hc
      split at hc
      · rename_i hlt
        have e : S.L.length + (id - S.L.length) = id := by omega
        rw [e] at hc
        obtain ⟨b, h1, h2⟩ := hw'.loc id t cs hc
        exact ⟨b, hGget id b (by omega) h1, h2⟩
      · cases hc
  have hlen : ((headS S sp (xs ++ ys)).L ++ newLs sp.newL zs).length = (S.B ++ (S'.B.drop S.B.length).take sp.newL.length).length := by
    rw [List.length_append, List.length_append, g1, n1, hbl, hlenS]
  have hnd : (S.B ++ (S'.B.drop S.B.length).take sp.newL.length).Nodup := by
    rw [hGB]; exact hw'.dist.sublist (List.take_sublist _ _)
  refine ⟨hbl, fun b hb => by rw [hGB] at hb; exact List.mem_of_mem_take hb, hfit, ⟨?_, fun id hid => ?_⟩, ⟨fun id b hb => ?_, fun id t cs hc => ?_, fun id hid => ⟨hid, ?_⟩⟩, ⟨?_, hloc, hlen, hnd, fun id b hid hb => ?_⟩, fun e1 e2 => ⟨?_, hloc, hlen, hnd, fun id b hid hb => ?_⟩⟩
  · show S.old ≤ (S.B ++ (S'.B.drop S.B.length).take sp.newL.length).length
    have := hwf.old
    rw [List.length_append]; omega
  · show id < ((headS S sp (xs ++ ys)).L ++ newLs sp.newL zs).length
    have := hwf.lk id hid
    rw [List.length_append, g1]; omega
  · exact hGget id b (by have := (List.getElem?_eq_some_iff.1 hb).1; omega) (hB id b hb)
  · have hid : id < S.L.length := (List.getElem?_eq_some_iff.1 hc).1
    obtain ⟨u1, u2⟩ : (∀ (id : Nat) (t : TypeId) (cs : List Value), id ∈ sp.chgL.map (·.1) → (setLs S.L sp.chgL ys)[id]? = some (t, cs) → S'.L[id]? = some (t, cs)) ∧ True := ⟨t2.2, trivial⟩
    have hlt : id < (setLs S.L sp.chgL ys).length := by rw [t1]; exact hid
    have hg : (setLs S.L sp.chgL ys)[id]? = some (((setLs S.L sp.chgL ys)[id]).1, ((setLs S.L sp.chgL ys)[id]).2) := List.getElem?_eq_getElem hlt
    show ∃ cs', ((headS S sp (xs ++ ys)).L ++ newLs sp.newL zs)[id]? = some (t, cs')
    rw [List.getElem?_append_left (by rw [g1]; exact hid), hL]
    by_cases hm : id ∈ sp.chgL.map (·.1)
    · have h4 := u1 id _ _ hm hg
      obtain ⟨cs', h5⟩ := hfr.ty id t cs hc
      rw [h5] at h4
      simp only [Option.some.injEq, Prod.mk.injEq] at h4
      exact ⟨((setLs S.L sp.chgL ys)[id]).2, by rw [hg, ← h4.1]⟩
    · exact ⟨cs, by rw [t2.1 id hm]; exact hc⟩
  · have hlt := hwf.lk id hid
    show ((headS S sp (xs ++ ys)).L ++ newLs sp.newL zs)[id]? = S.L[id]?
    rw [List.getElem?_append_left (by rw [g1]; exact hlt), hL, t2.1 id fun hm => hs.chgL id hm hid]
  · exact ExtX.refl _ _
  · have h1 : id < (S.B ++ (S'.B.drop S.B.length).take sp.newL.length).length := (List.getElem?_eq_some_iff.1 hb).1
    have h2 : (S.B ++ (S'.B.drop S.B.length).take sp.newL.length).length ≤ id := hid
    omega
  · have hbs : (joinS S sp (xs ++ ys) zs ((S'.B.drop S.B.length).take sp.newL.length)).bs = S'.bs := by
      show (S.B ++ (S'.B.drop S.B.length).take sp.newL.length).take S.old = S'.B.take S'.old
      rw [e2]
      have h1 := hwf.old
      rw [hGB, List.take_take, Nat.min_eq_left (by omega)]
    rw [hbs, ← e1]; exact hw'.ext
  · have h1 : S'.B[id]? = some b := hGback id b hb
    have := hw'.fresh id b (by rw [e2]; exact hid) h1
    rw [e1] at this
    exact this
end Go.Proofs.YthojnihahmlboaaGreat
