/- The engine, part 14: 'evC' is sound; functions. -/
import Derived.Test.YthihcdljmddgfaaEng13
namespace Go.Proofs.Ythihcdljmddgfaa
open Go.RowKit

theorem keepF_get {F : PT SV} : ∀ {l : List Nat} {i : Nat} {sv : SV}, (∀ x ∈ l, x < 4000) → (keepF F l).get i = some sv → i ∈ l ∧ F.get i = some sv ∧ ∃ e, sv = .un e
  | [], i, sv, _, h => by simp [keepF, PT.get] at h
  | k :: r, i, sv, hl, h => by
    have hr : ∀ x ∈ r, x < 4000 := fun x hx => hl x (List.mem_cons_of_mem _ hx)
    simp only [keepF] at h
    split at h
    · rename_i e he
      rw [PT.get_set _ 12 _ _ _ (by have h1 := hl k (List.mem_cons_self ..); show @LT.lt Nat _ (k + 1) (2 ^ 12); omega)] at h
      by_cases hk : k = i
      · subst hk
        rw [if_pos rfl] at h
        simp only [Option.some.injEq] at h
        subst h
        exact ⟨List.mem_cons_self .., he, e, rfl⟩
      · rw [if_neg hk] at h
        obtain ⟨h1, h2, h3⟩ := keepF_get hr h
        exact ⟨List.mem_cons_of_mem _ h1, h2, h3⟩
    · obtain ⟨h1, h2, h3⟩ := keepF_get hr h
      exact ⟨List.mem_cons_of_mem _ h1, h2, h3⟩
theorem setVs_get {F : PT SV} : ∀ {chg : List (Nat × CK)} {vs : List Value} {i : Nat} {sv : SV}, (∀ p ∈ chg, p.1 < 4000) → (setVs F chg vs).get i = some sv →
    (∃ (j : Nat) (k : CK) (v : Value), chg[j]? = some (i, k) ∧ vs[j]? = some v ∧ sv = .un (.v v)) ∨ F.get i = some sv
  | [], vs, i, sv, _, h => .inr h
  | (a, k) :: r, [], i, sv, _, h => .inr h
  | (a, k) :: r, v :: vs, i, sv, hl, h => by
    have hr : ∀ p ∈ r, p.1 < 4000 := fun x hx => hl x (List.mem_cons_of_mem _ hx)
    simp only [setVs] at h
    rw [PT.get_set _ 12 _ _ _ (by have h1 := hl (a, k) (List.mem_cons_self ..); show @LT.lt Nat _ (a + 1) (2 ^ 12); simp only at h1; omega)] at h
    by_cases hk : a = i
    · subst hk
      rw [if_pos rfl] at h
      simp only [Option.some.injEq] at h
      exact .inl ⟨0, k, v, rfl, rfl, h.symm⟩
    · rw [if_neg hk] at h
      rcases setVs_get hr h with ⟨j, k', v', h1, h2, h3⟩ | h1
      · exact .inl ⟨j + 1, k', v', by simpa using h1, by simpa using h2, h3⟩
      · exact .inr h1
theorem valsS_get {S : St} : ∀ {chg : List (Nat × CK)} {xs : List Value}, valsS S chg = some xs → xs.length = chg.length ∧ ∀ (j i : Nat) (k : CK) (v : Value), chg[j]? = some (i, k) → xs[j]? = some v → ∃ e, S.F.get i = some (.un e) ∧ avl S e = some v
  | [], xs, h => by simp only [valsS, Option.some.injEq] at h; subst h; exact ⟨rfl, fun j i k v hj => by simp at hj⟩
  | (a, k) :: r, xs, h => by
    simp only [valsS] at h
    split at h
    · rename_i e he
      split at h
      · rename_i x l hx hl
        simp only [Option.some.injEq] at h; subst h
        obtain ⟨h1, h2⟩ := valsS_get hl
        refine ⟨by simp [h1], fun j i k' v hj hv => ?_⟩
        cases j with
        | zero =>
          simp only [List.getElem?_cons_zero, Option.some.injEq, Prod.mk.injEq] at hj hv
          obtain ⟨rfl, rfl⟩ := hj
          subst hv
          exact ⟨e, he, hx⟩
        | succ j => exact h2 j i k' v (by simpa using hj) (by simpa using hv)
      · cases h
    · cases h

theorem nodupB_spec : ∀ {l : List Nat}, nodupB l = true → l.Nodup
  | [], _ => List.nodup_nil
  | x :: r, h => by
    simp only [nodupB, Bool.and_eq_true, Bool.not_eq_true'] at h
    exact List.nodup_cons.2 ⟨memB_spec h.1, nodupB_spec h.2⟩

/-- The local blocks at a loop's head: their types stay; the unchanged stay; the changed hold what the values say. -/
theorem setLs_get {S' : St} : ∀ {chgL : List (Nat × List CK)} {L : List (TypeId × List Value)} {ys : List Value}, (chgL.map (·.1)).Nodup → valsL S' chgL = some ys → (∀ (id : Nat) (t : TypeId) (cs : List Value), L[id]? = some (t, cs) → ∃ cs', S'.L[id]? = some (t, cs')) →
    (setLs L chgL ys).length = L.length ∧
    (∀ (id : Nat), id ∉ chgL.map (·.1) → (setLs L chgL ys)[id]? = L[id]?) ∧
    (∀ (id : Nat) (t : TypeId) (cs : List Value), id ∈ chgL.map (·.1) → (setLs L chgL ys)[id]? = some (t, cs) → S'.L[id]? = some (t, cs))
  | [], L, ys, _, _, _ => ⟨rfl, fun _ _ => rfl, fun id t cs h => by cases h⟩
  | (a, ks) :: r, L, ys, hnd, hv, hty => by
    have hnd' := List.nodup_cons.1 (by simpa using hnd : (a :: r.map (·.1)).Nodup)
    simp only [valsL] at hv
    split at hv
    · rename_i t' cs' l ha hl
      cases hb : Nat.beq cs'.length ks.length with
      | false => rw [hb] at hv; cases hv
      | true =>
        rw [hb] at hv
        simp only [cond_true, Option.some.injEq] at hv
        subst hv
        have hlen : cs'.length = ks.length := Nat.eq_of_beq_eq_true hb
        have ht : (cs' ++ l).take ks.length = cs' := by rw [← hlen]; exact List.take_left
        have hdr : (cs' ++ l).drop ks.length = l := by rw [← hlen]; exact List.drop_left
        simp only [setLs]
        cases hLa : L[a]? with
        | none =>
          simp only [hdr]
          obtain ⟨h1, h2, h3⟩ := setLs_get (L := L) hnd'.2 hl hty
          refine ⟨h1, fun id hid => h2 id (fun h => hid (List.mem_cons_of_mem _ h)), fun id t cs hid hc => ?_⟩
          rcases List.mem_cons.1 hid with rfl | hid
          · rw [h2 _ hnd'.1] at hc
            rw [hLa] at hc; cases hc
          · exact h3 id t cs hid hc
        | some q =>
          obtain ⟨t0, c0⟩ := q
          simp only [ht, hdr]
          have hlt : a < L.length := (List.getElem?_eq_some_iff.1 hLa).1
          obtain ⟨cs1, hs1⟩ := hty a t0 c0 hLa
          rw [ha] at hs1
          simp only [Option.some.injEq, Prod.mk.injEq] at hs1
          obtain ⟨rfl, rfl⟩ := hs1
          obtain ⟨h1, h2, h3⟩ := setLs_get (L := L.set a (t', cs')) hnd'.2 hl (fun id t cs hc => by
            by_cases he : a = id
            · subst he
              rw [List.getElem?_set_self hlt] at hc
              cases hc
              exact ⟨_, ha⟩
            · rw [List.getElem?_set_ne he] at hc
              exact hty id t cs hc)
          refine ⟨by rw [h1]; simp, fun id hid => ?_, fun id t cs hid hc => ?_⟩
          · rw [h2 id (fun h => hid (List.mem_cons_of_mem _ h))]
            exact List.getElem?_set_ne (fun e => hid (by subst e; exact List.mem_cons_self ..))
          · rcases List.mem_cons.1 hid with rfl | hid
            · rw [h2 _ hnd'.1] at hc
              rw [List.getElem?_set_self hlt] at hc
              cases hc
              exact ha
            · exact h3 id t cs hid hc
    · cases hv

structure SpFacts (S : St) (sp : LSpec) (ds : List Nat) : Prop where
  keep : ∀ i ∈ sp.keep, i ∉ ds ∧ i < 4000
  chg : ∀ p ∈ sp.chg, p.1 < 4000
  nd : (sp.chgL.map (·.1)).Nodup
  chgL : ∀ id ∈ sp.chgL.map (·.1), id ∉ S.lk
theorem spOk_facts {S : St} {sp : LSpec} {ds : List Nat} (h : spOk S sp ds = true) : SpFacts S sp ds := by
  simp only [spOk, Bool.and_eq_true, List.all_eq_true, Bool.not_eq_true'] at h
  obtain ⟨⟨⟨⟨h1, h2⟩, _⟩, h4⟩, h5⟩ := h
  refine ⟨fun i hi => ⟨memB_spec (h1 i hi).1, Nat.le_of_ble_eq_true (h1 i hi).2⟩, fun p hp => Nat.le_of_ble_eq_true (h2 p hp).1, nodupB_spec h4, fun id hid => ?_⟩
  obtain ⟨p, hp, rfl⟩ := List.mem_map.1 hid
  have := h5 p hp
  split at this
  · simp only [Bool.and_eq_true, Bool.not_eq_true'] at this
    exact memB_spec this.2
  · cases this

theorem lkAll_mem {S : St} {sp : LSpec} {id : Nat} : id ∈ lkAll S sp ↔ id < S.L.length ∧ id ∉ sp.chgL.map (·.1) := by
  unfold lkAll
  simp only [List.mem_filter, List.mem_range, Bool.not_eq_true']
  refine and_congr_right fun _ => ?_
  constructor
  · exact memB_spec
  · intro h
    rw [Bool.eq_false_iff]
    intro hb
    simp only [memB, List.any_eq_true] at hb
    obtain ⟨y, hy, he⟩ := hb
    exact h (Nat.eq_of_beq_eq_true he ▸ hy)

theorem head_fit {n : Nat} {S S' : St} {sp : LSpec} {ds : List Nat} (hs : SpFacts S sp ds) {a a' : Act} (hf : FitC n S a) (hf' : FitC n S' a') (hfa : FrA ds a a') {xs ys : List Value} (hx : valsS S' sp.chg = some xs) : FitC n (headS S sp (xs ++ ys)) a' := by
  obtain ⟨hxl, hxg⟩ := valsS_get hx
  have htk : (xs ++ ys).take sp.chg.length = xs := by rw [← hxl]; exact List.take_left
  have hget : ∀ i sv, (headS S sp (xs ++ ys)).F.get i = some sv → (∃ (j : Nat) (k : CK) (v : Value), sp.chg[j]? = some (i, k) ∧ xs[j]? = some v ∧ sv = .un (.v v)) ∨ (i ∈ sp.keep ∧ S.F.get i = some sv ∧ ∃ e, sv = .un e) := fun i sv h => by
    simp only [headS, htk] at h
    rcases setVs_get (fun p hp => hs.chg p hp) h with h1 | h1
    · exact .inl h1
    · exact .inr (keepF_get (fun x hx => (hs.keep x hx).2) h1)
  refine ⟨hf'.size, fun i x h => ?_, fun i r pc x h => ?_⟩
  · rcases hget i _ h with ⟨j, k, v, h1, h2, h3⟩ | ⟨h1, h2, _⟩
    · obtain ⟨e, he, hv⟩ := hxg j i k v h1 h2
      have := avl_den hv (hf'.fits i e he)
      cases h3
      exact this
    · have h3 := hf.fits i x h2
      rw [← hfa.2.2 i (hs.keep i h1).1] at h3
      exact EV.den_mono (S := S) (fun _ _ h => h) h3
  · rcases hget i _ h with ⟨j, k, v, h1, h2, h3⟩ | ⟨h1, h2, e, h3⟩ <;> cases h3

theorem take_same {l m : List Nat} {k : Nat} (hk : k ≤ l.length) (h : ∀ (i b : Nat), l[i]? = some b → m[i]? = some b) : m.take k = l.take k := by
  apply List.ext_getElem?
  intro i
  rw [List.getElem?_take, List.getElem?_take]
  by_cases hi : i < k
  · rw [if_pos hi, if_pos hi]
    have hl : i < l.length := Nat.lt_of_lt_of_le hi hk
    rw [h i l[i] (List.getElem?_eq_getElem hl), List.getElem?_eq_getElem hl]
  · rw [if_neg hi, if_neg hi]

theorem head_loc {S S' : St} {sp : LSpec} {w w' wr wr' : World} {ds : List Nat} (hs : SpFacts S sp ds) (hw : WRel S w wr) (hw' : WRel S' w' wr') (hB : ∀ (id b : Nat), S.B[id]? = some b → S'.B[id]? = some b) (hty : ∀ (id : Nat) (t : TypeId) (cs : List Value), S.L[id]? = some (t, cs) → ∃ cs', S'.L[id]? = some (t, cs'))
    (hlk : ∀ id, id < S.L.length → id ∉ sp.chgL.map (·.1) → S'.L[id]? = S.L[id]?) {xs ys : List Value} (hxl : xs.length = sp.chg.length) (hy : valsL S' sp.chgL = some ys) :
    (headS S sp (xs ++ ys)).L.length = S.L.length ∧ ∀ (id : Nat) (t : TypeId) (cs : List Value), (headS S sp (xs ++ ys)).L[id]? = some (t, cs) → ∃ b, S.B[id]? = some b ∧ wr'.heap[b]? = some (Obj.cells cs.toArray t (0, 0)) := by
  have hdr : (xs ++ ys).drop sp.chg.length = ys := by rw [← hxl]; exact List.drop_left
  obtain ⟨h1, h2, h3⟩ := setLs_get (L := S.L) hs.nd hy hty
  have hL : (headS S sp (xs ++ ys)).L = setLs S.L sp.chgL ys := by simp only [headS, hdr]
  rw [hL]
  refine ⟨h1, fun id t cs hc => ?_⟩
  have hid : id < S.L.length := by rw [← h1]; exact (List.getElem?_eq_some_iff.1 hc).1
  have hb : S.B[id]? = some (S.B[id]'(by rw [← hw.len]; exact hid)) := List.getElem?_eq_getElem _
  have hS' : S'.L[id]? = some (t, cs) := by
    by_cases hm : id ∈ sp.chgL.map (·.1)
    · exact h3 id t cs hm hc
    · rw [h2 id hm] at hc
      rw [hlk id hid hm]; exact hc
  obtain ⟨b', hb', hh⟩ := hw'.loc id t cs hS'
  rw [hB _ _ hb] at hb'
  cases hb'
  exact ⟨_, hb, hh⟩

theorem initV_out {S : St} {sp : LSpec} {K : List Value → Prop} (h : initV S sp K) : ∃ xs ys, valsS S sp.chg = some xs ∧ valsL S sp.chgL = some ys ∧ kindsOk sp.ks (xs ++ ys) = true ∧ K (xs ++ ys) := by
  unfold initV at h
  split at h
  · rename_i xs ys hx hy
    cases hk : kindsOk sp.ks (xs ++ ys) with
    | false => rw [hk] at h; exact h.elim
    | true => rw [hk] at h; exact ⟨xs, ys, hx, hy, hk, h⟩
  · exact h.elim

theorem head_FrS {S S' : St} {sp : LSpec} {ds : List Nat} (hs : SpFacts S sp ds) (hwf : WfS S) {vs : List Value} (hL : (headS S sp vs).L.length = S.L.length) (hLt : ∀ (id : Nat) (t : TypeId) (cs : List Value), S.L[id]? = some (t, cs) → ∃ cs', (headS S sp vs).L[id]? = some (t, cs'))
    (hLk : ∀ id, id ∉ sp.chgL.map (·.1) → (headS S sp vs).L[id]? = S.L[id]?) (hfr : FrS (headS S sp vs) S') : FrS S { S' with lk := S.lk } ∧ (∀ id, id < S.L.length → id ∉ sp.chgL.map (·.1) → S'.L[id]? = S.L[id]?) := by
  have h2 : ∀ id, id < S.L.length → id ∉ sp.chgL.map (·.1) → S'.L[id]? = S.L[id]? := fun id hid hm => by
    have := hfr.lk id (lkAll_mem.2 ⟨hid, hm⟩)
    rw [this.2, hLk id hm]
  refine ⟨⟨fun id b hb => hfr.B id b hb, fun id t cs hc => ?_, fun id hid => ⟨hid, h2 id (hwf.lk id hid) (fun hm => hs.chgL id hm hid)⟩⟩, h2⟩
  obtain ⟨cs1, h1⟩ := hLt id t cs hc
  exact hfr.ty id t cs1 h1
end Go.Proofs.Ythihcdljmddgfaa
