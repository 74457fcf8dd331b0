/- Printed by wip/tools/mir.py: the mirror functions of flat types. -/
import Derived.Test.YthojnihahmlboaaGreatOwn
import Derived.Test.YthojnihahmlboaaGreatOpG
import Derived.Test.YthojnihahmlboaaGreatVc
namespace Go.Proofs.YthojnihahmlboaaGreat
open Go.RowKit
set_option linter.unusedVariables false
set_option linter.unusedSimpArgs false
set_option maxRecDepth 10000
/-! ### Int -/
theorem k_szIntS {o : Option Addr} {n c : Nat} {left : Int} {w : World} {bs : List Nat} (hn : n ≤ maxLen) (hl : 0 ≤ left) (hl2 : left ≤ 1048576) : PureX bs Tryz.prog fn_laws_szIntS #[.slice o n c, .int .i64 left] w (.int .i64 (szN n left)) :=
  p_laws_szIntS o n c left fun wr hx => by
    have := maxLen_le
    exact ⟨⟨by omega, by omega⟩, fun h => by rw [szN, if_pos (of_decide_eq_true h)], fun h => by rw [szN, if_neg (of_decide_eq_false h)]⟩
theorem k_eqIntS {a b : List Int} {aO bO : Option Addr} {aC bC : Nat} {w : World} {bs : List Nat} (ha : RdI bs w aO a) (hb : RdI bs w bO b) (ha9 : a.length ≤ maxLen) : PureX bs Tryz.prog fn_laws_eqIntS #[.slice aO a.length aC, .slice bO b.length bC] w (.bool (decide (a = b))) :=
  p_laws_eqIntS aO a.length aC bO b.length bC fun wr hx => by
    have ha := (ha.ext hx).less (cs := []) (by simp)
    have hb := (hb.ext hx).less (cs := []) (by simp)
    refine ⟨fun h => ?_, fun h => ?_⟩
    · have h : a.length ≠ b.length := by simpa [Int.ofNat_inj] using h
      rw [decide_eq_false fun e => h (by rw [e])]
    · have hl : a.length = b.length := by simpa [Int.ofNat_inj] using h
      refine loop1 a.length 0 rfl (fun k => k ≤ a.length ∧ ∀ j : Nat, j < k → gi a (j : Int) = gi b (j : Int)) ⟨Nat.zero_le _, fun j hj => absurd hj (Nat.not_lt_zero j)⟩ fun k ⟨hk, hI⟩ => ⟨fun hlt => ?_, fun hge => ?_⟩
      · have hlt := of_decide_eq_true hlt
        refine ⟨ha.ix encI_c (by omega) hlt, _, ha k (by omega) hlt, hb.ix encI_c (by omega) (by omega), _, hb k (by omega) (by omega), fun hne => ?_, fun heq => ⟨inR_nat hlt ha9, loop1_next (by omega) ?_⟩⟩
        · have hne : gi a (k : Int) ≠ gi b (k : Int) := by simpa using hne
          rw [decide_eq_false fun e => hne (by rw [e])]
        · have heq : gi a (k : Int) = gi b (k : Int) := by simpa using heq
          exact ⟨by omega, fun j hj => by
            by_cases hjk : j < k
            · exact hI j hjk
            · have : j = k := by omega
              subst this; exact heq⟩
      · have hge := of_decide_eq_false hge
        have hk : k = a.length := by omega
        subst hk
        rw [decide_eq_true (gi_ext hl hI)]
theorem k_toIntS {l : List Int} {o : Option Addr} {c : Nat} {w : World} (h : RdI [] w o l) (hl : l.length ≤ 1048576) :
    Calls Tryz.prog fn_laws_toIntS #[.slice o l.length c] w fun e w' => ∃ o' c', e = .returned (.slice o' l.length c') ∧ Own encI 1 ty_int w.heap.size w' o' c' l ∧ ExtX [] w w' := by
  refine (e_laws_toIntS o l.length c (R := fun v w' => ∃ o' c', v = .slice o' l.length c' ∧ Own encI 1 ty_int w.heap.size w' o' c' l ∧ ExtX [] w w') ?_).mono fun e w' ⟨v, he, o', c', hv, h1, h2⟩ => ⟨o', c', by rw [he, hv], h1, h2⟩
  have hm := maxLen_big
  refine fun wr hx _ => ⟨_, _, _, _, run_mk elt_Int u_sl_int l.length (by omega) (by omega) wr, kept_nil, ?_⟩
  refine loop1w l.length 0 rfl (fun k w1 => k ≤ l.length ∧ Own encI 1 ty_int wr.heap.size w1 (some ⟨wr.heap.size, 0, none⟩) l.length (l.take k ++ List.replicate (l.length - k) 0) ∧ ExtX [] wr w1) (fun w1 hx1 _ => ⟨Nat.zero_le _, by simpa using (own_made (enc := encI) elt_Int.len ty_int l.length 0 wr).ext0 hx1, (ext_alloc wr _).trans hx1⟩) fun k w1 _ ⟨hk, hO, hX⟩ => ⟨fun hlt => ?_, fun hge => ?_⟩
  · have hlt := of_decide_eq_true hlt
    have hr := (h.ext hx).ext hX
    have hlen : (l.take k ++ List.replicate (l.length - k) 0).length = l.length := by simp; omega
    have hi : ((k : Int)) < ((l.take k ++ List.replicate (l.length - k) 0).length : Int) := by rw [hlen]; exact hlt
    refine ⟨hr.ix encI_c (by omega) hlt, _, hr k (by omega) hlt, by have := hO.ix (i := (k : Int)) (by omega) hi; rwa [hlen] at this, hO.wr elt_Int.len (by simp) (by omega) hi (j := 0) (by omega), inR_nat hlt (by omega), fun w2 hx2 _ => loop1w_next (by omega) ⟨by omega, ?_, ?_⟩⟩
    · have := (hO.sto elt_Int.len (i := (k : Int)) (by omega) hi (j := 0) (vs := encI (gi l k)) (x := gi l k) (by rw [List.take_zero, List.nil_append, List.drop_eq_nil_iff.2 (by rw [Nat.zero_add, elt_Int.len, elt_Int.len]; exact Nat.le_refl _), List.append_nil]) (by rw [Nat.zero_add, elt_Int.len]; exact Nat.le_refl _)).ext0 hx2
      rwa [Int.toNat_natCast, fill_step l k (by omega)] at this
    · exact (hO.stoB _ _ hX (Nat.le_refl _)).trans hx2
  · have hge := of_decide_eq_false hge
    have hk : k = l.length := by omega
    subst hk
    simp only [List.take_length, Nat.sub_self, List.replicate_zero, List.append_nil] at hO
    exact fun w2 hx2 => ⟨_, _, rfl, (hO.ext0 hx2).mono hx.size, (hx.trans hX).trans hx2⟩
/-! ### Bool -/
theorem k_szBoolS {o : Option Addr} {n c : Nat} {left : Int} {w : World} {bs : List Nat} (hn : n ≤ maxLen) (hl : 0 ≤ left) (hl2 : left ≤ 1048576) : PureX bs Tryz.prog fn_laws_szBoolS #[.slice o n c, .int .i64 left] w (.int .i64 (szN n left)) :=
  p_laws_szBoolS o n c left fun wr hx => by
    have := maxLen_le
    exact ⟨⟨by omega, by omega⟩, fun h => by rw [szN, if_pos (of_decide_eq_true h)], fun h => by rw [szN, if_neg (of_decide_eq_false h)]⟩
theorem k_eqBoolS {a b : List Bool} {aO bO : Option Addr} {aC bC : Nat} {w : World} {bs : List Nat} (ha : RdB bs w aO a) (hb : RdB bs w bO b) (ha9 : a.length ≤ maxLen) : PureX bs Tryz.prog fn_laws_eqBoolS #[.slice aO a.length aC, .slice bO b.length bC] w (.bool (decide (a = b))) :=
  p_laws_eqBoolS aO a.length aC bO b.length bC fun wr hx => by
    have ha := (ha.ext hx).less (cs := []) (by simp)
    have hb := (hb.ext hx).less (cs := []) (by simp)
    refine ⟨fun h => ?_, fun h => ?_⟩
    · have h : a.length ≠ b.length := by simpa [Int.ofNat_inj] using h
      rw [decide_eq_false fun e => h (by rw [e])]
    · have hl : a.length = b.length := by simpa [Int.ofNat_inj] using h
      refine loop1 a.length 0 rfl (fun k => k ≤ a.length ∧ ∀ j : Nat, j < k → gi a (j : Int) = gi b (j : Int)) ⟨Nat.zero_le _, fun j hj => absurd hj (Nat.not_lt_zero j)⟩ fun k ⟨hk, hI⟩ => ⟨fun hlt => ?_, fun hge => ?_⟩
      · have hlt := of_decide_eq_true hlt
        refine ⟨ha.ix encB_c (by omega) hlt, _, ha k (by omega) hlt, hb.ix encB_c (by omega) (by omega), _, hb k (by omega) (by omega), fun hne => ?_, fun heq => ⟨inR_nat hlt ha9, loop1_next (by omega) ?_⟩⟩
        · have hne : gi a (k : Int) ≠ gi b (k : Int) := by simpa using hne
          rw [decide_eq_false fun e => hne (by rw [e])]
        · have heq : gi a (k : Int) = gi b (k : Int) := by simpa using heq
          exact ⟨by omega, fun j hj => by
            by_cases hjk : j < k
            · exact hI j hjk
            · have : j = k := by omega
              subst this; exact heq⟩
      · have hge := of_decide_eq_false hge
        have hk : k = a.length := by omega
        subst hk
        rw [decide_eq_true (gi_ext hl hI)]
theorem k_toBoolS {l : List Bool} {o : Option Addr} {c : Nat} {w : World} (h : RdB [] w o l) (hl : l.length ≤ 1048576) :
    Calls Tryz.prog fn_laws_toBoolS #[.slice o l.length c] w fun e w' => ∃ o' c', e = .returned (.slice o' l.length c') ∧ Own encB 1 ty_bool w.heap.size w' o' c' l ∧ ExtX [] w w' := by
  refine (e_laws_toBoolS o l.length c (R := fun v w' => ∃ o' c', v = .slice o' l.length c' ∧ Own encB 1 ty_bool w.heap.size w' o' c' l ∧ ExtX [] w w') ?_).mono fun e w' ⟨v, he, o', c', hv, h1, h2⟩ => ⟨o', c', by rw [he, hv], h1, h2⟩
  have hm := maxLen_big
  refine fun wr hx _ => ⟨_, _, _, _, run_mk elt_Bool u_sl_bool l.length (by omega) (by omega) wr, kept_nil, ?_⟩
  refine loop1w l.length 0 rfl (fun k w1 => k ≤ l.length ∧ Own encB 1 ty_bool wr.heap.size w1 (some ⟨wr.heap.size, 0, none⟩) l.length (l.take k ++ List.replicate (l.length - k) false) ∧ ExtX [] wr w1) (fun w1 hx1 _ => ⟨Nat.zero_le _, by simpa using (own_made (enc := encB) elt_Bool.len ty_bool l.length false wr).ext0 hx1, (ext_alloc wr _).trans hx1⟩) fun k w1 _ ⟨hk, hO, hX⟩ => ⟨fun hlt => ?_, fun hge => ?_⟩
  · have hlt := of_decide_eq_true hlt
    have hr := (h.ext hx).ext hX
    have hlen : (l.take k ++ List.replicate (l.length - k) false).length = l.length := by simp; omega
    have hi : ((k : Int)) < ((l.take k ++ List.replicate (l.length - k) false).length : Int) := by rw [hlen]; exact hlt
    refine ⟨hr.ix encB_c (by omega) hlt, _, hr k (by omega) hlt, by have := hO.ix (i := (k : Int)) (by omega) hi; rwa [hlen] at this, hO.wr elt_Bool.len (by simp) (by omega) hi (j := 0) (by omega), inR_nat hlt (by omega), fun w2 hx2 _ => loop1w_next (by omega) ⟨by omega, ?_, ?_⟩⟩
    · have := (hO.sto elt_Bool.len (i := (k : Int)) (by omega) hi (j := 0) (vs := encB (gi l k)) (x := gi l k) (by rw [List.take_zero, List.nil_append, List.drop_eq_nil_iff.2 (by rw [Nat.zero_add, elt_Bool.len, elt_Bool.len]; exact Nat.le_refl _), List.append_nil]) (by rw [Nat.zero_add, elt_Bool.len]; exact Nat.le_refl _)).ext0 hx2
      rwa [Int.toNat_natCast, fill_step l k (by omega)] at this
    · exact (hO.stoB _ _ hX (Nat.le_refl _)).trans hx2
  · have hge := of_decide_eq_false hge
    have hk : k = l.length := by omega
    subst hk
    simp only [List.take_length, Nat.sub_self, List.replicate_zero, List.append_nil] at hO
    exact fun w2 hx2 => ⟨_, _, rfl, (hO.ext0 hx2).mono hx.size, (hx.trans hX).trans hx2⟩
/-! ### Shelf -/
theorem elt_Shelf : Elt Tryz.prog encS 5 ty_impl_Shelf 40 (⟨0, false, 0, 0, 0⟩ : Shf) := elt_of (by kernel_rfl) fun _ => rfl
theorem u_sl_impl_Shelf : Tryz.prog.underlying ty_sl_impl_Shelf = some (.slice ty_impl_Shelf) := by kernel_rfl
theorem k_szShelfS {o : Option Addr} {n c : Nat} {left : Int} {w : World} {bs : List Nat} (hn : n ≤ maxLen) (hl : 0 ≤ left) (hl2 : left ≤ 1048576) : PureX bs Tryz.prog fn_laws_szShelfS #[.slice o n c, .int .i64 left] w (.int .i64 (szN n left)) :=
  p_laws_szShelfS o n c left fun wr hx => by
    have := maxLen_le
    exact ⟨⟨by omega, by omega⟩, fun h => by rw [szN, if_pos (of_decide_eq_true h)], fun h => by rw [szN, if_neg (of_decide_eq_false h)]⟩
theorem k_eqShelf {a b : Shf} {w : World} {bs : List Nat} : PureX bs Tryz.prog fn_laws_eqShelf #[.agg (encS a).toArray, .agg (encS b).toArray] w (.bool (decide (a = b))) :=
  p_laws_eqShelf a.floor a.on a.v a.w a.sum b.floor b.on b.v b.w b.sum fun wr hx => by
    cases a; cases b
    intro _ _ _ _
    repeat' (apply And.intro <;> intro h)
    all_goals (congr 1; simp_all)
theorem k_toShelf {a : Shf} {w : World} {bs : List Nat} : PureX bs Tryz.prog fn_laws_toShelf #[.agg (encS a).toArray] w (.agg (encS a).toArray) :=
  p_laws_toShelf a.floor a.on a.v a.w a.sum fun wr hx => by
    intro _ _ _ _ _ _
    rfl
theorem k_eqShelfS {a b : List Shf} {aO bO : Option Addr} {aC bC : Nat} {w : World} {bs : List Nat} (ha : RdS bs w aO a) (hb : RdS bs w bO b) (ha9 : a.length ≤ maxLen) : PureX bs Tryz.prog fn_laws_eqShelfS #[.slice aO a.length aC, .slice bO b.length bC] w (.bool (decide (a = b))) :=
  p_laws_eqShelfS aO a.length aC bO b.length bC fun wr hx => by
    have ha := (ha.ext hx).less (cs := []) (by simp)
    have hb := (hb.ext hx).less (cs := []) (by simp)
    refine ⟨fun h => ?_, fun h => ?_⟩
    · have h : a.length ≠ b.length := by simpa [Int.ofNat_inj] using h
      rw [decide_eq_false fun e => h (by rw [e])]
    · have hl : a.length = b.length := by simpa [Int.ofNat_inj] using h
      refine loop1 a.length 0 rfl (fun k => k ≤ a.length ∧ ∀ j : Nat, j < k → gi a (j : Int) = gi b (j : Int)) ⟨Nat.zero_le _, fun j hj => absurd hj (Nat.not_lt_zero j)⟩ fun k ⟨hk, hI⟩ => ⟨fun hlt => ?_, fun hge => ?_⟩
      · have hlt := of_decide_eq_true hlt
        refine ⟨ha.ix encS_c (by omega) hlt, _, _, _, _, _, ha k (by omega) hlt, hb.ix encS_c (by omega) (by omega), _, _, _, _, _, hb k (by omega) (by omega), _, k_eqShelf (a := gi a k) (b := gi b k), fun hne => ?_, fun heq => ⟨inR_nat hlt ha9, loop1_next (by omega) ?_⟩⟩
        · have hne : gi a (k : Int) ≠ gi b (k : Int) := by simpa using hne
          rw [decide_eq_false fun e => hne (by rw [e])]
        · have heq : gi a (k : Int) = gi b (k : Int) := by simpa using heq
          exact ⟨by omega, fun j hj => by
            by_cases hjk : j < k
            · exact hI j hjk
            · have : j = k := by omega
              subst this; exact heq⟩
      · have hge := of_decide_eq_false hge
        have hk : k = a.length := by omega
        subst hk
        rw [decide_eq_true (gi_ext hl hI)]
theorem k_toShelfS {l : List Shf} {o : Option Addr} {c : Nat} {w : World} (h : RdS [] w o l) (hl : l.length ≤ 1048576) :
    Calls Tryz.prog fn_laws_toShelfS #[.slice o l.length c] w fun e w' => ∃ o' c', e = .returned (.slice o' l.length c') ∧ Own encS 5 ty_impl_Shelf w.heap.size w' o' c' l ∧ ExtX [] w w' := by
  refine (e_laws_toShelfS o l.length c (R := fun v w' => ∃ o' c', v = .slice o' l.length c' ∧ Own encS 5 ty_impl_Shelf w.heap.size w' o' c' l ∧ ExtX [] w w') ?_).mono fun e w' ⟨v, he, o', c', hv, h1, h2⟩ => ⟨o', c', by rw [he, hv], h1, h2⟩
  have hm := maxLen_big
  refine fun wr hx _ => ⟨_, _, _, _, run_mk elt_Shelf u_sl_impl_Shelf l.length (by omega) (by omega) wr, kept_nil, ?_⟩
  refine loop1w l.length 0 rfl (fun k w1 => k ≤ l.length ∧ Own encS 5 ty_impl_Shelf wr.heap.size w1 (some ⟨wr.heap.size, 0, none⟩) l.length (l.take k ++ List.replicate (l.length - k) (⟨0, false, 0, 0, 0⟩ : Shf)) ∧ ExtX [] wr w1) (fun w1 hx1 _ => ⟨Nat.zero_le _, by simpa using (own_made (enc := encS) elt_Shelf.len ty_impl_Shelf l.length (⟨0, false, 0, 0, 0⟩ : Shf) wr).ext0 hx1, (ext_alloc wr _).trans hx1⟩) fun k w1 _ ⟨hk, hO, hX⟩ => ⟨fun hlt => ?_, fun hge => ?_⟩
  · have hlt := of_decide_eq_true hlt
    have hr := (h.ext hx).ext hX
    have hlen : (l.take k ++ List.replicate (l.length - k) (⟨0, false, 0, 0, 0⟩ : Shf)).length = l.length := by simp; omega
    have hi : ((k : Int)) < ((l.take k ++ List.replicate (l.length - k) (⟨0, false, 0, 0, 0⟩ : Shf)).length : Int) := by rw [hlen]; exact hlt
    refine ⟨hr.ix encS_c (by omega) hlt, _, _, _, _, _, hr k (by omega) hlt, _, _, _, _, _, (k_toShelf (a := gi l k)), by have := hO.ix (i := (k : Int)) (by omega) hi; rwa [hlen] at this, hO.wr elt_Shelf.len (by simp) (by omega) hi (j := 0) (by omega), inR_nat hlt (by omega), fun w2 hx2 _ => loop1w_next (by omega) ⟨by omega, ?_, ?_⟩⟩
    · have := (hO.sto elt_Shelf.len (i := (k : Int)) (by omega) hi (j := 0) (vs := encS (gi l k)) (x := gi l k) (by rw [List.take_zero, List.nil_append, List.drop_eq_nil_iff.2 (by rw [Nat.zero_add, elt_Shelf.len, elt_Shelf.len]; exact Nat.le_refl _), List.append_nil]) (by rw [Nat.zero_add, elt_Shelf.len]; exact Nat.le_refl _)).ext0 hx2
      rwa [Int.toNat_natCast, fill_step l k (by omega)] at this
    · exact (hO.stoB _ _ hX (Nat.le_refl _)).trans hx2
  · have hge := of_decide_eq_false hge
    have hk : k = l.length := by omega
    subst hk
    simp only [List.take_length, Nat.sub_self, List.replicate_zero, List.append_nil] at hO
    exact fun w2 hx2 => ⟨_, _, rfl, (hO.ext0 hx2).mono hx.size, (hx.trans hX).trans hx2⟩
end Go.Proofs.YthojnihahmlboaaGreat
