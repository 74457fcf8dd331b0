/- Printed by wip/tools/mir.py: the mirror functions of flat types. -/
import Derived.Test.YthihcdljmddgfaaOwn
import Derived.Test.YthihcdljmddgfaaOpQ
import Derived.Test.YthihcdljmddgfaaVc
namespace Go.Proofs.Ythihcdljmddgfaa
open Go.RowKit
set_option linter.unusedVariables false
set_option maxRecDepth 10000
/-! ### Entry -/
theorem elt_Entry : Elt Try.prog encE 4 ty_impl_Entry 32 (⟨false, 0, 0, 0⟩ : Ent) := elt_of (by kernel_rfl) fun _ => rfl
theorem u_sl_impl_Entry : Try.prog.underlying ty_sl_impl_Entry = some (.slice ty_impl_Entry) := by kernel_rfl
theorem k_szEntryS {o : Option Addr} {n c : Nat} {left : Int} {w : World} {bs : List Nat} (hn : n ≤ maxLen) (hl : 0 ≤ left) (hl2 : left ≤ 1048576) : PureX bs Try.prog fn_laws_szEntryS #[.slice o n c, .int .i64 left] w (.int .i64 (szN n left)) :=
  p_laws_szEntryS o n c left fun wr hx => by
    have := maxLen_le
    exact ⟨⟨by omega, by omega⟩, fun h => by rw [szN, if_pos (of_decide_eq_true h)], fun h => by rw [szN, if_neg (of_decide_eq_false h)]⟩
theorem k_eqEntry {a b : Ent} {w : World} {bs : List Nat} : PureX bs Try.prog fn_laws_eqEntry #[.agg (encE a).toArray, .agg (encE b).toArray] w (.bool (decide (a = b))) :=
  p_laws_eqEntry a.on a.v a.w a.sum b.on b.v b.w b.sum fun wr hx => by
    cases a; cases b
    intro _ _ _ _
    repeat' (apply And.intro <;> intro h)
    all_goals (congr 1; simp_all)
theorem k_toEntry {a : Ent} {w : World} {bs : List Nat} : PureX bs Try.prog fn_laws_toEntry #[.agg (encE a).toArray] w (.agg (encE a).toArray) :=
  p_laws_toEntry a.on a.v a.w a.sum fun wr hx => by
    intro _ _ _ _ _ _
    rfl
theorem k_eqEntryS {a b : List Ent} {aO bO : Option Addr} {aC bC : Nat} {w : World} {bs : List Nat} (ha : RdE bs w aO a) (hb : RdE bs w bO b) (ha9 : a.length ≤ maxLen) : PureX bs Try.prog fn_laws_eqEntryS #[.slice aO a.length aC, .slice bO b.length bC] w (.bool (decide (a = b))) :=
  p_laws_eqEntryS aO a.length aC bO b.length bC fun wr hx => by
    have ha := (ha.ext hx).less (cs := []) (by simp)
    have hb := (hb.ext hx).less (cs := []) (by simp)
    refine ⟨fun h => ?_, fun h => ?_⟩
    · have h : a.length ≠ b.length := by simpa [Int.ofNat_inj] using h
      rw [decide_eq_false fun e => h (by rw [e])]
    · have hl : a.length = b.length := by simpa [Int.ofNat_inj] using h
      refine loop1 a.length 0 rfl (fun k => k ≤ a.length ∧ ∀ j : Nat, j < k → gi a (j : Int) = gi b (j : Int)) ⟨Nat.zero_le _, fun j hj => absurd hj (Nat.not_lt_zero j)⟩ fun k ⟨hk, hI⟩ => ⟨fun hlt => ?_, fun hge => ?_⟩
      · have hlt := of_decide_eq_true hlt
        refine ⟨ha.ix encE_c (by omega) hlt, _, _, _, _, ha k (by omega) hlt, hb.ix encE_c (by omega) (by omega), _, _, _, _, hb k (by omega) (by omega), _, k_eqEntry (a := gi a k) (b := gi b k), fun hne => ?_, fun heq => ⟨inR_nat hlt ha9, loop1_next (by omega) ?_⟩⟩
        · have hne : gi a (k : Int) ≠ gi b (k : Int) := by simpa using hne
          rw [decide_eq_false fun e => hne (by rw [e])]
        · have heq : gi a (k : Int) = gi b (k : Int) := by simpa using heq
          exact ⟨by omega, fun j hj => by
            by_cases hjk : j < k
            · exact hI j hjk
            · have : j = k := by omega
              subst this; exact heq⟩
      · have hge := of_decide_eq_false hge
        have hk : k = a.length := by omega
        subst hk
        rw [decide_eq_true (gi_ext hl hI)]
theorem k_toEntryS {l : List Ent} {o : Option Addr} {c : Nat} {w : World} (h : RdE [] w o l) (hl : l.length ≤ 1048576) :
    Calls Try.prog fn_laws_toEntryS #[.slice o l.length c] w fun e w' => ∃ o' c', e = .returned (.slice o' l.length c') ∧ Own encE 4 ty_impl_Entry w.heap.size w' o' c' l ∧ ExtX [] w w' := by
  refine (e_laws_toEntryS o l.length c (R := fun v w' => ∃ o' c', v = .slice o' l.length c' ∧ Own encE 4 ty_impl_Entry w.heap.size w' o' c' l ∧ ExtX [] w w') ?_).mono fun e w' ⟨v, he, o', c', hv, h1, h2⟩ => ⟨o', c', by rw [he, hv], h1, h2⟩
  have hm := maxLen_big
  refine fun wr hx _ => ⟨_, _, _, _, run_mk elt_Entry u_sl_impl_Entry l.length (by omega) (by omega) wr, kept_nil, ?_⟩
  refine loop1w l.length 0 rfl (fun k w1 => k ≤ l.length ∧ Own encE 4 ty_impl_Entry wr.heap.size w1 (some ⟨wr.heap.size, 0, none⟩) l.length (l.take k ++ List.replicate (l.length - k) (⟨false, 0, 0, 0⟩ : Ent)) ∧ ExtX [] wr w1) (fun w1 hx1 _ => ⟨Nat.zero_le _, by simpa using (own_made (enc := encE) elt_Entry.len ty_impl_Entry l.length (⟨false, 0, 0, 0⟩ : Ent) wr).ext0 hx1, (ext_alloc wr _).trans hx1⟩) fun k w1 _ ⟨hk, hO, hX⟩ => ⟨fun hlt => ?_, fun hge => ?_⟩
  · have hlt := of_decide_eq_true hlt
    have hr := (h.ext hx).ext hX
    have hlen : (l.take k ++ List.replicate (l.length - k) (⟨false, 0, 0, 0⟩ : Ent)).length = l.length := by simp; omega
    have hi : ((k : Int)) < ((l.take k ++ List.replicate (l.length - k) (⟨false, 0, 0, 0⟩ : Ent)).length : Int) := by rw [hlen]; exact hlt
    refine ⟨hr.ix encE_c (by omega) hlt, _, _, _, _, hr k (by omega) hlt, _, _, _, _, (k_toEntry (a := gi l k)), by have := hO.ix (i := (k : Int)) (by omega) hi; rwa [hlen] at this, hO.wr elt_Entry.len (by simp) (by omega) hi (j := 0) (by omega), inR_nat hlt (by omega), fun w2 hx2 _ => loop1w_next (by omega) ⟨by omega, ?_, ?_⟩⟩
    · have := (hO.sto elt_Entry.len (i := (k : Int)) (by omega) hi (j := 0) (vs := encE (gi l k)) (x := gi l k) (by rw [List.take_zero, List.nil_append, List.drop_eq_nil_iff.2 (by rw [Nat.zero_add, elt_Entry.len, elt_Entry.len]; exact Nat.le_refl _), List.append_nil]) (by rw [Nat.zero_add, elt_Entry.len]; exact Nat.le_refl _)).ext0 hx2
      rwa [Int.toNat_natCast, fill_step l k (by omega)] at this
    · exact (hO.stoB _ _ hX (Nat.le_refl _)).trans hx2
  · have hge := of_decide_eq_false hge
    have hk : k = l.length := by omega
    subst hk
    simp only [List.take_length, Nat.sub_self, List.replicate_zero, List.append_nil] at hO
    exact fun w2 hx2 => ⟨_, _, rfl, (hO.ext0 hx2).mono hx.size, (hx.trans hX).trans hx2⟩
/-! ### QueueOp -/
theorem elt_QueueOp : Elt Try.prog encO 3 ty_impl_QueueOp 24 (⟨0, 0, 0⟩ : QOp) := elt_of (by kernel_rfl) fun _ => rfl
theorem u_sl_impl_QueueOp : Try.prog.underlying ty_sl_impl_QueueOp = some (.slice ty_impl_QueueOp) := by kernel_rfl
theorem k_szQueueOpS {o : Option Addr} {n c : Nat} {left : Int} {w : World} {bs : List Nat} (hn : n ≤ maxLen) (hl : 0 ≤ left) (hl2 : left ≤ 1048576) : PureX bs Try.prog fn_laws_szQueueOpS #[.slice o n c, .int .i64 left] w (.int .i64 (szN n left)) :=
  p_laws_szQueueOpS o n c left fun wr hx => by
    have := maxLen_le
    exact ⟨⟨by omega, by omega⟩, fun h => by rw [szN, if_pos (of_decide_eq_true h)], fun h => by rw [szN, if_neg (of_decide_eq_false h)]⟩
theorem k_eqQueueOp {a b : QOp} {w : World} {bs : List Nat} : PureX bs Try.prog fn_laws_eqQueueOp #[.agg (encO a).toArray, .agg (encO b).toArray] w (.bool (decide (a = b))) :=
  p_laws_eqQueueOp a.kind a.at' a.n b.kind b.at' b.n fun wr hx => by
    cases a; cases b
    intro _ _ _ _
    repeat' (apply And.intro <;> intro h)
    all_goals (congr 1; simp_all)
theorem k_toQueueOp {a : QOp} {w : World} {bs : List Nat} : PureX bs Try.prog fn_laws_toQueueOp #[.agg (encO a).toArray] w (.agg (encO a).toArray) :=
  p_laws_toQueueOp a.kind a.at' a.n fun wr hx => by
    intro _ _ _ _ _ _
    rfl
theorem k_eqQueueOpS {a b : List QOp} {aO bO : Option Addr} {aC bC : Nat} {w : World} {bs : List Nat} (ha : RdO bs w aO a) (hb : RdO bs w bO b) (ha9 : a.length ≤ maxLen) : PureX bs Try.prog fn_laws_eqQueueOpS #[.slice aO a.length aC, .slice bO b.length bC] w (.bool (decide (a = b))) :=
  p_laws_eqQueueOpS aO a.length aC bO b.length bC fun wr hx => by
    have ha := (ha.ext hx).less (cs := []) (by simp)
    have hb := (hb.ext hx).less (cs := []) (by simp)
    refine ⟨fun h => ?_, fun h => ?_⟩
    · have h : a.length ≠ b.length := by simpa [Int.ofNat_inj] using h
      rw [decide_eq_false fun e => h (by rw [e])]
    · have hl : a.length = b.length := by simpa [Int.ofNat_inj] using h
      refine loop1 a.length 0 rfl (fun k => k ≤ a.length ∧ ∀ j : Nat, j < k → gi a (j : Int) = gi b (j : Int)) ⟨Nat.zero_le _, fun j hj => absurd hj (Nat.not_lt_zero j)⟩ fun k ⟨hk, hI⟩ => ⟨fun hlt => ?_, fun hge => ?_⟩
      · have hlt := of_decide_eq_true hlt
        refine ⟨ha.ix encO_c (by omega) hlt, _, _, _, ha k (by omega) hlt, hb.ix encO_c (by omega) (by omega), _, _, _, hb k (by omega) (by omega), _, k_eqQueueOp (a := gi a k) (b := gi b k), fun hne => ?_, fun heq => ⟨inR_nat hlt ha9, loop1_next (by omega) ?_⟩⟩
        · have hne : gi a (k : Int) ≠ gi b (k : Int) := by simpa using hne
          rw [decide_eq_false fun e => hne (by rw [e])]
        · have heq : gi a (k : Int) = gi b (k : Int) := by simpa using heq
          exact ⟨by omega, fun j hj => by
            by_cases hjk : j < k
            · exact hI j hjk
            · have : j = k := by omega
              subst this; exact heq⟩
      · have hge := of_decide_eq_false hge
        have hk : k = a.length := by omega
        subst hk
        rw [decide_eq_true (gi_ext hl hI)]
theorem k_toQueueOpS {l : List QOp} {o : Option Addr} {c : Nat} {w : World} (h : RdO [] w o l) (hl : l.length ≤ 1048576) :
    Calls Try.prog fn_laws_toQueueOpS #[.slice o l.length c] w fun e w' => ∃ o' c', e = .returned (.slice o' l.length c') ∧ Own encO 3 ty_impl_QueueOp w.heap.size w' o' c' l ∧ ExtX [] w w' := by
  refine (e_laws_toQueueOpS o l.length c (R := fun v w' => ∃ o' c', v = .slice o' l.length c' ∧ Own encO 3 ty_impl_QueueOp w.heap.size w' o' c' l ∧ ExtX [] w w') ?_).mono fun e w' ⟨v, he, o', c', hv, h1, h2⟩ => ⟨o', c', by rw [he, hv], h1, h2⟩
  have hm := maxLen_big
  refine fun wr hx _ => ⟨_, _, _, _, run_mk elt_QueueOp u_sl_impl_QueueOp l.length (by omega) (by omega) wr, kept_nil, ?_⟩
  refine loop1w l.length 0 rfl (fun k w1 => k ≤ l.length ∧ Own encO 3 ty_impl_QueueOp wr.heap.size w1 (some ⟨wr.heap.size, 0, none⟩) l.length (l.take k ++ List.replicate (l.length - k) (⟨0, 0, 0⟩ : QOp)) ∧ ExtX [] wr w1) (fun w1 hx1 _ => ⟨Nat.zero_le _, by simpa using (own_made (enc := encO) elt_QueueOp.len ty_impl_QueueOp l.length (⟨0, 0, 0⟩ : QOp) wr).ext0 hx1, (ext_alloc wr _).trans hx1⟩) fun k w1 _ ⟨hk, hO, hX⟩ => ⟨fun hlt => ?_, fun hge => ?_⟩
  · have hlt := of_decide_eq_true hlt
    have hr := (h.ext hx).ext hX
    have hlen : (l.take k ++ List.replicate (l.length - k) (⟨0, 0, 0⟩ : QOp)).length = l.length := by simp; omega
    have hi : ((k : Int)) < ((l.take k ++ List.replicate (l.length - k) (⟨0, 0, 0⟩ : QOp)).length : Int) := by rw [hlen]; exact hlt
    refine ⟨hr.ix encO_c (by omega) hlt, _, _, _, hr k (by omega) hlt, _, _, _, (k_toQueueOp (a := gi l k)), by have := hO.ix (i := (k : Int)) (by omega) hi; rwa [hlen] at this, hO.wr elt_QueueOp.len (by simp) (by omega) hi (j := 0) (by omega), inR_nat hlt (by omega), fun w2 hx2 _ => loop1w_next (by omega) ⟨by omega, ?_, ?_⟩⟩
    · have := (hO.sto elt_QueueOp.len (i := (k : Int)) (by omega) hi (j := 0) (vs := encO (gi l k)) (x := gi l k) (by rw [List.take_zero, List.nil_append, List.drop_eq_nil_iff.2 (by rw [Nat.zero_add, elt_QueueOp.len, elt_QueueOp.len]; exact Nat.le_refl _), List.append_nil]) (by rw [Nat.zero_add, elt_QueueOp.len]; exact Nat.le_refl _)).ext0 hx2
      rwa [Int.toNat_natCast, fill_step l k (by omega)] at this
    · exact (hO.stoB _ _ hX (Nat.le_refl _)).trans hx2
  · have hge := of_decide_eq_false hge
    have hk : k = l.length := by omega
    subst hk
    simp only [List.take_length, Nat.sub_self, List.replicate_zero, List.append_nil] at hO
    exact fun w2 hx2 => ⟨_, _, rfl, (hO.ext0 hx2).mono hx.size, (hx.trans hX).trans hx2⟩
end Go.Proofs.Ythihcdljmddgfaa
