/- Printed by wip/tools/mir.py: the mirror functions of flat types. -/
import Derived.Test.YthojnihahmlboaaGreatOwn
import Derived.Test.YthojnihahmlboaaGreatOpW
import Derived.Test.YthojnihahmlboaaGreatVc
namespace Go.Proofs.YthojnihahmlboaaGreat
open Go.RowKit
set_option linter.unusedVariables false
set_option linter.unusedSimpArgs false
set_option maxRecDepth 10000
/-! ### Cpu -/
theorem elt_Cpu : Elt Tryz.prog encC 5 ty_impl_Cpu 40 (⟨false, 0, 0, 0, 0⟩ : Cpu) := elt_of (by kernel_rfl) fun _ => rfl
theorem u_sl_impl_Cpu : Tryz.prog.underlying ty_sl_impl_Cpu = some (.slice ty_impl_Cpu) := by kernel_rfl
theorem k_szCpuS {o : Option Addr} {n c : Nat} {left : Int} {w : World} {bs : List Nat} (hn : n ≤ maxLen) (hl : 0 ≤ left) (hl2 : left ≤ 1048576) : PureX bs Tryz.prog fn_laws_szCpuS #[.slice o n c, .int .i64 left] w (.int .i64 (szN n left)) :=
  p_laws_szCpuS o n c left fun wr hx => by
    have := maxLen_le
    exact ⟨⟨by omega, by omega⟩, fun h => by rw [szN, if_pos (of_decide_eq_true h)], fun h => by rw [szN, if_neg (of_decide_eq_false h)]⟩
theorem k_eqCpu {a b : Cpu} {w : World} {bs : List Nat} : PureX bs Tryz.prog fn_laws_eqCpu #[.agg (encC a).toArray, .agg (encC b).toArray] w (.bool (decide (a = b))) :=
  p_laws_eqCpu a.up a.cur a.ran a.busy a.idle b.up b.cur b.ran b.busy b.idle fun wr hx => by
    cases a; cases b
    intro _ _ _ _
    repeat' (apply And.intro <;> intro h)
    all_goals (congr 1; simp_all)
theorem k_toCpu {a : Cpu} {w : World} {bs : List Nat} : PureX bs Tryz.prog fn_laws_toCpu #[.agg (encC a).toArray] w (.agg (encC a).toArray) :=
  p_laws_toCpu a.up a.cur a.ran a.busy a.idle fun wr hx => by
    intro _ _ _ _ _ _
    rfl
theorem k_eqCpuS {a b : List Cpu} {aO bO : Option Addr} {aC bC : Nat} {w : World} {bs : List Nat} (ha : RdC bs w aO a) (hb : RdC bs w bO b) (ha9 : a.length ≤ maxLen) : PureX bs Tryz.prog fn_laws_eqCpuS #[.slice aO a.length aC, .slice bO b.length bC] w (.bool (decide (a = b))) :=
  p_laws_eqCpuS aO a.length aC bO b.length bC fun wr hx => by
    have ha := (ha.ext hx).less (cs := []) (by simp)
    have hb := (hb.ext hx).less (cs := []) (by simp)
    refine ⟨fun h => ?_, fun h => ?_⟩
    · have h : a.length ≠ b.length := by simpa [Int.ofNat_inj] using h
      rw [decide_eq_false fun e => h (by rw [e])]
    · have hl : a.length = b.length := by simpa [Int.ofNat_inj] using h
      refine loop1 a.length 0 rfl (fun k => k ≤ a.length ∧ ∀ j : Nat, j < k → gi a (j : Int) = gi b (j : Int)) ⟨Nat.zero_le _, fun j hj => absurd hj (Nat.not_lt_zero j)⟩ fun k ⟨hk, hI⟩ => ⟨fun hlt => ?_, fun hge => ?_⟩
      · have hlt := of_decide_eq_true hlt
        refine ⟨ha.ix encC_c (by omega) hlt, _, _, _, _, _, ha k (by omega) hlt, hb.ix encC_c (by omega) (by omega), _, _, _, _, _, hb k (by omega) (by omega), _, k_eqCpu (a := gi a k) (b := gi b k), fun hne => ?_, fun heq => ⟨inR_nat hlt ha9, loop1_next (by omega) ?_⟩⟩
        · have hne : gi a (k : Int) ≠ gi b (k : Int) := by simpa using hne
          rw [decide_eq_false fun e => hne (by rw [e])]
        · have heq : gi a (k : Int) = gi b (k : Int) := by simpa using heq
          exact ⟨by omega, fun j hj => by
            by_cases hjk : j < k
            · exact hI j hjk
            · have : j = k := by omega
              subst this; exact heq⟩
      · have hge := of_decide_eq_false hge
        have hk : k = a.length := by omega
        subst hk
        rw [decide_eq_true (gi_ext hl hI)]
theorem k_toCpuS {l : List Cpu} {o : Option Addr} {c : Nat} {w : World} (h : RdC [] w o l) (hl : l.length ≤ 1048576) :
    Calls Tryz.prog fn_laws_toCpuS #[.slice o l.length c] w fun e w' => ∃ o' c', e = .returned (.slice o' l.length c') ∧ Own encC 5 ty_impl_Cpu w.heap.size w' o' c' l ∧ ExtX [] w w' := by
  refine (e_laws_toCpuS o l.length c (R := fun v w' => ∃ o' c', v = .slice o' l.length c' ∧ Own encC 5 ty_impl_Cpu w.heap.size w' o' c' l ∧ ExtX [] w w') ?_).mono fun e w' ⟨v, he, o', c', hv, h1, h2⟩ => ⟨o', c', by rw [he, hv], h1, h2⟩
  have hm := maxLen_big
  refine fun wr hx _ => ⟨_, _, _, _, run_mk elt_Cpu u_sl_impl_Cpu l.length (by omega) (by omega) wr, kept_nil, ?_⟩
  refine loop1w l.length 0 rfl (fun k w1 => k ≤ l.length ∧ Own encC 5 ty_impl_Cpu wr.heap.size w1 (some ⟨wr.heap.size, 0, none⟩) l.length (l.take k ++ List.replicate (l.length - k) (⟨false, 0, 0, 0, 0⟩ : Cpu)) ∧ ExtX [] wr w1) (fun w1 hx1 _ => ⟨Nat.zero_le _, by simpa using (own_made (enc := encC) elt_Cpu.len ty_impl_Cpu l.length (⟨false, 0, 0, 0, 0⟩ : Cpu) wr).ext0 hx1, (ext_alloc wr _).trans hx1⟩) fun k w1 _ ⟨hk, hO, hX⟩ => ⟨fun hlt => ?_, fun hge => ?_⟩
  · have hlt := of_decide_eq_true hlt
    have hr := (h.ext hx).ext hX
    have hlen : (l.take k ++ List.replicate (l.length - k) (⟨false, 0, 0, 0, 0⟩ : Cpu)).length = l.length := by simp; omega
    have hi : ((k : Int)) < ((l.take k ++ List.replicate (l.length - k) (⟨false, 0, 0, 0, 0⟩ : Cpu)).length : Int) := by rw [hlen]; exact hlt
    refine ⟨hr.ix encC_c (by omega) hlt, _, _, _, _, _, hr k (by omega) hlt, _, _, _, _, _, (k_toCpu (a := gi l k)), by have := hO.ix (i := (k : Int)) (by omega) hi; rwa [hlen] at this, hO.wr elt_Cpu.len (by simp) (by omega) hi (j := 0) (by omega), inR_nat hlt (by omega), fun w2 hx2 _ => loop1w_next (by omega) ⟨by omega, ?_, ?_⟩⟩
    · have := (hO.sto elt_Cpu.len (i := (k : Int)) (by omega) hi (j := 0) (vs := encC (gi l k)) (x := gi l k) (by rw [List.take_zero, List.nil_append, List.drop_eq_nil_iff.2 (by rw [Nat.zero_add, elt_Cpu.len, elt_Cpu.len]; exact Nat.le_refl _), List.append_nil]) (by rw [Nat.zero_add, elt_Cpu.len]; exact Nat.le_refl _)).ext0 hx2
      rwa [Int.toNat_natCast, fill_step l k (by omega)] at this
    · exact (hO.stoB _ _ hX (Nat.le_refl _)).trans hx2
  · have hge := of_decide_eq_false hge
    have hk : k = l.length := by omega
    subst hk
    simp only [List.take_length, Nat.sub_self, List.replicate_zero, List.append_nil] at hO
    exact fun w2 hx2 => ⟨_, _, rfl, (hO.ext0 hx2).mono hx.size, (hx.trans hX).trans hx2⟩
/-! ### Task -/
theorem elt_Task : Elt Tryz.prog encT 9 ty_impl_Task 72 (⟨0, 0, 0, 0, 0, 0, 0, 0, 0⟩ : Tsk) := elt_of (by kernel_rfl) fun _ => rfl
theorem u_sl_impl_Task : Tryz.prog.underlying ty_sl_impl_Task = some (.slice ty_impl_Task) := by kernel_rfl
theorem k_szTaskS {o : Option Addr} {n c : Nat} {left : Int} {w : World} {bs : List Nat} (hn : n ≤ maxLen) (hl : 0 ≤ left) (hl2 : left ≤ 1048576) : PureX bs Tryz.prog fn_laws_szTaskS #[.slice o n c, .int .i64 left] w (.int .i64 (szN n left)) :=
  p_laws_szTaskS o n c left fun wr hx => by
    have := maxLen_le
    exact ⟨⟨by omega, by omega⟩, fun h => by rw [szN, if_pos (of_decide_eq_true h)], fun h => by rw [szN, if_neg (of_decide_eq_false h)]⟩
theorem k_eqTask {a b : Tsk} {w : World} {bs : List Nat} : PureX bs Tryz.prog fn_laws_eqTask #[.agg (encT a).toArray, .agg (encT b).toArray] w (.bool (decide (a = b))) :=
  p_laws_eqTask a.state a.group a.cpu a.nice a.mask a.v a.sum a.used a.load b.state b.group b.cpu b.nice b.mask b.v b.sum b.used b.load fun wr hx => by
    cases a; cases b
    intro _ _ _ _
    repeat' (apply And.intro <;> intro h)
    all_goals (congr 1; simp_all)
theorem k_toTask {a : Tsk} {w : World} {bs : List Nat} : PureX bs Tryz.prog fn_laws_toTask #[.agg (encT a).toArray] w (.agg (encT a).toArray) :=
  p_laws_toTask a.state a.group a.cpu a.nice a.mask a.v a.sum a.used a.load fun wr hx => by
    intro _ _ _ _ _ _
    rfl
theorem k_eqTaskS {a b : List Tsk} {aO bO : Option Addr} {aC bC : Nat} {w : World} {bs : List Nat} (ha : RdT bs w aO a) (hb : RdT bs w bO b) (ha9 : a.length ≤ maxLen) : PureX bs Tryz.prog fn_laws_eqTaskS #[.slice aO a.length aC, .slice bO b.length bC] w (.bool (decide (a = b))) :=
  p_laws_eqTaskS aO a.length aC bO b.length bC fun wr hx => by
    have ha := (ha.ext hx).less (cs := []) (by simp)
    have hb := (hb.ext hx).less (cs := []) (by simp)
    refine ⟨fun h => ?_, fun h => ?_⟩
    · have h : a.length ≠ b.length := by simpa [Int.ofNat_inj] using h
      rw [decide_eq_false fun e => h (by rw [e])]
    · have hl : a.length = b.length := by simpa [Int.ofNat_inj] using h
      refine loop1 a.length 0 rfl (fun k => k ≤ a.length ∧ ∀ j : Nat, j < k → gi a (j : Int) = gi b (j : Int)) ⟨Nat.zero_le _, fun j hj => absurd hj (Nat.not_lt_zero j)⟩ fun k ⟨hk, hI⟩ => ⟨fun hlt => ?_, fun hge => ?_⟩
      · have hlt := of_decide_eq_true hlt
        refine ⟨ha.ix encT_c (by omega) hlt, _, _, _, _, _, _, _, _, _, ha k (by omega) hlt, hb.ix encT_c (by omega) (by omega), _, _, _, _, _, _, _, _, _, hb k (by omega) (by omega), _, k_eqTask (a := gi a k) (b := gi b k), fun hne => ?_, fun heq => ⟨inR_nat hlt ha9, loop1_next (by omega) ?_⟩⟩
        · have hne : gi a (k : Int) ≠ gi b (k : Int) := by simpa using hne
          rw [decide_eq_false fun e => hne (by rw [e])]
        · have heq : gi a (k : Int) = gi b (k : Int) := by simpa using heq
          exact ⟨by omega, fun j hj => by
            by_cases hjk : j < k
            · exact hI j hjk
            · have : j = k := by omega
              subst this; exact heq⟩
      · have hge := of_decide_eq_false hge
        have hk : k = a.length := by omega
        subst hk
        rw [decide_eq_true (gi_ext hl hI)]
theorem k_toTaskS {l : List Tsk} {o : Option Addr} {c : Nat} {w : World} (h : RdT [] w o l) (hl : l.length ≤ 1048576) :
    Calls Tryz.prog fn_laws_toTaskS #[.slice o l.length c] w fun e w' => ∃ o' c', e = .returned (.slice o' l.length c') ∧ Own encT 9 ty_impl_Task w.heap.size w' o' c' l ∧ ExtX [] w w' := by
  refine (e_laws_toTaskS o l.length c (R := fun v w' => ∃ o' c', v = .slice o' l.length c' ∧ Own encT 9 ty_impl_Task w.heap.size w' o' c' l ∧ ExtX [] w w') ?_).mono fun e w' ⟨v, he, o', c', hv, h1, h2⟩ => ⟨o', c', by rw [he, hv], h1, h2⟩
  have hm := maxLen_big
  refine fun wr hx _ => ⟨_, _, _, _, run_mk elt_Task u_sl_impl_Task l.length (by omega) (by omega) wr, kept_nil, ?_⟩
  refine loop1w l.length 0 rfl (fun k w1 => k ≤ l.length ∧ Own encT 9 ty_impl_Task wr.heap.size w1 (some ⟨wr.heap.size, 0, none⟩) l.length (l.take k ++ List.replicate (l.length - k) (⟨0, 0, 0, 0, 0, 0, 0, 0, 0⟩ : Tsk)) ∧ ExtX [] wr w1) (fun w1 hx1 _ => ⟨Nat.zero_le _, by simpa using (own_made (enc := encT) elt_Task.len ty_impl_Task l.length (⟨0, 0, 0, 0, 0, 0, 0, 0, 0⟩ : Tsk) wr).ext0 hx1, (ext_alloc wr _).trans hx1⟩) fun k w1 _ ⟨hk, hO, hX⟩ => ⟨fun hlt => ?_, fun hge => ?_⟩
  · have hlt := of_decide_eq_true hlt
    have hr := (h.ext hx).ext hX
    have hlen : (l.take k ++ List.replicate (l.length - k) (⟨0, 0, 0, 0, 0, 0, 0, 0, 0⟩ : Tsk)).length = l.length := by simp; omega
    have hi : ((k : Int)) < ((l.take k ++ List.replicate (l.length - k) (⟨0, 0, 0, 0, 0, 0, 0, 0, 0⟩ : Tsk)).length : Int) := by rw [hlen]; exact hlt
    refine ⟨hr.ix encT_c (by omega) hlt, _, _, _, _, _, _, _, _, _, hr k (by omega) hlt, _, _, _, _, _, _, _, _, _, (k_toTask (a := gi l k)), by have := hO.ix (i := (k : Int)) (by omega) hi; rwa [hlen] at this, hO.wr elt_Task.len (by simp) (by omega) hi (j := 0) (by omega), inR_nat hlt (by omega), fun w2 hx2 _ => loop1w_next (by omega) ⟨by omega, ?_, ?_⟩⟩
    · have := (hO.sto elt_Task.len (i := (k : Int)) (by omega) hi (j := 0) (vs := encT (gi l k)) (x := gi l k) (by rw [List.take_zero, List.nil_append, List.drop_eq_nil_iff.2 (by rw [Nat.zero_add, elt_Task.len, elt_Task.len]; exact Nat.le_refl _), List.append_nil]) (by rw [Nat.zero_add, elt_Task.len]; exact Nat.le_refl _)).ext0 hx2
      rwa [Int.toNat_natCast, fill_step l k (by omega)] at this
    · exact (hO.stoB _ _ hX (Nat.le_refl _)).trans hx2
  · have hge := of_decide_eq_false hge
    have hk : k = l.length := by omega
    subst hk
    simp only [List.take_length, Nat.sub_self, List.replicate_zero, List.append_nil] at hO
    exact fun w2 hx2 => ⟨_, _, rfl, (hO.ext0 hx2).mono hx.size, (hx.trans hX).trans hx2⟩
end Go.Proofs.YthojnihahmlboaaGreat
