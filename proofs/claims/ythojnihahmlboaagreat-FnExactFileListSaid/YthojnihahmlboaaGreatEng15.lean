/- The engine, part 15: 'evC' is sound; a function's call. -/
import Derived.Test.YthojnihahmlboaaGreatEng14
namespace Go.Proofs.YthojnihahmlboaaGreat
open Go.RowKit
set_option linter.unusedVariables false

/-- The head of a loop whose values are those of a state behind (or at) the text of the loop. -/
structure Head (C : Cfg) (S : St) (w : World) (ds : List Nat) (a : Act) (sp : LSpec) (vs : List Value) (w1 : World) (a' : Act) (wr' : World) : Prop where
  fit : FitC C.n (headS S sp vs) a'
  rel : WRel (headS S sp vs) w1 wr'
  wf : WfS (headS S sp vs)
  fra : FrA ds a a'

theorem head_types {S S' : St} {sp : LSpec} (hnd : (sp.chgL.map (·.1)).Nodup) (hty : ∀ (id : Nat) (t : TypeId) (cs : List Value), S.L[id]? = some (t, cs) → ∃ cs', S'.L[id]? = some (t, cs')) {xs ys : List Value} (hxl : xs.length = sp.chg.length) (hy : valsL S' sp.chgL = some ys) :
    (∀ (id : Nat) (t : TypeId) (cs : List Value), S.L[id]? = some (t, cs) → ∃ cs', (headS S sp (xs ++ ys)).L[id]? = some (t, cs')) ∧ (∀ id, id ∉ sp.chgL.map (·.1) → (headS S sp (xs ++ ys)).L[id]? = S.L[id]?) := by
  have hdr : (xs ++ ys).drop sp.chg.length = ys := by rw [← hxl]; exact List.drop_left
  obtain ⟨h1, h2, h3⟩ := setLs_get (L := S.L) hnd hy hty
  have hL : (headS S sp (xs ++ ys)).L = setLs S.L sp.chgL ys := by simp only [headS, hdr]
  rw [hL]
  refine ⟨fun id t cs hc => ?_, h2⟩
  have hid : id < (setLs S.L sp.chgL ys).length := by rw [h1]; exact (List.getElem?_eq_some_iff.1 hc).1
  by_cases hm : id ∈ sp.chgL.map (·.1)
  · have hg : (setLs S.L sp.chgL ys)[id]? = some (((setLs S.L sp.chgL ys)[id]).1, ((setLs S.L sp.chgL ys)[id]).2) := List.getElem?_eq_getElem hid
    have h4 := h3 id _ _ hm hg
    obtain ⟨cs', h5⟩ := hty id t cs hc
    rw [h5] at h4
    simp only [Option.some.injEq, Prod.mk.injEq] at h4
    exact ⟨((setLs S.L sp.chgL ys)[id]).2, by rw [hg, ← h4.1]⟩
  · exact ⟨cs, by rw [h2 id hm]; exact hc⟩

theorem opv_denC {n : Nat} {S : St} {a : Act} (hf : FitC n S a) {x : Operand} {e : EV} (hb : opv S [] x = some e) : EV.den S e (a.eval x) := by
  have := opv_den (ops := #[]) (hf.enter #[] (fun _ => False)).fit (pc := []) (fun p hp => by cases hp) (S := { S with r := S.r + 1 }) (x := x) (e := e) (by
    cases x with
    | tmp t =>
      simp only [opv] at hb ⊢
      split at hb
      · exact hb
      · rename_i r pc' y hg
        cases hb2 : Nat.beq r S.r && pcSub pc' [] with
        | false => rw [hb2] at hb; cases hb
        | true =>
          simp only [Bool.and_eq_true] at hb2
          have := Nat.eq_of_beq_eq_true hb2.1
          have h2 := hf.old t r pc' y hg
          omega
      · cases hb
    | const v => exact hb
    | global g => exact hb
    | func f => exact hb)
  exact EV.den_mono (S := { S with r := S.r + 1 }) (fun _ _ h => h) this
theorem setB_eq (S : St) (c : Operand) (x : Bool) : (setB S c x).L = S.L ∧ (setB S c x).B = S.B ∧ (setB S c x).old = S.old ∧ (setB S c x).lk = S.lk ∧ (setB S c x).r = S.r := by
  unfold setB
  split
  · cases Nat.blt _ 4000 <;> exact ⟨rfl, rfl, rfl, rfl, rfl⟩
  · exact ⟨rfl, rfl, rfl, rfl, rfl⟩
theorem FitC.setB {n : Nat} {S : St} {a : Act} (hf : FitC n S a) {c : Operand} {x : Bool} (hc : a.eval c = .bool x) : FitC n (setB S c x) a := by
  unfold Go.Proofs.YthojnihahmlboaaGreat.setB
  split
  · rename_i t
    cases hl : Nat.blt t 4000 with
    | false => exact hf
    | true =>
      have hlt : t < 4000 := Nat.le_of_ble_eq_true hl
      have hg : ∀ i, (PT.set 12 S.F t (.un (.kb x))).get i = if t = i then some (.un (.kb x)) else S.F.get i := fun i => PT.get_set _ 12 S.F t i (by have h1 : @LT.lt Nat _ t 4000 := hlt; show @LT.lt Nat _ (t + 1) (2 ^ 12); omega)
      refine ⟨hf.size, fun i y hy => ?_, fun i r pc y hy => ?_⟩
      · have hy : (PT.set 12 S.F t (.un (.kb x))).get i = some (.un y) := hy
        rw [hg i] at hy
        by_cases hti : t = i
        · subst hti
          rw [if_pos rfl] at hy
          simp only [Option.some.injEq, SV.un.injEq] at hy
          subst hy
          exact hc
        · rw [if_neg hti] at hy
          exact EV.den_mono (S := S) (fun _ _ h => h) (hf.fits i y hy)
      · have hy : (PT.set 12 S.F t (.un (.kb x))).get i = some (.gd r pc y) := hy
        rw [hg i] at hy
        by_cases hti : t = i
        · rw [if_pos hti] at hy; cases hy
        · rw [if_neg hti] at hy; exact hf.old i r pc y hy
  · exact hf
theorem setB_rel {S : St} {w wr : World} {c : Operand} {x : Bool} (h : WRel S w wr) : WRel (setB S c x) w wr := by
  obtain ⟨h1, h2, h3, h4, h5⟩ := setB_eq S c x
  refine ⟨?_, ?_, ?_, ?_, ?_⟩
  · unfold St.bs; rw [h2, h3]; exact h.ext
  · rw [h1, h2]; exact h.loc
  · rw [h1, h2]; exact h.len
  · rw [h2]; exact h.dist
  · rw [h2, h3]; exact h.fresh
theorem setB_wf {S : St} {c : Operand} {x : Bool} (h : WfS S) : WfS (setB S c x) := by
  obtain ⟨h1, h2, h3, h4, h5⟩ := setB_eq S c x
  exact ⟨by rw [h2, h3]; exact h.old, by rw [h1, h4]; exact h.lk⟩
theorem setB_end {C : Cfg} {S : St} {w : World} {ds : List Nat} {a : Act} {S' : St} {w' : World} {a' : Act} {wr' : World} {c : Operand} {x : Bool} (h : EndC C (setB S c x) w ds a S' w' a' wr') : EndC C S w ds a S' w' a' wr' := by
  obtain ⟨h1, h2, h3, h4, h5⟩ := setB_eq S c x
  refine ⟨h.fit, h.rel, h.wf, ⟨?_, ?_, ?_⟩, h.fra, ?_⟩
  · have := h.fr.B; rw [h2] at this; exact this
  · have := h.fr.ty; rw [h1] at this; exact this
  · have := h.fr.lk; rw [h1, h4] at this; exact this
  · have := h.pm; rw [h3] at this; exact this
theorem evC_sound {C : Cfg} (E : Env C) {sps : List (Nat × LSpec)} : ∀ (c : Code) (S : St) (w wr : World) (a : Act) (K : Exit → St → World → Prop) (Q : Exit → Act → World → Prop), evC C sps c S w K → FitC C.n S a → WRel S w wr → WfS S →
    (∀ e S' w' a' wr', K e S' w' → EndC C S w (dstsC c) a S' w' a' wr' → Q e a' wr') → c.wp C.P Q a wr
  | .skip, S, w, wr, a, K, Q, h, hf, hw, hwf, hQ => wp_skip (hQ _ _ _ _ _ h (EndC.refl _ hf hw hwf))
  | .label _, S, w, wr, a, K, Q, h, hf, hw, hwf, hQ => wp_label (hQ _ _ _ _ _ h (EndC.refl _ hf hw hwf))
  | .exit _, S, w, wr, a, K, Q, h, hf, hw, hwf, hQ => wp_exit (hQ _ _ _ _ _ h (EndC.refl _ hf hw hwf))
  | .ret, S, w, wr, a, K, Q, h, hf, hw, hwf, hQ => wp_ret (hQ _ _ _ _ _ h (EndC.refl _ hf hw hwf))
  | .region _ ops d, S, w, wr, a, K, Q, h, hf, hw, hwf, hQ => evReg_sound E h hf hw hwf fun S' w' a' wr' hK he => hQ _ _ _ _ _ hK he
  | .seq x y, S, w, wr, a, K, Q, h, hf, hw, hwf, hQ => by
    have sub1 : ∀ z ∈ dstsC x, z ∈ dstsC (.seq x y) := fun z hz => List.mem_append_left _ hz
    have sub2 : ∀ z ∈ dstsC y, z ∈ dstsC (.seq x y) := fun z hz => List.mem_append_right _ hz
    simp only [evC] at h
    split at h
    · refine wp_seq (evC_sound E x S w wr a _ _ h hf hw hwf fun e S' w' a' wr' hK he => ?_)
      cases e with
      | normal => exact evC_sound E y S' w' wr' a' _ _ hK he.fit he.rel he.wf fun e2 S2 w2 a2 wr2 hK2 he2 => hQ _ _ _ _ _ hK2 (he.trans he2 sub1 sub2)
      | _ => exact hQ _ _ _ _ _ hK (he.mono sub1)
    · rename_i sp _
      cases hok : spOk S sp (dstsC x) with
      | false => rw [hok] at h; exact h.elim
      | true =>
        rw [hok] at h
        simp only [cond_true] at h
        have hs := spOk_facts hok
        have hf0 : FitC C.n { S with lk := lkAll S sp } a := ⟨hf.size, hf.fits, hf.old⟩
        have hw0 : WRel { S with lk := lkAll S sp } w wr := ⟨hw.ext, hw.loc, hw.len, hw.dist, hw.fresh⟩
        have hwf0 : WfS { S with lk := lkAll S sp } := ⟨hwf.old, fun id hid => (lkAll_mem.1 hid).1⟩
        have out : ∀ {S' : St} {w' : World} {a' : Act} {wr' : World}, EndC C { S with lk := lkAll S sp } w (dstsC x) a S' w' a' wr' → EndC C S w (dstsC (.seq x y)) a { S' with lk := S.lk } w' a' wr' := fun {S' w' a' wr'} he => by
          have f1 : FrS S { S' with lk := S.lk } := ⟨he.fr.B, he.fr.ty, fun id hid => ⟨hid, (he.fr.lk id (lkAll_mem.2 ⟨hwf.lk id hid, fun hm => hs.chgL id hm hid⟩)).2⟩⟩
          exact ⟨⟨he.fit.size, he.fit.fits, he.fit.old⟩, ⟨he.rel.ext, he.rel.loc, he.rel.len, he.rel.dist, he.rel.fresh⟩, ⟨he.wf.old, fun id hid => by
            obtain ⟨cs', hc'⟩ := f1.ty id (S.L[id]'(hwf.lk id hid)).1 (S.L[id]'(hwf.lk id hid)).2 (List.getElem?_eq_getElem _)
            exact (List.getElem?_eq_some_iff.1 hc').1⟩, f1, he.fra.mono sub1, he.pm⟩
        cases hpm : C.pm with
        | true =>
          rw [hpm] at h
          simp only [cond_true] at h
          obtain ⟨Mid, h1, h2⟩ := h
          refine wp_seq (evC_sound E x _ w wr a _ _ h1 hf0 hw0 hwf0 fun e S' w' a' wr' hK he => ?_)
          cases e with
          | normal =>
            obtain ⟨xs, ys, zs, g1, g2, g3, g4, g5, g6, g7⟩ := joinV_out hK
            obtain ⟨j1, j2, j3, j4, j5, j6, j7⟩ := join_mk hs hf hw hwf he.fit he.rel he.fra he.fr g1 g2 g3 g6
            obtain ⟨p1, p2⟩ := he.pm hpm
            refine evC_sound E y _ w wr' a' _ _ (allBs_out (allKs_out (allKs_out h2 g4) g5) j1 g7) j3 (j7 p1 p2) j4 fun e2 S2 w2 a2 wr2 hK2 he2 => hQ _ _ _ _ _ hK2 ⟨he2.fit, he2.rel, he2.wf, j5.trans he2.fr, (he.fra.mono sub1).trans (he2.fra.mono sub2), fun hp => he2.pm hp⟩
          | _ => exact hQ _ _ _ _ _ hK (out he)
        | false =>
          rw [hpm] at h
          simp only [cond_false] at h
          obtain ⟨Mid, h1, h2⟩ := h
          refine wp_seq (evC_sound E x _ w wr a _ _ h1 hf0 hw0 hwf0 fun e S' w' a' wr' hK he => ?_)
          cases e with
          | normal =>
            obtain ⟨xs, ys, zs, g1, g2, g3, g4, g5, g6, g7⟩ := joinV_out (hK wr' he.rel.ext he.rel.lt)
            obtain ⟨j1, j2, j3, j4, j5, j6, j7⟩ := join_mk hs hf hw hwf he.fit he.rel he.fra he.fr g1 g2 g3 g6
            refine evC_sound E y _ wr' wr' a' _ _ (allBs_out (allKs_out (allKs_out h2 g4) g5) j1 wr' (fun b hb => he.rel.lt b (j2 b hb)) g7) ⟨j3.size, j3.fits, j3.old⟩ j6 ⟨Nat.le_refl _, j4.lk⟩ fun e2 S2 w2 a2 wr2 hK2 he2 => hQ _ _ _ _ _ hK2 ⟨he2.fit, he2.rel, he2.wf, j5.trans ⟨he2.fr.B, he2.fr.ty, he2.fr.lk⟩, (he.fra.mono sub1).trans (he2.fra.mono sub2), fun hp => by rw [hpm] at hp; cases hp⟩
          | _ => exact hQ _ _ _ _ _ hK (out he)
  | .cond c x y, S, w, wr, a, K, Q, h, hf, hw, hwf, hQ => by
    simp only [evC] at h
    split at h
    · rename_i hb
      have hc : a.eval c = .bool true := opv_denC hf hb
      refine wp_cond_split hc (fun hb => ?_) (fun hb => by cases hb)
      exact evC_sound E x S w wr a _ _ h hf hw hwf fun e S' w' a' wr' hK he => hQ _ _ _ _ _ hK (he.mono fun z hz => List.mem_append_left _ hz)
    · rename_i hb
      have hc : a.eval c = .bool false := opv_denC hf hb
      refine wp_cond_split hc (fun hb => by cases hb) (fun hb => ?_)
      exact evC_sound E y S w wr a _ _ h hf hw hwf fun e S' w' a' wr' hK he => hQ _ _ _ _ _ hK (he.mono fun z hz => List.mem_append_right _ hz)
    · rename_i b hb
      have hc : a.eval c = .bool b := opv_denC hf hb
      refine wp_cond_split hc (fun hb => ?_) (fun hb => ?_)
      · subst hb
        exact evC_sound E x (setB S c true) w wr a _ _ (h.1 rfl) (hf.setB hc) (setB_rel hw) (setB_wf hwf) fun e S' w' a' wr' hK he => hQ _ _ _ _ _ hK ((setB_end he).mono fun z hz => List.mem_append_left _ hz)
      · subst hb
        exact evC_sound E y (setB S c false) w wr a _ _ (h.2 rfl) (hf.setB hc) (setB_rel hw) (setB_wf hwf) fun e S' w' a' wr' hK he => hQ _ _ _ _ _ hK ((setB_end he).mono fun z hz => List.mem_append_right _ hz)
    · exact h.elim
  | .scope b, S, w, wr, a, K, Q, h, hf, hw, hwf, hQ => by
    refine wp_scope_straight (evC_sound E b S w wr a _ _ h hf hw hwf fun e S' w' a' wr' hK he => ?_)
    cases e with
    | goto l => exact hK.elim
    | _ => exact hQ _ _ _ _ _ hK he
  | .block id b, S, w, wr, a, K, Q, h, hf, hw, hwf, hQ => by
    refine wp_block (evC_sound E b S w wr a _ _ h hf hw hwf fun e S' w' a' wr' hK he => ?_)
    cases e with
    | exit id' =>
      simp only [Exit.inBlock]
      dsimp only at hK
      cases hb : Nat.beq id' id with
      | true =>
        rw [hb] at hK
        rw [if_pos (Nat.eq_of_beq_eq_true hb)]
        exact hQ _ _ _ _ _ hK he
      | false =>
        rw [hb] at hK
        rw [if_neg (fun e => by rw [e, Nat.beq_refl] at hb; cases hb)]
        exact hQ _ _ _ _ _ hK he
    | _ => exact hQ _ _ _ _ _ hK he
  | .loop b, S, w, wr, a, K, Q, h, hf, hw, hwf, hQ => by
    simp only [evC] at h
    split at h
    · exact h.elim
    · rename_i key hkey
      split at h
      · exact h.elim
      · rename_i sp hsp
        cases hok : spOk S sp (dstsC b) with
        | false => rw [hok] at h; exact h.elim
        | true =>
          rw [hok] at h
          simp only [cond_true] at h
          have hs := spOk_facts hok
          cases hpm : C.pm with
          | true =>
            rw [hpm] at h
            simp only [cond_true] at h
            obtain ⟨Inv, μ, hinit, hall⟩ := h
            -- the head, out of a state that ends the text of the loop
            have mk : ∀ (S' : St) (a' : Act) (wr' : World) (xs ys : List Value), FitC C.n S' a' → WRel S' w wr' → S'.old = S.old → FrA (dstsC b) a a' → (∀ (id b : Nat), S.B[id]? = some b → S'.B[id]? = some b) →
                (∀ (id : Nat) (t : TypeId) (cs : List Value), S.L[id]? = some (t, cs) → ∃ cs', S'.L[id]? = some (t, cs')) → (∀ id, id < S.L.length → id ∉ sp.chgL.map (·.1) → S'.L[id]? = S.L[id]?) →
                valsS S' sp.chg = some xs → valsL S' sp.chgL = some ys → Head C S w (dstsC b) a sp (xs ++ ys) w a' wr' := by
              intro S' a' wr' xs ys h1 h2 h3 h4 h5 h6 h7 h8 h9
              obtain ⟨g1, g2⟩ := head_loc hs hw h2 h5 h6 h7 (valsS_get h8).1 h9
              refine ⟨head_fit hs hf h1 h4 h8, ⟨?_, g2, by rw [g1]; exact hw.len, hw.dist, hw.fresh⟩, ⟨hwf.old, fun id hid => by rw [g1]; exact (lkAll_mem.1 hid).1⟩, h4⟩
              have hbs : S'.bs = S.bs := by unfold St.bs; rw [h3]; exact take_same hwf.old h5
              have := h2.ext
              rw [hbs] at this
              exact this
            obtain ⟨xs, ys, hx, hy, hk, hI⟩ := initV_out hinit
            refine wp_loop_ex (fun n a' wr' => ∃ xs ys S', μ (xs ++ ys) = n ∧ Inv (xs ++ ys) ∧ kindsOk sp.ks (xs ++ ys) = true ∧ xs.length = sp.chg.length ∧ valsL S' sp.chgL = some ys ∧ (∀ (id : Nat) (t : TypeId) (cs : List Value), S.L[id]? = some (t, cs) → ∃ cs', S'.L[id]? = some (t, cs')) ∧ Head C S w (dstsC b) a sp (xs ++ ys) w a' wr')
              (n := μ (xs ++ ys)) ⟨xs, ys, S, rfl, hI, hk, (valsS_get hx).1, hy, fun _ _ cs h => ⟨cs, h⟩, mk S a wr xs ys hf hw rfl (FrA.refl _ _) (fun _ _ h => h) (fun _ _ cs h => ⟨cs, h⟩) (fun _ _ _ => rfl) hx hy⟩ ?_
            rintro n a' wr' ⟨xs, ys, S', rfl, hI, hk, hxl, hyl, hty, hH⟩
            obtain ⟨t1, t2⟩ := head_types hs.nd hty hxl hyl
            have hlen : (headS S sp (xs ++ ys)).L.length = S.L.length := by
              have := hH.rel.len
              rw [this]; exact hw.len.symm
            refine evC_sound E b _ w wr' a' _ _ (allKs_out hall hk hI) hH.fit hH.rel hH.wf fun e S2 w2 a2 wr2 hK he => ?_
            obtain ⟨f1, f2⟩ := head_FrS hs hwf hlen t1 t2 he.fr
            obtain ⟨p1, p2⟩ := he.pm hpm
            subst p1
            cases e with
            | normal =>
              obtain ⟨xs', ys', hx', hy', hk', hI', hlt⟩ := initV_out hK
              refine ⟨μ (xs' ++ ys'), hlt, xs', ys', S2, rfl, hI', hk', (valsS_get hx').1, hy', f1.ty, ?_⟩
              exact mk S2 a2 wr2 xs' ys' he.fit he.rel p2 (hH.fra.trans he.fra) f1.B f1.ty f2 hx' hy'
            | _ =>
              exact hQ _ _ _ _ _ hK ⟨⟨he.fit.size, he.fit.fits, he.fit.old⟩, ⟨he.rel.ext, he.rel.loc, he.rel.len, he.rel.dist, he.rel.fresh⟩,
                ⟨he.wf.old, fun id hid => by
                  obtain ⟨cs', hc'⟩ := f1.ty id (S.L[id]'(hwf.lk id hid)).1 (S.L[id]'(hwf.lk id hid)).2 (List.getElem?_eq_getElem _)
                  exact (List.getElem?_eq_some_iff.1 hc').1⟩, f1, hH.fra.trans he.fra, fun _ => ⟨rfl, p2⟩⟩
          | false =>
            rw [hpm] at h
            simp only [cond_false] at h
            obtain ⟨Inv, μ, hinit, hall⟩ := h
            have mk : ∀ (S' : St) (w' : World) (a' : Act) (wr' : World) (xs ys : List Value), FitC C.n S' a' → WRel S' w' wr' → FrA (dstsC b) a a' → (∀ (id b : Nat), S.B[id]? = some b → S'.B[id]? = some b) →
                (∀ (id : Nat) (t : TypeId) (cs : List Value), S.L[id]? = some (t, cs) → ∃ cs', S'.L[id]? = some (t, cs')) → (∀ id, id < S.L.length → id ∉ sp.chgL.map (·.1) → S'.L[id]? = S.L[id]?) →
                valsS S' sp.chg = some xs → valsL S' sp.chgL = some ys → Head C S.aged wr' (dstsC b) a sp (xs ++ ys) wr' a' wr' := by
              intro S' w' a' wr' xs ys h1 h2 h4 h5 h6 h7 h8 h9
              obtain ⟨g1, g2⟩ := head_loc hs hw h2 h5 h6 h7 (valsS_get h8).1 h9
              have hf1 := head_fit (ys := ys) hs hf h1 h4 h8
              refine ⟨⟨hf1.size, hf1.fits, hf1.old⟩, ⟨ExtX.refl _ _, g2, by show (headS S sp (xs ++ ys)).L.length = _; rw [g1]; exact hw.len, hw.dist, fun id b hid hb => ?_⟩, ⟨Nat.le_refl _, fun id hid => by show id < (headS S sp (xs ++ ys)).L.length; rw [g1]; exact (lkAll_mem.1 hid).1⟩, h4⟩
              have : id < S.B.length := (List.getElem?_eq_some_iff.1 hb).1
              have hid' : S.B.length ≤ id := hid
              omega
            obtain ⟨xs, ys, hx, hy, hk, hI⟩ := initV_out (hinit wr hw.ext hw.lt)
            refine wp_loop_ex (fun n a' wr' => ∃ xs ys S', μ (xs ++ ys) wr' = n ∧ Inv (xs ++ ys) wr' ∧ kindsOk sp.ks (xs ++ ys) = true ∧ xs.length = sp.chg.length ∧ valsL S' sp.chgL = some ys ∧ (∀ (id : Nat) (t : TypeId) (cs : List Value), S.L[id]? = some (t, cs) → ∃ cs', S'.L[id]? = some (t, cs')) ∧ Head C S.aged wr' (dstsC b) a sp (xs ++ ys) wr' a' wr')
              (n := μ (xs ++ ys) wr) ⟨xs, ys, S, rfl, hI, hk, (valsS_get hx).1, hy, fun _ _ cs h => ⟨cs, h⟩, mk S w a wr xs ys hf hw (FrA.refl _ _) (fun _ _ h => h) (fun _ _ cs h => ⟨cs, h⟩) (fun _ _ _ => rfl) hx hy⟩ ?_
            rintro n a' wr' ⟨xs, ys, S', rfl, hI, hk, hxl, hyl, hty, hH⟩
            obtain ⟨t1, t2⟩ := head_types hs.nd hty hxl hyl
            have hlen : (headS S sp (xs ++ ys)).L.length = S.L.length := by
              have : (headS S.aged sp (xs ++ ys)).L.length = S.B.length := hH.rel.len
              rw [← hw.len] at this
              exact this
            refine evC_sound E b _ wr' wr' a' _ _ (allKs_out hall hk wr' hH.rel.lt hI) hH.fit hH.rel hH.wf fun e S2 w2 a2 wr2 hK he => ?_
            have hfr' : FrS (headS S sp (xs ++ ys)) S2 := ⟨he.fr.B, he.fr.ty, he.fr.lk⟩
            obtain ⟨f1, f2⟩ := head_FrS hs hwf hlen t1 t2 hfr'
            cases e with
            | normal =>
              obtain ⟨xs', ys', hx', hy', hk', hI', hlt⟩ := initV_out (hK wr2 he.rel.ext he.rel.lt)
              refine ⟨μ (xs' ++ ys') wr2, hlt, xs', ys', S2, rfl, hI', hk', (valsS_get hx').1, hy', f1.ty, ?_⟩
              exact mk S2 w2 a2 wr2 xs' ys' he.fit he.rel (hH.fra.trans he.fra) f1.B f1.ty f2 hx' hy'
            | _ =>
              exact hQ _ _ _ _ _ hK ⟨⟨he.fit.size, he.fit.fits, he.fit.old⟩, ⟨he.rel.ext, he.rel.loc, he.rel.len, he.rel.dist, he.rel.fresh⟩,
                ⟨he.wf.old, fun id hid => by
                  obtain ⟨cs', hc'⟩ := f1.ty id (S.L[id]'(hwf.lk id hid)).1 (S.L[id]'(hwf.lk id hid)).2 (List.getElem?_eq_getElem _)
                  exact (List.getElem?_eq_some_iff.1 hc').1⟩, f1, hH.fra.trans he.fra, fun hp => by rw [hpm] at hp; cases hp⟩
  | .rangeFunc _ _ _ _, _, _, _, _, _, _, h, _, _, _, _ => h.elim
  | .goto _, _, _, _, _, _, _, h, _, _, _, _ => h.elim
  | .refuse _, _, _, _, _, _, _, h, _, _, _, _ => h.elim

/-! ### Functions -/
def initF : List Value → Nat → PT SV
  | [], _ => .leaf
  | v :: r, i => PT.set 12 (initF r (i + 1)) i (.un (.v v))
theorem initF_get : ∀ {l : List Value} {k i : Nat} {sv : SV}, k + l.length ≤ 4000 → (initF l k).get i = some sv → ∃ v, l[i - k]? = some v ∧ k ≤ i ∧ sv = .un (.v v)
  | [], k, i, sv, _, h => by simp [initF, PT.get] at h
  | v :: r, k, i, sv, hl, h => by
    simp only [initF] at h
    simp only [List.length_cons] at hl
    rw [PT.get_set _ 12 _ _ _ (by show @LT.lt Nat _ (k + 1) (2 ^ 12); have e : (2 : Nat) ^ 12 = 4096 := rfl; omega)] at h
    by_cases hk : k = i
    · subst hk
      rw [if_pos rfl] at h
      simp only [Option.some.injEq] at h
      exact ⟨v, by simp, Nat.le_refl _, h.symm⟩
    · rw [if_neg hk] at h
      obtain ⟨u, h1, h2, h3⟩ := initF_get (by omega) h
      refine ⟨u, ?_, by omega, h3⟩
      have : i - k = (i - (k + 1)) + 1 := by omega
      rw [this]; simpa using h1

def initSt (args : List Value) : St := { F := initF args 0, L := [], B := [], old := 0, lk := [], r := 1 }

/-- The results' values at the end. -/
def resV (C : Cfg) (S : St) (w : World) : List ResultVar → (List Value → Prop) → Prop
  | [], K => K []
  | .tmp t :: r, K => match opa S [] (.tmp t) with
    | some v => resV C S w r fun l => K (v :: l)
    | none => False
  | .cell p t :: r, K => match C.T t, opv S [] (.tmp p) with
    | some ty, some (.loc id 0) => match S.L[id]? with
      | some (_, cs) => bif Nat.beq cs.length ty.ks.length then
          (match ty.val cs with
            | some v => resV C S w r fun l => K (v :: l)
            | none => False)
        else False
      | none => False
    | some ty, some (.el o n) => exKs ty.ks fun vs => match ty.val vs with
      | some v => CellsX S.bs w o n vs ∧ resV C S w r fun l => K (v :: l)
      | none => False
    | _, _ => False
def tupV : List Value → Value
  | [v] => v
  | l => .tuple l.toArray

def evFn (C : Cfg) (sps : List (Nat × LSpec)) (args : List Value) (body : Code) (res : List ResultVar) (w : World) (R : Value → World → Prop) : Prop :=
  evC C sps body (initSt args) w fun e S w' => match e with
    | .normal | .ret => resV C S w' res fun l => bif C.pm then R (tupV l) w' else ∀ wr, ExtX S.bs w' wr → R (tupV l) wr
    | _ => False

theorem resV_run {C : Cfg} (E : Env C) {S : St} {w wr : World} {a : Act} (hf : FitC C.n S a) (hw : WRel S w wr) : ∀ {res : List ResultVar} {K : List Value → Prop}, resV C S w res K →
    ∃ l, K l ∧ l.length = res.length ∧ (res.mapM (m := Sem) fun
      | .tmp t => pure (a.tmps.getD t undef)
      | .cell p t => do loadVar t (← asAddr (a.tmps.getD p undef))).run C.P wr = .ok l wr := by
  have hd : ∀ {x : Operand} {e : EV}, opv S [] x = some e → EV.den S e (a.eval x) := fun {x e} hb => by
    have := opv_den (ops := #[]) (hf.enter #[] (fun _ => False)).fit (pc := []) (fun p hp => by cases hp) (S := { S with r := S.r + 1 }) (x := x) (e := e) (by
      cases x with
      | tmp t =>
        simp only [opv] at hb ⊢
        split at hb
        · exact hb
        · rename_i r pc' y hg
          cases hb2 : Nat.beq r S.r && pcSub pc' [] with
          | false => rw [hb2] at hb; cases hb
          | true =>
            simp only [Bool.and_eq_true] at hb2
            have := Nat.eq_of_beq_eq_true hb2.1
            have h2 := hf.old t r pc' y hg
            omega
        · cases hb
      | const v => exact hb
      | global g => exact hb
      | func f => exact hb)
    exact EV.den_mono (S := { S with r := S.r + 1 }) (fun _ _ h => h) this
  intro res
  induction res with
  | nil => intro K h; exact ⟨[], h, rfl, by simp⟩
  | cons x r ih =>
    intro K h
    cases x with
    | tmp t =>
      simp only [resV] at h
      split at h
      · rename_i v hv
        obtain ⟨l, h1, h2, h3⟩ := ih h
        have hv' : a.tmps.getD t undef = v := by
          unfold opa at hv
          split at hv
          · rename_i e he
            exact avl_den hv (hd he)
          · cases hv
        refine ⟨v :: l, h1, by simp [h2], ?_⟩
        simp only [List.mapM_cons, Sem.run_bind, Sem.run_pure, Result.andThen_ok, h3, hv']
      · exact h.elim
    | cell p t =>
      simp only [resV] at h
      split at h
      · rename_i ty id ht he
        obtain ⟨b, hb, hx⟩ := hd he
        simp only [Act.eval] at hx
        split at h
        · rename_i t' cs hl
          cases hc : Nat.beq cs.length ty.ks.length with
          | false => rw [hc] at h; exact h.elim
          | true =>
            rw [hc] at h
            simp only [cond_true] at h
            split at h
            · rename_i v hv
              obtain ⟨l, h1, h2, h3⟩ := ih h
              have hl2 := loadVar_of E.T ht hv (Nat.eq_of_beq_eq_true hc) (a := ⟨b, 0, none⟩) (w := wr) (fun j y hy => by
                rw [Addr.add_lit, loc_cell hw hl hb, Nat.zero_add]; exact hy)
              refine ⟨v :: l, h1, by simp [h2], ?_⟩
              have ha : (asAddr (a.tmps.getD p undef)).run C.P wr = .ok ⟨b, 0, none⟩ wr := by rw [hx]; rfl
              simp only [List.mapM_cons, Sem.run_bind, ha, Sem.run_pure, Result.andThen_ok, hl2, h3]
            · exact h.elim
        · exact h.elim
      · rename_i ty o n ht he
        obtain ⟨ad, ho, hx⟩ := hd he
        simp only [Act.eval] at hx
        obtain ⟨vs, hlen, h⟩ := exKs_out h
        split at h
        · rename_i v hv
          obtain ⟨hcx, h⟩ := h
          obtain ⟨l, h1, h2, h3⟩ := ih h
          have hl2 := loadVar_of E.T ht hv hlen (a := ad.add n) (w := wr) (hcx.cells hw.ext ho)
          refine ⟨v :: l, h1, by simp [h2], ?_⟩
          have ha : (asAddr (a.tmps.getD p undef)).run C.P wr = .ok (ad.add n) wr := by rw [hx]; rfl
          simp only [List.mapM_cons, Sem.run_bind, ha, Sem.run_pure, Result.andThen_ok, hl2, h3]
        · exact h.elim
      · exact h.elim

theorem calls_of_ev {C : Cfg} (E : Env C) {sps : List (Nat × LSpec)} {f : FuncId} {fn : Func} {body : Code} {args : List Value} {w : World} {R : Value → World → Prop}
    (hf : C.P.funcs[f]? = some fn) (hb : fn.body = some body) (hn : fn.ntmps = C.n) (hargs : args.length ≤ C.n) (hn4 : C.n ≤ 4000)
    (h : evFn C sps args body fn.results.toList w R) : Calls C.P f args.toArray w fun e w' => ∃ v wv, e = .returned v ∧ (C.pm = true → wv = w ∧ ExtX [] w w') ∧ (C.pm = true → R v wv) ∧ (C.pm = false → R v w') := by
  refine calls_of_wp hf hb ?_
  have hfit : FitC C.n (initSt args) { tmps := args.toArray ++ Array.replicate (fn.ntmps - args.toArray.size) undef, defers := [] } := by
    have hget : ∀ i sv, (initSt args).F.get i = some sv → ∃ v, args[i]? = some v ∧ sv = .un (.v v) := fun i sv hs => by
      obtain ⟨v, h1, _, h3⟩ := initF_get (by omega) hs
      exact ⟨v, by simpa using h1, h3⟩
    refine ⟨by simp [hn]; omega, fun i x hx => ?_, fun i r pc x hx => ?_⟩
    · obtain ⟨v, h1, h2⟩ := hget i _ hx
      cases h2
      show _ = v
      rw [Array.getD_eq_getD_getElem?, Array.getElem?_append_left (by simpa using (List.getElem?_eq_some_iff.1 h1).1)]
      simp [h1]
    · obtain ⟨v, h1, h2⟩ := hget i _ hx
      cases h2
  have hrel : WRel (initSt args) w w := ⟨ExtX.refl _ _, fun id t cs hl => by simp [initSt] at hl, rfl, List.nodup_nil, fun id b _ hb => by simp [initSt] at hb⟩
  refine evC_sound E body (initSt args) w w _ _ _ h hfit hrel ⟨Nat.zero_le _, fun id hid => by cases hid⟩ fun e S w' a' wr' hK he => ?_
  have fin : resV C S w' fn.results.toList (fun l => bif C.pm then R (tupV l) w' else ∀ wr, ExtX S.bs w' wr → R (tupV l) wr) → a'.defers = [] ∧ ∃ v, (results fn a'.tmps).run C.P wr' = .ok v wr' ∧ ∃ v' wv, Ending.returned v = .returned v' ∧ (C.pm = true → wv = w ∧ ExtX [] w wr') ∧ (C.pm = true → R v' wv) ∧ (C.pm = false → R v' wr') := fun hr => by
    obtain ⟨l, h1, h2, h3⟩ := resV_run E he.fit he.rel hr
    refine ⟨he.fra.1, tupV l, ?_, tupV l, w', rfl, fun hp => ?_, fun hp => ?_, fun hp => ?_⟩
    · simp only [results, Sem.run_bind, Array.mapM_eq_mapM_toList, Sem.run_map]
      refine (congrArg (fun r : Result (List Value) => (r.andThen fun a w' => Result.ok a.toArray w').andThen fun vs w' => (Pure.pure (if h : vs.size = 1 then vs[0] else .tuple vs) : Sem Value).run C.P w') h3).trans ?_
      simp only [Result.andThen_ok, Sem.run_pure]
      congr 1
      cases l with
      | nil => rfl
      | cons x r =>
        cases r with
        | nil => rfl
        | cons y q => simp [tupV]
    · obtain ⟨p1, p2⟩ := he.pm hp
      refine ⟨p1, ?_⟩
      have hx := he.rel.ext
      rw [← p1]
      have hbs : S.bs = [] := by unfold St.bs; rw [p2]; rfl
      rw [hbs] at hx
      exact hx
    · rw [hp] at h1; exact h1
    · rw [hp] at h1; exact h1 wr' he.rel.ext
  cases e with
  | normal => exact fin hK
  | ret => exact fin hK
  | _ => exact hK.elim

/-- A function that only looks: what it returns is known in every world that extends w. -/
theorem pure_of_ev {C : Cfg} (E : Env C) {sps : List (Nat × LSpec)} {f : FuncId} {fn : Func} {body : Code} {args : List Value} {w : World} {bs : List Nat} {r : Value}
    (hf : C.P.funcs[f]? = some fn) (hb : fn.body = some body) (hn : fn.ntmps = C.n) (hargs : args.length ≤ C.n) (hn4 : C.n ≤ 4000) (hpm : C.pm = true)
    (h : ∀ wr, ExtX bs w wr → evFn C sps args body fn.results.toList wr fun v _ => v = r) : PureX bs C.P f args.toArray w r := fun wr hx =>
  (calls_of_ev E hf hb hn hargs hn4 (h wr hx)).mono fun e w' ⟨v, _, he, h1, h2, _⟩ => by
    have := h2 hpm
    subst this
    exact ⟨he, (h1 hpm).2⟩
theorem eff_of_ev {C : Cfg} (E : Env C) {sps : List (Nat × LSpec)} {f : FuncId} {fn : Func} {body : Code} {args : List Value} {w : World} {R : Value → World → Prop}
    (hf : C.P.funcs[f]? = some fn) (hb : fn.body = some body) (hn : fn.ntmps = C.n) (hargs : args.length ≤ C.n) (hn4 : C.n ≤ 4000) (hpm : C.pm = false)
    (h : evFn C sps args body fn.results.toList w R) : Calls C.P f args.toArray w fun e w' => ∃ v, e = .returned v ∧ R v w' :=
  (calls_of_ev E hf hb hn hargs hn4 h).mono fun e w' ⟨v, _, he, _, _, h3⟩ => ⟨v, he, h3 hpm⟩
end Go.Proofs.YthojnihahmlboaaGreat
