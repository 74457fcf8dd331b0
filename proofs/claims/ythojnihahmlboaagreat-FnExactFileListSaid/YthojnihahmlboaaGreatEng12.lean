/- The engine, part 12: the plan of a region that draws its order; its soundness. -/
import Derived.Test.YthojnihahmlboaaGreatEng11
namespace Go.Proofs.YthojnihahmlboaaGreat
open Go.RowKit
set_option linter.unusedVariables false

def firstQ (C : Cfg) (ops : Array Oper) : List Nat → Option Nat
  | [] => none
  | i :: r => match ops[i]? with
    | some o => bif isEff C o.op then firstQ C ops r else some i
    | none => firstQ C ops r
theorem firstQ_spec {C : Cfg} {ops : Array Oper} : ∀ {l : List Nat} {i : Nat}, firstQ C ops l = some i → i ∈ l ∧ ∃ o, ops[i]? = some o ∧ isEff C o.op = false
  | [], _, h => by cases h
  | j :: r, i, h => by
    simp only [firstQ] at h
    split at h
    · rename_i o ho
      cases he : isEff C o.op with
      | true =>
        rw [he] at h
        obtain ⟨h1, h2⟩ := firstQ_spec h
        exact ⟨List.mem_cons_of_mem _ h1, h2⟩
      | false =>
        rw [he] at h
        simp only [cond_false, Option.some.injEq] at h
        subst h
        exact ⟨List.mem_cons_self .., o, ho, he⟩
    · obtain ⟨h1, h2⟩ := firstQ_spec h
      exact ⟨List.mem_cons_of_mem _ h1, h2⟩

def pendOk (M : List Nat) (i : Nat) (S : St) (w : World) : List (Nat × Fact) → Prop → Prop
  | [], A => A
  | (j, f) :: r, A => bif unord M j i then f S w ∧ pendOk M i S w r A else pendOk M i S w r A
theorem pendOk_out {M : List Nat} {i : Nat} {S : St} {w : World} : ∀ {l : List (Nat × Fact)} {A : Prop}, pendOk M i S w l A → A ∧ ∀ p ∈ l, unord M p.1 i = true → p.2 S w
  | [], A, h => ⟨h, fun p hp => by cases hp⟩
  | (j, f) :: r, A, h => by
    simp only [pendOk] at h
    cases hu : unord M j i with
    | true =>
      rw [hu] at h
      obtain ⟨h1, h2⟩ := h
      obtain ⟨h3, h4⟩ := pendOk_out h2
      refine ⟨h3, fun p hp hpu => ?_⟩
      rcases List.mem_cons.1 hp with rfl | hp
      · exact h1
      · exact h4 p hp hpu
    | false =>
      rw [hu] at h
      obtain ⟨h3, h4⟩ := pendOk_out (A := A) h
      refine ⟨h3, fun p hp hpu => ?_⟩
      rcases List.mem_cons.1 hp with rfl | hp
      · rw [hu] at hpu; cases hpu
      · exact h4 p hp hpu

/-- Is the fact trivial? (such a fact need not be kept) -/
def effAll (l : List Nat) (A : Nat → Prop) : Prop :=
  match l with
  | [] => True
  | [i] => A i
  | i :: r => A i ∧ effAll r A
theorem effAll_out : ∀ {l : List Nat} {A : Nat → Prop}, effAll l A → ∀ i ∈ l, A i
  | [], _, _, _, hi => by cases hi
  | [j], A, h, i, hi => by simp only [List.mem_singleton] at hi; subst hi; exact h
  | j :: k :: r, A, h, i, hi => by
    rcases List.mem_cons.1 hi with rfl | hi
    · exact h.1
    · exact effAll_out h.2 i hi

def pendAdd (i : Nat) (f : OFact) (pend : List (Nat × Fact)) : List (Nat × Fact) :=
  match f with
  | some f => (i, f) :: pend
  | none => pend

def evPlan (C : Cfg) (ops : Array Oper) (M : List Nat) : Nat → Array Bool → List (Nat × Fact) → St → World → (St → World → Prop) → Prop
  | 0, listed, _, S, w, K => match Region.ready .any ops listed with
    | [] => K S w
    | _ => False
  | n + 1, listed, pend, S, w, K => match Region.ready .any ops listed with
    | [] => K S w
    | rs => match firstQ C ops rs with
      | some i => match ops[i]? with
        | some o => bif Region.free .any ops listed i then evOp C ops (fun j => listed.getD j false) o S w fun f S' w' => evPlan C ops M n (listed.setIfInBounds i true) (pendAdd i f pend) S' w' K else False
        | none => False
      | none => effAll rs fun i => match ops[i]? with
        | some o => evOp C ops (fun j => listed.getD j false) o S w fun _ S' w' => pendOk M i S' w' pend (evPlan C ops M n (listed.setIfInBounds i true) pend S' w' K)
        | none => False

/-- A quiet operation, for the plan: its value in the slot, and what keeps it. -/
theorem evOp_quiet {C : Cfg} (E : Env C) {ops : Array Oper} {D D' : Nat → Prop} {dn : Nat → Bool} {i : Nat} {o : Oper} {S : St} {w : World} {a : Act} {K : OFact → St → World → Prop}
    (hu : uniqB ops = true) (ho : ops[i]? = some o) (hi : ¬ D i) (hD : ∀ j, D j → isG ops j) (hDD : ∀ j, D j → D' j) (hdn : ∀ j, dn j = true → isG ops j → D j)
    (hf : FitD C.n S ops D a) (hwf : WfS S) (he : isEff C o.op = false) (h : evOp C ops dn o S w K) :
    ∃ f v S', K f S' w ∧ FitD C.n S' ops D' (a.put o.dst v) ∧ WfS S' ∧ FrS S S' ∧ S'.r = S.r ∧ S'.old = S.old ∧ (∀ w wr, WRel S w wr ↔ WRel S' w wr) ∧ YS C.P (WRel S w) (semOf ops o a) v ∧
      (∀ (S'' : St) (w'' : World), FrS S S'' → holdsF f S'' w'' → YS C.P (WRel S'' w'') (semOf ops o a) v) := by
  unfold evOp at h
  cases hb : (gOk dn o && !badDst o) with
  | false => rw [hb] at h; exact h.elim
  | true =>
    rw [hb] at h
    simp only [cond_true] at h
    simp only [Bool.and_eq_true, Bool.not_eq_true'] at hb
    have hg : ∀ j b, o.guard = some (j, b) → D j := fun j b hgd => by
      refine hdn j ?_ ⟨o, by rw [Array.mem_toList_iff]; exact Array.mem_of_getElem? ho, b, hgd⟩
      have := hb.1
      unfold gOk at this
      rw [hgd] at this
      exact this
    split at h
    · exact h.elim
    · rename_i pc hpc
      have hpcD := opPc_D hf hpc hg
      have hwant := opPc_wanted hf.fit hpc
      have hrel : ∀ {sv : SV} (w wr : World), WRel S w wr ↔ WRel (S.putF o.dst sv) w wr := fun {sv} w wr => by
        cases o.dst
        · exact Iff.rfl
        · exact ⟨fun h => ⟨h.ext, h.loc, h.len, h.dist, h.fresh⟩, fun h => ⟨h.ext, h.loc, h.len, h.dist, h.fresh⟩⟩
      cases hdd : deadOp S ops pc o with
      | true =>
        rw [hdd] at h
        simp only [cond_true] at h
        have hp := deadOp_not hf.fit hpc hdd
        have hw1 : ¬ Region.wanted o (yielded ops a.tmps) = true := fun hw1 => hp (hwant.1 hw1)
        obtain ⟨h1, h2⟩ := putS_out h
        have hs : semOf ops o a = none := by unfold semOf; rw [if_neg hw1]
        refine ⟨none, undef, _, h1, hf.put hu ho hi hD hDD hpcD h2 ⟨fun hp' => absurd hp' hp, fun _ => rfl⟩, hwf.putF _ _, (FrS.refl S).putF _ _, by cases o.dst <;> rfl, by cases o.dst <;> rfl, hrel, ?_, fun S'' w'' hfr hfc => ?_⟩ <;> (rw [hs]; rfl)
      | false =>
      rw [hdd] at h
      rw [he] at h
      simp only [cond_false] at h
      by_cases hp : pcH ops a pc
      · have hw1 := hwant.2 hp
        obtain ⟨e, fact, v, hK, hden, hfact, hq⟩ := evq_sound E.T E.pf hf.fit hp h
        obtain ⟨h1, h2⟩ := putS_out hK
        refine ⟨fact, v, _, h1, hf.put hu ho hi hD hDD hpcD h2 ⟨fun _ => hden, fun hn => absurd hp hn⟩, hwf.putF _ _, (FrS.refl S).putF _ _, by cases o.dst <;> rfl, by cases o.dst <;> rfl, hrel, ?_, fun S'' w'' hfr hfc => ?_⟩
        · unfold semOf; rw [if_pos hw1]; exact fun wr hw => hq S w a rfl (fun _ _ h => h) hfact wr hw
        · unfold semOf; rw [if_pos hw1]; exact fun wr hw => hq S'' w'' a rfl hfr.B hfc wr hw
      · have hw1 : ¬ Region.wanted o (yielded ops a.tmps) = true := fun hw1 => hp (hwant.1 hw1)
        obtain ⟨e, fact, hK⟩ := evq_some h
        obtain ⟨h1, h2⟩ := putS_out hK
        have hs : semOf ops o a = none := by unfold semOf; rw [if_neg hw1]
        refine ⟨fact, undef, _, h1, hf.put hu ho hi hD hDD hpcD h2 ⟨fun hp' => absurd hp' hp, fun _ => rfl⟩, hwf.putF _ _, (FrS.refl S).putF _ _, by cases o.dst <;> rfl, by cases o.dst <;> rfl, hrel, ?_, fun S'' w'' hfr hfc => ?_⟩ <;> (rw [hs]; rfl)

/-! ### A region -/
def evReg (C : Cfg) (ops : Array Oper) (draw : Bool) (S : St) (w : World) (K : St → World → Prop) : Prop :=
  bif uniqB ops then
    (bif draw then
      (bif Region.noSelect ops then evPlan C ops (ancMask ops.toList []) ops.size (Array.replicate ops.size false) [] { S with r := S.r + 1 } w fun S' w' => K { S' with r := S'.r + 1 } w' else False)
    else evSeq C ops ops.toList 0 { S with r := S.r + 1 } w fun S' w' => K { S' with r := S'.r + 1 } w')
  else False

/-- Between regions no condition of a region counts. -/
structure FitC (n : Nat) (S : St) (a : Act) : Prop where
  size : a.tmps.size = n
  fits : ∀ i x, S.F.get i = some (.un x) → EV.den S x (a.tmps.getD i undef)
  old : ∀ i r pc x, S.F.get i = some (.gd r pc x) → r < S.r

theorem FitC.enter {n : Nat} {S : St} {a : Act} (h : FitC n S a) (ops : Array Oper) (D : Nat → Prop) : FitD n { S with r := S.r + 1 } ops D a :=
  ⟨⟨h.size, fun i s hs => by
    cases s with
    | un x => exact EV.den_mono (S := S) (fun _ _ h => h) (h.fits i x hs)
    | gd r pc x => intro hr; have := h.old i r pc x hs; simp only at hr; omega⟩, fun i pc x hx => by have := h.old i _ pc x hx; simp only at this; omega, fun i r pc x hx => by have := h.old i r pc x hx; show r ≤ S.r + 1; omega⟩
theorem FitD.leave {n : Nat} {S : St} {ops : Array Oper} {D : Nat → Prop} {a : Act} (h : FitD n S ops D a) : FitC n { S with r := S.r + 1 } a :=
  ⟨h.fit.size, fun i x hx => EV.den_mono (S := S) (fun _ _ h => h) (h.fit.fits i (.un x) hx), fun i r pc x hx => Nat.lt_succ_of_le (h.st i r pc x hx)⟩

theorem opPc_nil_wanted {S : St} {ops : Array Oper} {o : Oper} {y : Nat → Option Bool} (h : opPc S ops o = some []) : Region.wanted o y = true := by
  unfold opPc at h
  split at h
  · rename_i hg; unfold Region.wanted; rw [hg]
  · split at h
    · split at h
      · cases h
      · rename_i r pc b hv
        cases hr : Nat.beq r S.r with
        | false => rw [hr] at h; cases h
        | true => rw [hr] at h; cases h
      · rename_i r pc hv
        cases hr : Nat.beq r S.r with
        | false => rw [hr] at h; cases h
        | true => rw [hr] at h; cases h
      · cases h
    · cases h
/-- An effect whose guard says no. -/
theorem evOp_skip {C : Cfg} {ops : Array Oper} {D D' : Nat → Prop} {dn : Nat → Bool} {i : Nat} {o : Oper} {S : St} {w : World} {a : Act} {K : OFact → St → World → Prop}
    (hu : uniqB ops = true) (ho : ops[i]? = some o) (hi : ¬ D i) (hD : ∀ j, D j → isG ops j) (hDD : ∀ j, D j → D' j) (hdn : ∀ j, dn j = true → isG ops j → D j)
    (hf : FitD C.n S ops D a) (hwf : WfS S) (he : isEff C o.op = true) (hw1 : ¬ Region.wanted o (yielded ops a.tmps) = true) (h : evOp C ops dn o S w K) :
    ∃ S', K none S' w ∧ FitD C.n S' ops D' (a.put o.dst undef) ∧ WfS S' ∧ FrS S S' ∧ S'.r = S.r ∧ S'.old = S.old ∧ (∀ w wr, WRel S w wr ↔ WRel S' w wr) := by
  unfold evOp at h
  cases hb : (gOk dn o && !badDst o) with
  | false => rw [hb] at h; exact h.elim
  | true =>
    rw [hb] at h
    simp only [cond_true] at h
    simp only [Bool.and_eq_true, Bool.not_eq_true'] at hb
    have hg : ∀ j b, o.guard = some (j, b) → D j := fun j b hgd => by
      refine hdn j ?_ ⟨o, by rw [Array.mem_toList_iff]; exact Array.mem_of_getElem? ho, b, hgd⟩
      have := hb.1
      unfold gOk at this
      rw [hgd] at this
      exact this
    split at h
    · exact h.elim
    · rename_i pc hpc
      have hpcD := opPc_D hf hpc hg
      have hwant := opPc_wanted hf.fit hpc
      have hrel : ∀ {sv : SV} (w wr : World), WRel S w wr ↔ WRel (S.putF o.dst sv) w wr := fun {sv} w wr => by
        cases o.dst
        · exact Iff.rfl
        · exact ⟨fun h => ⟨h.ext, h.loc, h.len, h.dist, h.fresh⟩, fun h => ⟨h.ext, h.loc, h.len, h.dist, h.fresh⟩⟩
      cases hdd : deadOp S ops pc o with
      | true =>
        rw [hdd] at h
        simp only [cond_true] at h
        have hp := deadOp_not hf.fit hpc hdd
        obtain ⟨h1, h2⟩ := putS_out h
        exact ⟨_, h1, hf.put hu ho hi hD hDD hpcD h2 ⟨fun hp' => absurd hp' hp, fun _ => rfl⟩, hwf.putF _ _, (FrS.refl S).putF _ _, by cases o.dst <;> rfl, by cases o.dst <;> rfl, hrel⟩
      | false =>
      rw [hdd] at h
      simp only [cond_false] at h
      rw [he] at h
      simp only [cond_true] at h
      split at h
      · exact absurd (hwant.2 (fun p hp => by cases hp)) hw1
      · cases hpo : pcOk S ops pc with
        | false => rw [hpo] at h; exact h.elim
        | true =>
          rw [hpo] at h
          simp only [cond_true] at h
          have hp : ¬ pcH ops a pc := fun hp => hw1 (hwant.2 hp)
          obtain ⟨h1, h2⟩ := putS_out (h.2 (gdP_not hf.fit hpo hp))
          exact ⟨_, h1, hf.put hu ho hi hD hDD hpcD h2 ⟨fun hp' => absurd hp' hp, fun _ => rfl⟩, hwf.putF _ _, (FrS.refl S).putF _ _, by cases o.dst <;> rfl, by cases o.dst <;> rfl, hrel⟩
theorem firstQ_none {C : Cfg} {ops : Array Oper} : ∀ {l : List Nat}, firstQ C ops l = none → ∀ i ∈ l, ∀ o, ops[i]? = some o → isEff C o.op = true
  | [], _, i, hi, _, _ => by cases hi
  | j :: r, h, i, hi, o, ho => by
    simp only [firstQ] at h
    split at h
    · rename_i o' ho'
      cases he : isEff C o'.op with
      | false => rw [he] at h; cases h
      | true =>
        rw [he] at h
        rcases List.mem_cons.1 hi with rfl | hi
        · rw [ho'] at ho; cases ho; exact he
        · exact firstQ_none h i hi o ho
    · rename_i ho'
      rcases List.mem_cons.1 hi with rfl | hi
      · rw [ho'] at ho; cases ho
      · exact firstQ_none h i hi o ho

theorem dst_mem {ops : Array Oper} {i : Nat} {o : Oper} (ho : ops[i]? = some o) : ∀ x, o.dst = some x → x ∈ dstsL ops.toList := fun x hx => by
  have hm : o ∈ ops.toList := by rw [Array.mem_toList_iff]; exact Array.mem_of_getElem? ho
  generalize ops.toList = q at hm
  induction q with
  | nil => cases hm
  | cons y q ih =>
    simp only [dstsL]
    rcases List.mem_cons.1 hm with rfl | hm
    · rw [hx]; exact List.mem_cons_self ..
    · split
      · exact List.mem_cons_of_mem _ (ih hm)
      · exact ih hm

def DL (ops : Array Oper) (listed : Array Bool) (j : Nat) : Prop := listed.getD j false = true ∧ isG ops j
def PQ (C : Cfg) (ops : Array Oper) (K : St → World → Prop) (S0 : St) (w0 : World) (a0 : Act) (ds : List Nat) (a : Act) (R : World → Prop) : Prop :=
  ∃ S' w', K S' w' ∧ FitC C.n { S' with r := S'.r + 1 } a ∧ WfS S' ∧ FrS S0 S' ∧ S'.r = S0.r ∧ FrA ds a0 a ∧ (C.pm = true → w' = w0 ∧ S'.old = S0.old) ∧ R = WRel S' w'

theorem evPlan_sound {C : Cfg} (E : Env C) {ops : Array Oper} (hu : uniqB ops = true) (hsel : Region.noSelect ops = true) {K : St → World → Prop} {S0 : St} {w0 : World} {a0 : Act} {ds : List Nat} (hds : ∀ x ∈ dstsL ops.toList, x ∈ ds) :
    ∀ (n : Nat) (listed : Array Bool) (pend : List (Nat × Fact)) (Pd : List (Nat × Option (Sem Next) × Value)) (S : St) (w : World) (a : Act), evPlan C ops (ancMask ops.toList []) n listed pend S w K → Closed ops listed →
      FitD C.n S ops (DL ops listed) a → WfS S → FrS S0 S → S.r = S0.r → FrA ds a0 a → (C.pm = true → w = w0 ∧ S.old = S0.old) →
      (∀ p ∈ Pd, (∃ f : Fact, (p.1, f) ∈ pend ∧ ∀ (S'' : St) (w'' : World), FrS S S'' → f S'' w'' → YS C.P (WRel S'' w'') p.2.1 p.2.2) ∨ (∀ (S'' : St) (w'' : World), FrS S S'' → YS C.P (WRel S'' w'') p.2.1 p.2.2)) →
      wpAnyR C.P ops (unord (ancMask ops.toList [])) (PQ C ops K S0 w0 a0 ds) n listed Pd a (WRel S w)
  | 0, listed, pend, Pd, S, w, a, h, hcl, hf, hwf, hfr, hr, hfa, hpm, hpd => by
    simp only [evPlan] at h
    split at h
    · rename_i hrd
      exact ⟨hrd, S, w, h, hf.leave, hwf, hfr, hr, hfa, hpm, rfl⟩
    · exact h.elim
  | n + 1, listed, pend, Pd, S, w, a, h, hcl, hf, hwf, hfr, hr, hfa, hpm, hpd => by
    simp only [evPlan] at h
    split at h
    · rename_i hrd
      exact ⟨fun _ => ⟨S, w, h, hf.leave, hwf, hfr, hr, hfa, hpm, rfl⟩, fun i hi => by rw [hrd] at hi; cases hi⟩
    · rename_i hrd
      split at h
      · rename_i i hi
        obtain ⟨him, o', ho', he⟩ := firstQ_spec hi
        split at h
        · rename_i o ho
          rw [ho] at ho'; cases ho'
          cases hfree : Region.free .any ops listed i with
          | false => rw [hfree] at h; exact h.elim
          | true =>
            rw [hfree] at h
            simp only [cond_true] at h
            obtain ⟨hun, _, _, hall⟩ := mem_ready.1 him
            have hni : ¬ DL ops listed i := fun hd => by
              have h1 := hd.1
              rcases Nat.lt_or_ge i listed.size with h' | h'
              · simp [h'] at h1 hun; rw [h1] at hun; cases hun
              · simp [Array.getElem?_eq_none h'] at h1
            obtain ⟨f, v, S', hK, hf', hwf', hfr', hr', hold', hrel, hys, hyf⟩ := evOp_quiet E (i := i) (D' := DL ops (listed.setIfInBounds i true)) hu ho hni (fun j hj => hj.2) (fun j hj => ⟨getD_set_true hj.1, hj.2⟩) (fun j h1 h2 => ⟨h1, h2⟩) hf hwf he h
            have hcl' : Closed ops (listed.setIfInBounds i true) := fun k ok hk hkl e he hb => by
              by_cases hik : i = k
              · subst hik
                rw [ho] at hk; cases hk
                obtain ⟨_, o2, ho2, hall2⟩ := mem_ready.1 him
                rw [ho] at ho2; cases ho2
                exact getD_set_true (hall2 e he hb)
              · rw [getD_set_ne true hik] at hkl
                exact getD_set_true (hcl k ok hk hkl e he hb)
            have heq : WRel S w = WRel S' w := funext fun wr => propext (hrel w wr)
            refine take_first (fun j o cs b hj => Region.noSelect_spec hsel j o cs b hj) (fun listed i j h1 h2 h3 h4 => unord_ready listed i j h1 h2 h3 h4) ho n listed Pd a (WRel S w) hcl (fun j oj hj hji hjun hno => Region.free_spec ho hfree j oj hj hji hjun hno) him hys ?_
            rw [heq]
            refine evPlan_sound E hu hsel hds n _ (pendAdd i f pend) _ S' w _ hK hcl' hf' hwf' (hfr.trans hfr') (hr'.trans hr) (hfa.trans (FrA.put a _ v ds fun x hx => hds x (dst_mem ho x hx))) (fun hp => ⟨(hpm hp).1, hold'.trans (hpm hp).2⟩) fun p hp => ?_
            rcases List.mem_cons.1 hp with rfl | hp
            · cases f with
              | none => exact .inr fun S'' w'' hs => hyf S'' w'' (hfr'.trans hs) trivial
              | some f => exact .inl ⟨f, List.mem_cons_self .., fun S'' w'' hs hfc => hyf S'' w'' (hfr'.trans hs) hfc⟩
            · rcases hpd p hp with ⟨f', hm, hs'⟩ | hs'
              · refine .inl ⟨f', ?_, fun S'' w'' hs hfc => hs' S'' w'' (hfr'.trans hs) hfc⟩
                cases f with
                | none => exact hm
                | some f => exact List.mem_cons_of_mem _ hm
              · exact .inr fun S'' w'' hs => hs' S'' w'' (hfr'.trans hs)
        · exact h.elim
      · rename_i hnone
        refine ⟨fun h0 => absurd h0 (by assumption), fun i hi o ho => ?_⟩
        have h1 := effAll_out h i hi
        rw [ho] at h1
        simp only at h1
        have he := firstQ_none hnone i hi o ho
        obtain ⟨hun, o2, ho2, hall⟩ := mem_ready.1 hi
        rw [ho] at ho2; cases ho2
        have hni : ¬ DL ops listed i := fun hd => by
          have h1 := hd.1
          rcases Nat.lt_or_ge i listed.size with h' | h'
          · simp [h'] at h1 hun; rw [h1] at hun; cases hun
          · simp [Array.getElem?_eq_none h'] at h1
        have hcl' : Closed ops (listed.setIfInBounds i true) := fun k ok hk hkl e he hb => by
          by_cases hik : i = k
          · subst hik
            rw [ho] at hk; cases hk
            exact getD_set_true (hall e he hb)
          · rw [getD_set_ne true hik] at hkl
            exact getD_set_true (hcl k ok hk hkl e he hb)
        by_cases hw1 : Region.wanted o (yielded ops a.tmps) = true
        case neg =>
          obtain ⟨S', hK, hf', hwf', hfr', hr', hold', hrel⟩ := evOp_skip (i := i) (D' := DL ops (listed.setIfInBounds i true)) hu ho hni (fun j hj => hj.2) (fun j hj => ⟨getD_set_true hj.1, hj.2⟩) (fun j h1 h2 => ⟨h1, h2⟩) hf hwf he hw1 h1
          obtain ⟨hev, _⟩ := pendOk_out hK
          have heq : WRel S w = WRel S' w := funext fun wr => propext (hrel w wr)
          have hs0 : semOf ops o a = none := by unfold semOf; rw [if_neg hw1]
          refine .inl ⟨undef, by rw [hs0]; rfl, ?_⟩
          rw [heq]
          refine evPlan_sound E hu hsel hds n _ pend _ S' w _ hev hcl' hf' hwf' (hfr.trans hfr') (hr'.trans hr) (hfa.trans (FrA.put a _ _ ds fun x hx => hds x (dst_mem ho x hx))) (fun hp => ⟨(hpm hp).1, hold'.trans (hpm hp).2⟩) fun p hp => ?_
          rcases List.mem_cons.1 hp with rfl | hp
          · exact .inr fun S'' w'' hs => by rw [hs0]; rfl
          · rcases hpd p hp with ⟨f', hm, hs'⟩ | hs'
            · exact .inl ⟨f', hm, fun S'' w'' hs hfc => hs' S'' w'' (hfr'.trans hs) hfc⟩
            · exact .inr fun S'' w'' hs => hs' S'' w'' (hfr'.trans hs)
        refine .inr ⟨hw1, fun wr hwr => ?_⟩
        have hstep := evOp_sound E (i := i) (D' := DL ops (listed.setIfInBounds i true))
          (N := fun a' w' => (∃ v, a' = a.put o.dst v) ∧ ∃ S' w'', pendOk (ancMask ops.toList []) i S' w'' pend (evPlan C ops (ancMask ops.toList []) n (listed.setIfInBounds i true) pend S' w'' K) ∧ Lands C S w ops (DL ops (listed.setIfInBounds i true)) o a S' w'' a' w') (Q := fun _ _ _ => False)
          hu ho hni (fun j hj => hj.2) (fun j hj => ⟨getD_set_true hj.1, hj.2⟩) (fun j h1 h2 => ⟨h1, h2⟩) hf hwr hwf (fun f S' w' a' wr' hK hL => ⟨hL.put, S', w', hK, hL⟩) h1
        rw [if_pos hw1] at hstep
        refine effU_mono (fun v w' hN => ?_) (effU_of_wp hstep fun a' w' hN => hN.1)
        obtain ⟨_, S', w'', hpo, hL⟩ := hN
        obtain ⟨hev, hfacts⟩ := pendOk_out hpo
        refine ⟨WRel S' w'', hL.rel, fun p hp hpu => ?_, evPlan_sound E hu hsel hds n _ pend Pd S' w'' _ hev hcl' hL.fit hL.wf (hfr.trans hL.fr) (hL.r.trans hr) (hfa.trans (FrA.put a o.dst v ds fun x hx => hds x (dst_mem ho x hx))) (fun hp => ⟨(hL.pm hp).1.trans (hpm hp).1, (hL.pm hp).2.trans (hpm hp).2⟩) fun p hp => ?_⟩
        · rcases hpd p hp with ⟨f', hm, hs'⟩ | hs'
          · exact hs' S' w'' hL.fr (hfacts _ hm hpu)
          · exact hs' S' w'' hL.fr
        · rcases hpd p hp with ⟨f', hm, hs'⟩ | hs'
          · exact .inl ⟨f', hm, fun S'' w3 hs hfc => hs' S'' w3 (hL.fr.trans hs) hfc⟩
          · exact .inr fun S'' w3 hs => hs' S'' w3 (hL.fr.trans hs)
end Go.Proofs.YthojnihahmlboaaGreat
