/- The engine, part 10: one operation; a region in text order. -/
import Derived.Test.YthojnihahmlboaaGreatEng9
namespace Go.Proofs.YthojnihahmlboaaGreat
open Go.RowKit
set_option linter.unusedVariables false

theorem evBin_some {G : Prop → Prop} {d : TD} {op : BinOp} {a b : Value} {K : Value → Prop} (h : evBin G d op a b K) : ∃ v, K v := by
  have kk : ∀ {p : Prop} [Decidable p] {A : Prop}, (bif decide p then A else False) → A := fun {p _ A} h => by
    by_cases hk : p
    · simpa [hk] using h
    · simp [hk] at h
  unfold evBin at h
  split at h <;> first
    | exact h.elim
    | exact ⟨_, h⟩
    | exact ⟨_, h.2⟩
    | exact ⟨_, (kk h).2⟩
    | exact ⟨_, kk h⟩
theorem pickRes_some {a b : Operand} {cb : Bool} {x y : Value} {K : Value → Prop} (h : pickRes a b cb x y K) : ∃ v, K v := by
  unfold pickRes at h
  split at h <;> first | exact h.elim | exact ⟨_, h⟩

theorem evq_some {C : Cfg} {S : St} {w : World} {ops : Array Oper} {o : Oper} {pc : List (Nat × Bool)} {K : EV → OFact → Prop} (h : evq C S w ops o pc K) : ∃ e fact, K e fact := by
  unfold evq at h
  split at h
  case h_3 =>
    split at h
    · split at h
      · split at h
        · exact ⟨_, _, h⟩
        · exact h.elim
      · split at h
        · exact ⟨_, _, h⟩
        · exact h.elim
      · split at h
        · obtain ⟨v, h⟩ := pickRes_some h; exact ⟨_, _, h⟩
        · exact h.elim
    · exact h.elim
  case h_5 =>
    split at h
    · rename_i ty u v ht hu hv
      cases hb : byR ty.d _ C.wr with
      | true =>
        rw [hb] at h
        simp only [cond_true] at h
        obtain ⟨v, h⟩ := exK_out h
        exact ⟨_, _, h.2⟩
      | false =>
        rw [hb] at h
        simp only [cond_false] at h
        obtain ⟨v, h⟩ := evBin_some h
        exact ⟨_, _, h⟩
    · exact h.elim
  case h_14 =>
    (repeat' split at h) <;> first
      | exact h.elim
      | (obtain ⟨l, _, h⟩ := lowOf_out h; obtain ⟨u, _, h⟩ := highOf_out h; exact ⟨_, _, h.2⟩)
  case h_19 =>
    split at h
    · obtain ⟨l, _, h⟩ := exKs_out h
      split at h
      · exact ⟨_, _, h.2⟩
      · exact h.elim
    · rename_i ty ob ht hx
      cases hk : ty.ks.isEmpty with
      | true => rw [hk] at h; exact h.elim
      | false =>
        rw [hk] at h
        obtain ⟨l, _, h⟩ := exKs_out h
        split at h
        · exact ⟨_, _, h.2⟩
        · exact h.elim
    · (repeat' split at h) <;> first
        | exact h.elim
        | exact ⟨_, _, h⟩
    · (repeat' split at h) <;> first
        | exact h.elim
        | (obtain ⟨v, h⟩ := exK_out h; exact ⟨_, _, h.2⟩)
    · exact h.elim
  case h_21 =>
    (repeat' split at h) <;> first
      | exact h.elim
      | (obtain ⟨v, h⟩ := exRes_out h; exact ⟨_, _, h.2⟩)
  case h_16 =>
    split at h
    · rename_i ty v ht hx
      cases ho' : ty.d.isOther with
      | true => rw [ho'] at h; exact h.elim
      | false => rw [ho'] at h; exact ⟨_, _, h⟩
    · exact h.elim
  case h_17 =>
    (repeat' split at h) <;> first
      | exact h.elim
      | (obtain ⟨v, h⟩ := exRes_out h; exact ⟨_, _, h.2⟩)
  all_goals
    (repeat' split at h) <;> first
      | exact h.elim
      | exact ⟨_, _, h⟩
      | exact ⟨_, _, h.2⟩
      | (obtain ⟨v, h⟩ := exK_out h; exact ⟨_, _, h.2⟩)

def badDst (o : Oper) : Bool :=
  match o.op, o.dst with
  | .store _ _ _, some _ => true
  | _, _ => false
def gOk (dn : Nat → Bool) (o : Oper) : Bool :=
  match o.guard with
  | some (j, _) => dn j
  | none => true
/-- Is the operation's guard the word of an operation that was passed over? -/
def guardNo (S : St) (ops : Array Oper) (o : Oper) : Bool := match o.guard with
  | none => false
  | some (j, _) => match (ops[j]?).bind (·.dst) with
    | some d => match S.F.get d with
      | some (.gd _ _ .no) => true
      | _ => false
    | none => false
/-- Does it read a slot of an effect that was passed over? -/
def deadOp (S : St) (ops : Array Oper) (pc : List (Nat × Bool)) (o : Oper) : Bool := guardNo S ops o || o.op.operands.toList.any fun x => match opv S pc x with
  | some .no => true
  | _ => false
theorem deadOp_not {n : Nat} {S : St} {ops : Array Oper} {a : Act} (hf : Fits n S ops a) {pc : List (Nat × Bool)} {o : Oper} (hpc : opPc S ops o = some pc) (h : deadOp S ops pc o = true) : ¬ pcH ops a pc := fun hp => by
  unfold deadOp at h
  rcases Bool.or_eq_true_iff.1 h with h | h
  · unfold guardNo at h
    split at h
    · cases h
    · rename_i j want hg
      split at h
      · rename_i d hd
        split at h
        · rename_i r pc' hv
          unfold opPc at hpc
          rw [hg] at hpc
          simp only [hd, hv] at hpc
          cases hr : Nat.beq r S.r with
          | false => rw [hr] at hpc; cases hpc
          | true =>
            rw [hr] at hpc
            simp only [cond_true, Option.some.injEq] at hpc
            subst hpc
            exact ((hf.fits d _ hv (Nat.eq_of_beq_eq_true hr)).1 fun p hm => hp p (List.mem_cons_of_mem _ hm)).elim
        · cases h
      · cases h
  · obtain ⟨x, _, hx⟩ := List.any_eq_true.1 h
    split at hx
    · rename_i hv
      exact (opv_den hf hp hv).elim
    · cases hx
def evOp (C : Cfg) (ops : Array Oper) (dn : Nat → Bool) (o : Oper) (S : St) (w : World) (K : OFact → St → World → Prop) : Prop :=
  bif gOk dn o && !badDst o then
    match opPc S ops o with
    | none => False
    | some pc => bif deadOp S ops pc o then putS C S o.dst (svOf S pc .no) fun S' => K none S' w else bif isEff C o.op then (match pc with
      | [] => evE C S w o [] (K none)
      | pc => bif pcOk S ops pc then gdP S ops pc (evE C S w o pc (K none)) ∧ (gdP S ops pc False → putS C S o.dst (svOf S pc .no) fun S' => K none S' w) else False)
      else evq C S w ops o pc fun e f => putS C S o.dst (svOf S pc e) fun S' => K f S' w
  else False

/-- What goes on behind an operation. -/
structure Lands (C : Cfg) (S : St) (w : World) (ops : Array Oper) (D : Nat → Prop) (o : Oper) (a : Act) (S' : St) (w' : World) (a' : Act) (wr' : World) : Prop where
  fit : FitD C.n S' ops D a'
  rel : WRel S' w' wr'
  wf : WfS S'
  fr : FrS S S'
  r : S'.r = S.r
  put : ∃ v, a' = a.put o.dst v
  pm : C.pm = true → w' = w ∧ S'.old = S.old

theorem opPc_D {S : St} {ops : Array Oper} {D : Nat → Prop} {n : Nat} {a : Act} (hf : FitD n S ops D a) {o : Oper} {pc : List (Nat × Bool)} (h : opPc S ops o = some pc) (hg : ∀ j b, o.guard = some (j, b) → D j) : ∀ p ∈ pc, D p.1 := by
  unfold opPc at h
  split at h
  · simp only [Option.some.injEq] at h; subst h; intro p hp; cases hp
  · rename_i j want hgd
    split at h
    · rename_i d hd
      split at h
      · simp only [Option.some.injEq] at h; subst h
        intro p hp
        simp only [List.mem_singleton] at hp
        subst hp
        exact hg j want hgd
      · rename_i r pc' b hv
        cases hr : Nat.beq r S.r with
        | false => rw [hr] at h; cases h
        | true =>
          rw [hr] at h
          simp only [cond_true, Option.some.injEq] at h; subst h
          intro p hp
          rcases List.mem_cons.1 hp with rfl | hp
          · exact hg j want hgd
          · have := Nat.eq_of_beq_eq_true hr
            subst this
            exact hf.dn d pc' _ hv p hp
      · rename_i r pc' hv
        cases hr : Nat.beq r S.r with
        | false => rw [hr] at h; cases h
        | true =>
          rw [hr] at h
          simp only [cond_true, Option.some.injEq] at h; subst h
          intro p hp
          rcases List.mem_cons.1 hp with rfl | hp
          · exact hg j want hgd
          · have := Nat.eq_of_beq_eq_true hr
            subst this
            exact hf.dn d pc' _ hv p hp
      · cases h
    · cases h

structure Env (C : Cfg) : Prop where
  T : TOk C.P C.T
  pf : ∀ f ks, asc C.pf f = some ks → Callable C.P f
  ef : ∀ f ks, asc C.ef f = some ks → Callable C.P f
  mixed : C.P.follows .mixedOrders = true

/-- One operation, in the region's text or out of it: if it runs, it lands; if its guard says no, its slot is void. -/
theorem evOp_sound {C : Cfg} (E : Env C) {ops : Array Oper} {D D' : Nat → Prop} {dn : Nat → Bool} {i : Nat} {o : Oper} {S : St} {w wr : World} {a : Act} {K : OFact → St → World → Prop} {N : Act → World → Prop} {Q : Exit → Act → World → Prop}
    (hu : uniqB ops = true) (ho : ops[i]? = some o) (hi : ¬ D i) (hD : ∀ j, D j → isG ops j) (hDD : ∀ j, D j → D' j) (hdn : ∀ j, dn j = true → isG ops j → D j)
    (hf : FitD C.n S ops D a) (hw : WRel S w wr) (hwf : WfS S)
    (hN : ∀ f S' w' a' wr', K f S' w' → Lands C S w ops D' o a S' w' a' wr' → N a' wr') (h : evOp C ops dn o S w K) :
    if Region.wanted o (yielded ops a.tmps) then o.wp C.P a wr N Q else N (a.put o.dst undef) wr := by
  unfold evOp at h
  cases hb : (gOk dn o && !badDst o) with
  | false => rw [hb] at h; exact h.elim
  | true =>
    rw [hb] at h
    simp only [cond_true] at h
    simp only [Bool.and_eq_true, Bool.not_eq_true'] at hb
    have hg : ∀ j b, o.guard = some (j, b) → D j := fun j b hgd => by
      refine hdn j ?_ ⟨o, by rw [Array.mem_toList_iff]; exact Array.mem_of_getElem? ho, b, hgd⟩
      have := hb.1
      unfold gOk at this
      rw [hgd] at this
      exact this
    split at h
    · exact h.elim
    · rename_i pc hpc
      have hpcD := opPc_D hf hpc hg
      have hwant := opPc_wanted hf.fit hpc
      cases hdd : deadOp S ops pc o with
      | true =>
        rw [hdd] at h
        simp only [cond_true] at h
        have hp := deadOp_not hf.fit hpc hdd
        rw [if_neg (fun hw1 => hp (hwant.1 hw1))]
        obtain ⟨h1, h2⟩ := putS_out h
        exact hN _ _ _ _ _ h1 ⟨hf.put hu ho hi hD hDD hpcD h2 ⟨fun hp' => absurd hp' hp, fun _ => rfl⟩, hw.putF _ _, hwf.putF _ _, (FrS.refl S).putF _ _, by cases o.dst <;> rfl, ⟨undef, rfl⟩, fun _ => ⟨rfl, by cases o.dst <;> rfl⟩⟩
      | false =>
      rw [hdd] at h
      simp only [cond_false] at h
      cases he : isEff C o.op with
      | true =>
        rw [he] at h
        simp only [cond_true] at h
        have run : pcH ops a pc → evE C S w o pc (K none) → o.wp C.P a wr N Q := fun hpc0 h => by
          refine evE_sound E.T E.ef hf hw hwf hpc0 ⟨fun S1 w' wr' e v h1 h2 h3 h4 h5 h9 h6 h7 h8 => ?_⟩ h (fun t x y hs => ?_)
          · refine hN none _ _ _ _ h8 ⟨?_, h5.putF _ _, h4.putF _ _, h1.putF _ _, by cases o.dst <;> exact h3, ⟨v, rfl⟩, fun hp => by cases o.dst <;> exact h9 hp⟩
            have hf1 : FitD C.n S1 ops D a := hf.mono h1.B h2 h3
            exact hf1.put (pc := []) hu ho hi hD hDD (fun p hp => by cases hp) h7 ⟨fun _ => h6, fun hn => absurd (fun p hp => by cases hp) hn⟩
          · have := hb.2
            unfold badDst at this
            rw [hs] at this
            cases hd : o.dst with
            | none => rfl
            | some d => rw [hd] at this; cases this
        split at h
        · have hw1 : Region.wanted o (yielded ops a.tmps) = true := hwant.2 (fun p hp => by cases hp)
          rw [if_pos hw1]
          exact run (fun p hp => by cases hp) h
        · cases hpo : pcOk S ops pc with
          | false => rw [hpo] at h; exact h.elim
          | true =>
            rw [hpo] at h
            simp only [cond_true] at h
            by_cases hp : pcH ops a pc
            · rw [if_pos (hwant.2 hp)]
              exact run hp (gdP_out hf.fit hp h.1)
            · rw [if_neg (fun hw1 => hp (hwant.1 hw1))]
              obtain ⟨h1, h2⟩ := putS_out (h.2 (gdP_not hf.fit hpo hp))
              exact hN _ _ _ _ _ h1 ⟨hf.put hu ho hi hD hDD hpcD h2 ⟨fun hp' => absurd hp' hp, fun _ => rfl⟩, hw.putF _ _, hwf.putF _ _, (FrS.refl S).putF _ _, by cases o.dst <;> rfl, ⟨undef, rfl⟩, fun _ => ⟨rfl, by cases o.dst <;> rfl⟩⟩
      | false =>
        rw [he] at h
        simp only [cond_false] at h
        by_cases hp : pcH ops a pc
        · rw [if_pos (hwant.2 hp)]
          obtain ⟨e, fact, v, hK, hden, hfact, hq⟩ := evq_sound E.T E.pf hf.fit hp h
          obtain ⟨h1, h2⟩ := putS_out hK
          refine Oper.wp_of_quiet (C := WRel S w) (K := fun a' => a' = a.put o.dst v) hw (fun a' w' hw' ha' => ?_) ⟨v, fun wr' hw' => hq S w a rfl (fun _ _ h => h) hfact wr' hw', rfl⟩
          subst ha'
          exact hN _ _ _ _ _ h1 ⟨hf.put hu ho hi hD hDD hpcD h2 ⟨fun _ => hden, fun hn => absurd hp hn⟩, hw'.putF _ _, hwf.putF _ _, (FrS.refl S).putF _ _, by cases o.dst <;> rfl, ⟨v, rfl⟩, fun _ => ⟨rfl, by cases o.dst <;> rfl⟩⟩
        · rw [if_neg (fun hw1 => hp (hwant.1 hw1))]
          obtain ⟨e, fact, hK⟩ := evq_some h
          obtain ⟨h1, h2⟩ := putS_out hK
          exact hN _ _ _ _ _ h1 ⟨hf.put hu ho hi hD hDD hpcD h2 ⟨fun hp' => absurd hp' hp, fun _ => rfl⟩, hw.putF _ _, hwf.putF _ _, (FrS.refl S).putF _ _, by cases o.dst <;> rfl, ⟨undef, rfl⟩, fun _ => ⟨rfl, by cases o.dst <;> rfl⟩⟩

/-! ### A region in text order -/
def evSeq (C : Cfg) (ops : Array Oper) : List Oper → Nat → St → World → (St → World → Prop) → Prop
  | [], _, S, w, K => K S w
  | o :: rest, k, S, w, K => evOp C ops (fun j => Nat.blt j k) o S w fun _ S' w' => evSeq C ops rest (k + 1) S' w' K

def dstsL : List Oper → List Nat
  | [] => []
  | o :: r => match o.dst with
    | some d => d :: dstsL r
    | none => dstsL r
def FrA (ds : List Nat) (a a' : Act) : Prop := a'.defers = a.defers ∧ a'.tmps.size = a.tmps.size ∧ ∀ i, i ∉ ds → a'.tmps.getD i undef = a.tmps.getD i undef
theorem FrA.refl (ds : List Nat) (a : Act) : FrA ds a a := ⟨rfl, rfl, fun _ _ => rfl⟩
theorem FrA.trans {ds : List Nat} {a b c : Act} (h : FrA ds a b) (k : FrA ds b c) : FrA ds a c := ⟨k.1.trans h.1, k.2.1.trans h.2.1, fun i hi => (k.2.2 i hi).trans (h.2.2 i hi)⟩
theorem FrA.mono {ds es : List Nat} {a b : Act} (h : FrA ds a b) (hs : ∀ x ∈ ds, x ∈ es) : FrA es a b := ⟨h.1, h.2.1, fun i hi => h.2.2 i (fun hx => hi (hs i hx))⟩
theorem FrA.put (a : Act) (d : Option Tmp) (v : Value) (ds : List Nat) (h : ∀ x, d = some x → x ∈ ds) : FrA ds a (a.put d v) := by
  cases d with
  | none => exact FrA.refl _ _
  | some d =>
    refine ⟨rfl, by simp [Act.put], fun i hi => ?_⟩
    have : d ≠ i := fun e => hi (e ▸ h d rfl)
    simp only [Act.put, Array.getD_eq_getD_getElem?]
    rw [Array.getElem?_setIfInBounds_ne this]

theorem evSeq_sound {C : Cfg} (E : Env C) {ops : Array Oper} (hu : uniqB ops = true) {K : St → World → Prop} {Q : Exit → Act → World → Prop} {ds : List Nat} {S0 : St} {w0 : World} {a0 : Act} (hds : ∀ x ∈ dstsL ops.toList, x ∈ ds)
    (hQ : ∀ S' w' a' wr', K S' w' → FitD C.n S' ops (fun j => j < ops.size ∧ isG ops j) a' → WRel S' w' wr' → WfS S' → FrS S0 S' → S'.r = S0.r → FrA ds a0 a' → (C.pm = true → w' = w0 ∧ S'.old = S0.old) → Q .normal a' wr') :
    ∀ (l : List Oper) (k : Nat) (S : St) (w wr : World) (a : Act), (∀ j, l[j]? = ops[k + j]?) → k + l.length = ops.size → evSeq C ops l k S w K → FitD C.n S ops (fun j => j < k ∧ isG ops j) a → WRel S w wr → WfS S → FrS S0 S → S.r = S0.r → FrA ds a0 a → (C.pm = true → w = w0 ∧ S.old = S0.old) →
      wpList C.P ops Q l a wr
  | [], k, S, w, wr, a, _, hk, h, hf, hw, hwf, hfr, hr, hfa, hpm => by
    have : k = ops.size := by simpa using hk
    subst this
    exact hQ S w a wr h hf hw hwf hfr hr hfa hpm
  | o :: rest, k, S, w, wr, a, hl, hk, h, hf, hw, hwf, hfr, hr, hfa, hpm => by
    have ho : ops[k]? = some o := by simpa using (hl 0).symm
    have hod : ∀ x, o.dst = some x → x ∈ ds := fun x hx => by
      refine hds x ?_
      have hm : o ∈ ops.toList := by rw [Array.mem_toList_iff]; exact Array.mem_of_getElem? ho
      clear hk hl h
      generalize ops.toList = q at hm
      induction q with
      | nil => cases hm
      | cons y q ih =>
        simp only [dstsL]
        rcases List.mem_cons.1 hm with rfl | hm
        · rw [hx]; exact List.mem_cons_self ..
        · split
          · exact List.mem_cons_of_mem _ (ih hm)
          · exact ih hm
    have hstep := evOp_sound E (i := k) (D' := fun j => j < k + 1 ∧ isG ops j) (N := fun a' w' => wpList C.P ops Q rest a' w') (Q := Q) hu ho (fun hd => Nat.lt_irrefl _ hd.1) (fun j hj => hj.2) (fun j hj => ⟨Nat.lt_succ_of_lt hj.1, hj.2⟩)
      (fun j h1 h2 => ⟨Nat.le_of_ble_eq_true h1, h2⟩) hf hw hwf (fun f S' w' a' wr' hK hL => by
        obtain ⟨v, rfl⟩ := hL.put
        exact evSeq_sound E hu hds hQ rest (k + 1) S' w' wr' _ (fun j => by have := hl (j + 1); simpa [Nat.add_assoc, Nat.add_comm 1 j] using this) (by simp at hk; omega) hK hL.fit hL.rel hL.wf (hfr.trans hL.fr) (hL.r.trans hr) (hfa.trans (FrA.put a o.dst v ds hod)) (fun hp => ⟨(hL.pm hp).1.trans (hpm hp).1, (hL.pm hp).2.trans (hpm hp).2⟩)) h
    unfold wpList
    by_cases hwt : Region.wanted o (yielded ops a.tmps) = true
    · rw [if_pos hwt] at hstep ⊢
      exact .inl hstep
    · rw [if_neg hwt] at hstep ⊢
      exact hstep
end Go.Proofs.YthojnihahmlboaaGreat
