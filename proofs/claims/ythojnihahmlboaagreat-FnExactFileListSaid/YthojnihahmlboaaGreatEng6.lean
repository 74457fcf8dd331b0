/- The engine, part 6: putting a value into a slot; operations that make or write memory, and calls that may; a region in text order. -/
import Derived.Test.YthojnihahmlboaaGreatEng5
namespace Go.Proofs.YthojnihahmlboaaGreat
open Go.RowKit
set_option linter.unusedVariables false

/-! ### Putting -/
structure FitD (n : Nat) (S : St) (ops : Array Oper) (D : Nat → Prop) (a : Act) : Prop where
  fit : Fits n S ops a
  dn : ∀ (i : Nat) (pc : List (Nat × Bool)) (x : EV), S.F.get i = some (.gd S.r pc x) → ∀ p ∈ pc, D p.1
  st : ∀ (i r : Nat) (pc : List (Nat × Bool)) (x : EV), S.F.get i = some (.gd r pc x) → r ≤ S.r

def onlyAt : List Oper → Nat → Nat → Nat → Bool
  | [], _, _, _ => true
  | o :: r, d, j, k => (match o.dst with
    | some d' => bif Nat.beq d' d then Nat.beq k j else true
    | none => true) && onlyAt r d j (k + 1)
theorem onlyAt_spec : ∀ {l : List Oper} {d j k : Nat}, onlyAt l d j k = true → ∀ (i : Nat) (o : Oper), l[i]? = some o → o.dst = some d → k + i = j
  | [], _, _, _, _, i, o, h, _ => by simp at h
  | o :: r, d, j, k, h, i, o', h1, h2 => by
    simp only [onlyAt, Bool.and_eq_true] at h
    cases i with
    | zero =>
      simp only [List.getElem?_cons_zero, Option.some.injEq] at h1
      subst h1
      rw [h2] at h
      simp only [Nat.beq_refl, cond_true] at h
      exact Nat.eq_of_beq_eq_true h.1
    | succ i =>
      have := onlyAt_spec h.2 i o' (by simpa using h1) h2
      omega
def isG (ops : Array Oper) (j : Nat) : Prop := ∃ o ∈ ops.toList, ∃ b, o.guard = some (j, b)
def uniqL (ops : List Oper) : List Oper → Option Nat → Bool
  | [], _ => true
  | o :: r, last => match o.guard with
    | none => uniqL ops r last
    | some (j, _) => (match last with
        | some j' => bif Nat.beq j' j then true else (match (ops[j]?).bind (·.dst) with | some d => onlyAt ops d j 0 | none => true)
        | none => (match (ops[j]?).bind (·.dst) with | some d => onlyAt ops d j 0 | none => true)) && uniqL ops r (some j)
def uniqB (ops : Array Oper) : Bool := uniqL ops.toList ops.toList none
def Uniq (ops : List Oper) (j : Nat) : Prop := ∀ d, (ops[j]?).bind (·.dst) = some d → ∀ (i : Nat) (o : Oper), ops[i]? = some o → o.dst = some d → i = j
theorem uniqL_spec {ops : List Oper} : ∀ {l : List Oper} {last : Option Nat}, uniqL ops l last = true → (∀ j, last = some j → Uniq ops j) → ∀ o ∈ l, ∀ j b, o.guard = some (j, b) → Uniq ops j
  | [], _, _, _, o, ho, _, _, _ => by cases ho
  | o :: r, last, h, hlast, o', ho, j, b, hg => by
    simp only [uniqL] at h
    split at h
    · rename_i hn
      rcases List.mem_cons.1 ho with rfl | ho
      · rw [hn] at hg; cases hg
      · exact uniqL_spec h hlast o' ho j b hg
    · rename_i j' b' hs
      simp only [Bool.and_eq_true] at h
      have hu : Uniq ops j' := by
        have h1 := h.1
        have base : (match (ops[j']?).bind (·.dst) with | some d => onlyAt ops d j' 0 | none => true) = true → Uniq ops j' := fun hb d hd i o hi hod => by
          rw [hd] at hb
          have := onlyAt_spec hb i o hi hod
          omega
        split at h1
        · rename_i j''
          cases hb : Nat.beq j'' j' with
          | true => exact Nat.eq_of_beq_eq_true hb ▸ hlast j'' rfl
          | false => rw [hb] at h1; exact base h1
        · exact base h1
      rcases List.mem_cons.1 ho with rfl | ho
      · rw [hs] at hg; cases hg; exact hu
      · exact uniqL_spec h.2 (fun j'' hj => by cases hj; exact hu) o' ho j b hg
theorem uniqB_spec {ops : Array Oper} (h : uniqB ops = true) {j : Nat} (hj : isG ops j) : Uniq ops.toList j := by
  obtain ⟨o, ho, b, hg⟩ := hj
  exact uniqL_spec h (fun j hj => by cases hj) o ho j b hg

def svOf (S : St) (pc : List (Nat × Bool)) (e : EV) : SV :=
  match pc with
  | [] => .un e
  | pc => .gd S.r pc e
def putS (C : Cfg) (S : St) (d : Option Tmp) (sv : SV) (K : St → Prop) : Prop :=
  match d with
  | none => K S
  | some d => bif Nat.blt d C.n && Nat.blt d 4000 then K { S with F := PT.set 12 S.F d sv } else False

/-- The state behind a put. -/
def St.putF (S : St) (d : Option Tmp) (sv : SV) : St :=
  match d with
  | none => S
  | some d => { S with F := PT.set 12 S.F d sv }
theorem putS_out {C : Cfg} {S : St} {d : Option Tmp} {sv : SV} {K : St → Prop} (h : putS C S d sv K) : K (S.putF d sv) ∧ ∀ x, d = some x → x < C.n ∧ x < 4000 := by
  cases d with
  | none => exact ⟨h, fun x hx => by cases hx⟩
  | some d =>
    simp only [putS] at h
    cases hb : (Nat.blt d C.n && Nat.blt d 4000) with
    | false => rw [hb] at h; exact h.elim
    | true =>
      rw [hb] at h
      simp only [Bool.and_eq_true] at hb
      exact ⟨h, fun x hx => by cases hx; exact ⟨Nat.le_of_ble_eq_true hb.1, Nat.le_of_ble_eq_true hb.2⟩⟩

theorem getD_put {a : Act} {d : Option Tmp} {v : Value} (t : Nat) (h : ∀ x, d = some x → x < a.tmps.size) : (a.put d v).tmps.getD t undef = if d = some t then v else a.tmps.getD t undef := by
  cases d with
  | none => simp [Act.put]
  | some d =>
    have hd := h d rfl
    simp only [Act.put, Array.getD_eq_getD_getElem?]
    by_cases hdt : d = t
    · subst hdt; simp [hd]
    · have : ¬ (some d = some t) := by simpa using hdt
      rw [if_neg this, Array.getElem?_setIfInBounds_ne hdt]
theorem size_put {a : Act} {d : Option Tmp} {v : Value} : (a.put d v).tmps.size = a.tmps.size := by
  cases d <;> simp [Act.put]
theorem yielded_put {ops : Array Oper} {a : Act} {d : Option Tmp} {v : Value} {j : Nat} (h : ∀ x, d = some x → (ops[j]?).bind (·.dst) ≠ some x) : yielded ops (a.put d v).tmps j = yielded ops a.tmps j := by
  cases d with
  | none => rfl
  | some d =>
    unfold yielded
    simp only [Act.put]
    cases hj : (ops[j]?).bind (·.dst) with
    | none => rfl
    | some x =>
      have hne : d ≠ x := fun e => h d rfl (by rw [hj, e])
      simp only [Option.bind_some]
      rw [Array.getElem?_setIfInBounds_ne hne]

theorem EV.den_putF {S : St} {d : Option Tmp} {sv : SV} {e : EV} {u : Value} : EV.den (S.putF d sv) e u ↔ EV.den S e u := by
  cases d <;> cases e <;> exact Iff.rfl

theorem FitD.put {n : Nat} {S : St} {ops : Array Oper} {D D' : Nat → Prop} {a : Act} (hf : FitD n S ops D a) {i : Nat} {o : Oper} {pc : List (Nat × Bool)} {e : EV} {v : Value}
    (hu : uniqB ops = true) (ho : ops[i]? = some o) (hi : ¬ D i) (hD : ∀ j, D j → isG ops j) (hDD : ∀ j, D j → D' j) (hpc : ∀ p ∈ pc, D p.1) (hd : ∀ x, o.dst = some x → x < n ∧ x < 4000)
    (hv : (pcH ops a pc → EV.den S e v) ∧ (¬ pcH ops a pc → v = undef)) : FitD n (S.putF o.dst (svOf S pc e)) ops D' (a.put o.dst v) := by
  have hyk : ∀ j, D j → yielded ops (a.put o.dst v).tmps j = yielded ops a.tmps j := fun j hj => yielded_put fun x hx hjx => by
    have := uniqB_spec hu (hD j hj) x (by simpa using hjx) i o (by simpa using ho) hx
    subst this; exact hi hj
  have hpk : ∀ pc', (∀ p ∈ pc', D p.1) → (pcH ops (a.put o.dst v) pc' ↔ pcH ops a pc') := fun pc' h' => by
    unfold pcH
    constructor
    · intro h p hp; rw [← hyk p.1 (h' p hp)]; exact h p hp
    · intro h p hp; rw [hyk p.1 (h' p hp)]; exact h p hp
  have hsz : ∀ x, o.dst = some x → x < a.tmps.size := fun x hx => by rw [hf.fit.size]; exact (hd x hx).1
  have hr : (S.putF o.dst (svOf S pc e)).r = S.r := by cases o.dst <;> rfl
  have hget : ∀ t, (S.putF o.dst (svOf S pc e)).F.get t = if o.dst = some t then some (svOf S pc e) else S.F.get t := fun t => by
    cases hdd : o.dst with
    | none => simp [St.putF]
    | some d =>
      simp only [St.putF]
      rw [PT.get_set _ 12 S.F d t (by have h1 : @LT.lt Nat _ d 4000 := (hd d hdd).2; show @LT.lt Nat _ (d + 1) (2 ^ 12); omega)]
      simp
  refine ⟨⟨by rw [size_put]; exact hf.fit.size, fun t s hs => ?_⟩, fun t pc' x hx p hp => ?_, fun t r pc' x hx => ?_⟩
  · rw [getD_put t hsz]
    rw [hget t] at hs
    by_cases hdt : o.dst = some t
    · rw [if_pos hdt] at hs ⊢
      simp only [Option.some.injEq] at hs
      subst hs
      unfold svOf
      split
      · show EV.den _ e v
        rw [EV.den_putF]
        exact hv.1 (fun p hp => by cases hp)
      · intro _
        rw [EV.den_putF, hpk pc hpc]
        exact hv
    · rw [if_neg hdt] at hs ⊢
      have h1 := hf.fit.fits t s hs
      cases s with
      | un x =>
        show EV.den _ x _
        rw [EV.den_putF]
        exact h1
      | gd r pc' x =>
        intro hrr
        rw [hr] at hrr
        subst hrr
        rw [EV.den_putF, hpk pc' (hf.dn t pc' x hs)]
        exact h1 rfl
  · rw [hget t] at hx
    rw [hr] at hx
    by_cases hdt : o.dst = some t
    · rw [if_pos hdt] at hx
      simp only [Option.some.injEq] at hx
      unfold svOf at hx
      split at hx
      · cases hx
      · simp only [SV.gd.injEq] at hx
        obtain ⟨_, rfl, _⟩ := hx
        exact hDD _ (hpc p hp)
    · rw [if_neg hdt] at hx
      exact hDD _ (hf.dn t pc' x hx p hp)
  · rw [hget t] at hx
    rw [hr]
    by_cases hdt : o.dst = some t
    · rw [if_pos hdt] at hx
      simp only [Option.some.injEq] at hx
      unfold svOf at hx
      split at hx
      · cases hx
      · simp only [SV.gd.injEq] at hx
        exact Nat.le_of_eq hx.1.symm
    · rw [if_neg hdt] at hx
      exact hf.st t r pc' x hx

/-! ### Stores -/
def stoL (w : World) (a : Addr) : Nat → List Value → World
  | _, [] => w
  | n, v :: r => stoL (w.setCell (a.add n) v) a (n + 1) r
def sto (w : World) (o : Option Addr) (n : Nat) (vs : List Value) : World :=
  match o with
  | some a => stoL w a n vs
  | none => w
def WrX (bs : List Nat) (w : World) (o : Option Addr) (n k : Nat) : Prop :=
  ∃ a, o = some a ∧ a.block ∉ bs ∧ ∀ j, n ≤ j → j < n + k → (∃ u, w.cell? (a.add j) = some u) ∧ w.frozen? (a.add j) = false
def oneCells : List Value → Bool
  | [] => true
  | .agg _ :: _ => false
  | .tuple _ :: _ => false
  | _ :: r => oneCells r
theorem oneCells_spec : ∀ {l : List Value}, oneCells l = true → ∀ v ∈ l, v.oneCell' = true
  | [], _, v, hv => by cases hv
  | x :: r, h, v, hv => by
    cases x <;> simp only [oneCells] at h <;> first
      | (cases h; done)
      | (rcases List.mem_cons.1 hv with rfl | hv
         · rfl
         · exact oneCells_spec h v hv)

theorem stoL_size : ∀ (vs : List Value) (w : World) (a : Addr) (n : Nat), (stoL w a n vs).heap.size = w.heap.size
  | [], _, _, _ => rfl
  | v :: r, w, a, n => by simp only [stoL]; rw [stoL_size r]; simp
theorem stoL_block : ∀ (vs : List Value) (w : World) (a : Addr) (n k : Nat), k ≠ a.block → (stoL w a n vs).heap[k]? = w.heap[k]?
  | [], _, _, _, _, _ => rfl
  | v :: r, w, a, n, k, h => by
    simp only [stoL]
    rw [stoL_block r _ a (n + 1) k h, Below.heap_setCell _ _ _ _ (by rw [add_block]; exact h)]
theorem stoL_rest : ∀ (vs : List Value) (w : World) (a : Addr) (n : Nat), (stoL w a n vs).os = w.os ∧ (stoL w a n vs).tape = w.tape ∧ (stoL w a n vs).output = w.output
  | [], _, _, _ => ⟨rfl, rfl, rfl⟩
  | v :: r, w, a, n => by
    simp only [stoL]
    obtain ⟨h1, h2, h3⟩ := stoL_rest r (w.setCell (a.add n) v) a (n + 1)
    exact ⟨h1, h2, h3⟩
/-- What a store makes of a block depends on that block alone. -/
theorem stoL_same : ∀ (vs : List Value) (w w' : World) (a : Addr) (n : Nat), w.heap[a.block]? = w'.heap[a.block]? → (stoL w a n vs).heap[a.block]? = (stoL w' a n vs).heap[a.block]?
  | [], _, _, _, _, h => h
  | v :: r, w, w', a, n, h => by
    simp only [stoL]
    refine stoL_same r _ _ a (n + 1) ?_
    simp only [World.setCell, Array.getElem?_modify, add_block, if_true, h]

theorem frozen?_of_block {w w' : World} {p : Addr} (h : w'.heap[p.block]? = w.heap[p.block]?) : w'.frozen? p = w.frozen? p := by
  unfold World.frozen?; rw [h]
theorem run_storeCells' {P : Program} : ∀ (vs : List Value) (w : World) (a : Addr) (n : Nat), (∀ v ∈ vs, v.oneCell' = true) →
    (∀ j, n ≤ j → j < n + vs.length → (∃ u, w.cell? (a.add j) = some u) ∧ w.frozen? (a.add j) = false) → (storeCells a vs n).run P w = .ok () (stoL w a n vs)
  | [], _, _, _, _, _ => rfl
  | v :: r, w, a, n, h1, h2 => by
    obtain ⟨⟨u, hu⟩, hfz⟩ := h2 n (Nat.le_refl _) (by simp)
    have hs := run_store P w (a.add n) v .plain (h1 v (List.mem_cons_self ..))
    rw [hu] at hs
    simp only [hfz] at hs
    simp only [storeCells, Sem.run_bind]
    rw [hs]
    simp only [Bool.false_eq_true, if_false, Result.andThen_ok]
    rw [run_storeCells' r _ a (n + 1) (fun x hx => h1 x (List.mem_cons_of_mem _ hx)) fun j hj1 hj2 => ?_]
    · rfl
    · obtain ⟨⟨u', hu'⟩, hfz'⟩ := h2 j (by omega) (by simp at hj2 ⊢; omega)
      refine ⟨?_, by rw [World.frozen?_setCell]; exact hfz'⟩
      by_cases he : a.add n = a.add j
      · rw [he]; exact ⟨v, World.cell?_setCell_same _ _ _ hu'⟩
      · exact ⟨u', by rw [World.cell?_setCell_other _ _ _ _ he]; exact hu'⟩
end Go.Proofs.YthojnihahmlboaaGreat
