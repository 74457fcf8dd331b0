/- Flat structs held against one another; maps whose keys are structs. -/
import Derived.Test.YthojnihahmlboaaGreatOpen
import Derived.Laws.StructEq
namespace Go.Proofs.YthojnihahmlboaaGreat
open Go.RowKit
set_option linter.unusedVariables false
set_option linter.unusedSimpArgs false
set_option maxRecDepth 10000

/-- Flat structs' cells, held against one another, by the fields' types. -/
def flatE (P : Program) : List Field → Nat → List Value → List Value → Option Bool
  | [], _, [], [] => some true
  | f :: r, k, x :: xs, y :: ys => bif decide (f.name ≠ "_") && Nat.beq f.offset k then
      (match flatE P r (k + 1) xs ys with
      | some q => (match P.underlying f.type, x, y with
        | some (.int _), .int a n, .int b m => bif decide (a = b) then some ((n == m) && q) else none
        | some .bool, .bool n, .bool m => some ((n == m) && q)
        | some .string, .string n, .string m => some (strEq n m && q)
        | _, _, _ => none)
      | none => none) else none
  | _, _, _, _ => none
theorem run_eqFields {P : Program} (d : Nat) (w : World) (xs ys : List Value) : ∀ (fs : List Field) (k : Nat) (b : Bool), flatE P fs k (xs.drop k) (ys.drop k) = some b → (Op.eqFields (d + 1) xs.toArray ys.toArray fs).run P w = .ok b w
  | [], k, b, h => by
    have hb : some true = some b := by
      cases ex : xs.drop k with
      | nil =>
        cases ey : ys.drop k with
        | nil => rw [ex, ey] at h; exact h
        | cons y ys' => rw [ex, ey] at h; cases h
      | cons x xs' => rw [ex] at h; cases h
    simp only [Option.some.injEq] at hb
    subst hb
    simp [Op.eqFields]
  | f :: r, k, b, h => by
    have hx : ∀ {l : List Value} {x : Value} {q : List Value}, l.drop k = x :: q → l[k]? = some x ∧ l.drop (k + 1) = q := fun {l x q} e => by
      have h1 : l[k]? = (l.drop k)[0]? := by simp
      have h2 : l.drop (k + 1) = (l.drop k).drop 1 := by simp
      rw [h1, h2, e]; simp
    cases exx : xs.drop k with
    | nil => rw [exx] at h; cases h
    | cons x xs' =>
    cases eyy : ys.drop k with
    | nil => rw [exx, eyy] at h; cases h
    | cons y ys' =>
      rw [exx, eyy] at h
      simp only [flatE] at h
      obtain ⟨gx, dx⟩ := hx exx
      obtain ⟨gy, dy⟩ := hx eyy
      cases hc : (decide (f.name ≠ "_") && Nat.beq f.offset k) with
      | false => rw [hc] at h; cases h
      | true =>
        rw [hc] at h
        simp only [cond_true] at h
        simp only [Bool.and_eq_true, decide_eq_true_eq] at hc
        have hof := Nat.eq_of_beq_eq_true hc.2
        split at h
        · rename_i q hq
          have ih := run_eqFields d w xs ys r (k + 1) q (by rw [dx, dy]; exact hq)
          have hpart : ∀ {D : TypeDesc}, P.underlying f.type = some D → isAggD D = false → (part f.type xs.toArray f.offset).run P w = .ok x w ∧ (part f.type ys.toArray f.offset).run P w = .ok y w := fun {D} hu hD => by
            rw [hof]
            simp [part, run_isAgg' hu, hD, gx, gy]
          split at h
          · rename_i K a n b' m hu
            cases hab : decide (a = b') with
            | false => rw [hab] at h; cases h
            | true =>
              have := of_decide_eq_true hab
              subst this
              rw [hab] at h
              simp only [cond_true, Option.some.injEq] at h
              subst h
              obtain ⟨p1, p2⟩ := hpart hu rfl
              simp only [Op.eqFields, if_pos hc.1, Sem.run_bind, p1, p2, Result.andThen_ok, run_equalIn_int w d f.type a K n m hu, Sem.run_ite]
              cases n == m <;> simp [ih]
          · rename_i n m hu
            simp only [Option.some.injEq] at h
            subst h
            obtain ⟨p1, p2⟩ := hpart hu rfl
            simp only [Op.eqFields, if_pos hc.1, Sem.run_bind, p1, p2, Result.andThen_ok, run_equalIn_bool' w d f.type n m hu, Sem.run_ite]
            cases n == m <;> simp [ih]
          · rename_i n m hu
            simp only [Option.some.injEq] at h
            subst h
            obtain ⟨p1, p2⟩ := hpart hu rfl
            simp only [Op.eqFields, if_pos hc.1, Sem.run_bind, p1, p2, Result.andThen_ok, run_equalIn_string w d f.type n m hu, Sem.run_ite]
            unfold strEq
            cases n.toList == m.toList <;> simp [ih]
          · cases h
        · cases h
/-- What is asked of a flat struct type. -/
structure FlatT (P : Program) (t : TypeId) : Prop where
  u : P.underlying t = some (.struct (P.fieldsOf t))
  s : P.stoodInHeld t = false
  g : P.eqGuardType P.depth t = false
theorem run_equal_of {P : Program} {t : TypeId} (F : FlatT P t) {xs ys : List Value} {b : Bool} (h : flatE P (P.fieldsOf t).toList 0 xs ys = some b) (w : World) : (Op.equal t (.agg xs.toArray) (.agg ys.toArray)).run P w = .ok b w := by
  have := run_equalIn_struct (P := P) w 9999 t xs.toArray ys.toArray F.u F.s
  rw [run_eqFields 9998 w xs ys _ 0 b (by simpa using h)] at this
  exact this
theorem run_eql_of {P : Program} {t : TypeId} (F : FlatT P t) {xs ys : List Value} {b : Bool} (h : flatE P (P.fieldsOf t).toList 0 xs ys = some b) (x y : Operand) (w : World) : ((do eqGuard .eql t x y (.agg xs.toArray) (.agg ys.toArray); binOp .eql t (.agg xs.toArray) (.agg ys.toArray)) : Sem Value).run P w = .ok (.bool b) w := by
  have := run_equal_of F h w
  simp only [Op.equal, Op.maxDepth] at this
  simp only [Sem.run_bind, run_eqGuard_agg w .eql t x y _ _ F.g, Result.andThen_ok, run_eql_struct, this]
theorem run_neq_of {P : Program} {t : TypeId} (F : FlatT P t) {xs ys : List Value} {b : Bool} (h : flatE P (P.fieldsOf t).toList 0 xs ys = some b) (x y : Operand) (w : World) : ((do eqGuard .neq t x y (.agg xs.toArray) (.agg ys.toArray); binOp .neq t (.agg xs.toArray) (.agg ys.toArray)) : Sem Value).run P w = .ok (.bool (!b)) w := by
  have := run_equal_of F h w
  simp only [Op.equal, Op.maxDepth] at this
  simp only [Sem.run_bind, run_eqGuard_agg w .neq t x y _ _ F.g, Result.andThen_ok, run_neq_struct, this]
end Go.Proofs.YthojnihahmlboaaGreat
