/- The engine, part 2: what a quiet operation comes to ('evq'), and that it is so in the model in every world of the class 'WRel'. -/
import Derived.Test.YthojnihahmlboaaGreatEng1
namespace Go.Proofs.YthojnihahmlboaaGreat
open Go.RowKit
set_option linter.unusedVariables false

/-! ### Integers -/
def InR : IntKind → Int → Prop
  | .i64, z => -9223372036854775808 ≤ z ∧ z ≤ 9223372036854775807
  | .u8, z => 0 ≤ z ∧ z ≤ 255
  | .u64, z => 0 ≤ z ∧ z ≤ 18446744073709551615
  | .i32, z => -2147483648 ≤ z ∧ z ≤ 2147483647
  | k, z => k.wrap z = z
theorem InR.wrap {k : IntKind} {z : Int} (h : InR k z) : k.wrap z = z := by
  cases k <;> simp only [InR] at h
  case i64 => exact IntWalk.i64_in z h
  case u8 => exact IntWalk.u8_in z h
  case u64 => exact IntWalk.u64_in z h
  case i32 => exact IntWalk.i32_in z h
  all_goals exact h

def strAt (s : ByteArray) (i : Int) : Int := ((s.data.getD i.toNat 0).toNat : Int)
def Ix (o : Option Addr) (len : Nat) (i : Int) : Prop := 0 ≤ i ∧ i < len ∧ o.isSome = true
def BitI (op : BinOp) (k : IntKind) (x y : Int) : Int :=
  match op with
  | .and => k.wrap ((BitVec.ofInt k.bits x &&& BitVec.ofInt k.bits y).toNat : Int)
  | .or => k.wrap ((BitVec.ofInt k.bits x ||| BitVec.ofInt k.bits y).toNat : Int)
  | _ => k.wrap ((BitVec.ofInt k.bits x ^^^ BitVec.ofInt k.bits y).toNat : Int)
def strEq (x y : ByteArray) : Bool := x.toList == y.toList

def evBin (G : Prop → Prop) (d : TD) : BinOp → Value → Value → (Value → Prop) → Prop
  | .add, .int k x, .int k' y, K => bif decide (k = k') then G (InR k (x + y)) ∧ K (.int k (x + y)) else False
  | .sub, .int k x, .int k' y, K => bif decide (k = k') then G (InR k (x - y)) ∧ K (.int k (x - y)) else False
  | .mul, .int k x, .int k' y, K => bif decide (k = k') then G (InR k (x * y)) ∧ K (.int k (x * y)) else False
  | .quo, .int k x, .int k' y, K => bif decide (k = k') then G (y ≠ 0 ∧ InR k (x.tdiv y)) ∧ K (.int k (x.tdiv y)) else False
  | .rem, .int k x, .int k' y, K => bif decide (k = k') then G (y ≠ 0) ∧ K (.int k (x.tmod y)) else False
  | .and, .int k x, .int k' y, K => bif decide (k = k') then K (.int k (BitI .and k x y)) else False
  | .or, .int k x, .int k' y, K => bif decide (k = k') then K (.int k (BitI .or k x y)) else False
  | .xor, .int k x, .int k' y, K => bif decide (k = k') then K (.int k (BitI .xor k x y)) else False
  | .shl, .int k x, .int _ y, K => G (0 ≤ y ∧ InR k (x * 2 ^ (min y.toNat k.bits))) ∧ K (.int k (x * 2 ^ (min y.toNat k.bits)))
  | .shr, .int k x, .int _ y, K => G (0 ≤ y) ∧ K (.int k (x.fdiv (2 ^ (min y.toNat k.bits))))
  | .eql, .int k x, .int k' y, K => bif decide (k = k') then K (.bool (x == y)) else False
  | .neq, .int k x, .int k' y, K => bif decide (k = k') then K (.bool (x != y)) else False
  | .lss, .int k x, .int k' y, K => bif decide (k = k') then K (.bool (decide (x < y))) else False
  | .leq, .int k x, .int k' y, K => bif decide (k = k') then K (.bool (decide (x ≤ y))) else False
  | .gtr, .int k x, .int k' y, K => bif decide (k = k') then K (.bool (decide (x > y))) else False
  | .geq, .int k x, .int k' y, K => bif decide (k = k') then K (.bool (decide (x ≥ y))) else False
  | .eql, .string x, .string y, K => K (.bool (strEq x y))
  | .neq, .string x, .string y, K => K (.bool (!strEq x y))
  | .add, .string x, .string y, K => G (x.size + y.size ≤ 9223372036854775807) ∧ K (.string (x ++ y))
  | .eql, .bool x, .bool y, K => bif decide (d = .bool) then K (.bool (x == y)) else False
  | .neq, .bool x, .bool y, K => bif decide (d = .bool) then K (.bool (!(x == y))) else False
  | .eql, .pointer o, .pointer none, K => bif decide (d = .ptr) then K (.bool o.isNone) else False
  | .neq, .pointer o, .pointer none, K => bif decide (d = .ptr) then K (.bool (!o.isNone)) else False
  | _, _, _, _ => False

theorem tdOf_bool {P : Program} {d : TypeDesc} (h : tdOf P d = .bool) : d = .bool := by
  cases d <;> simp only [tdOf] at h <;> first | rfl | (split at h <;> cases h) | cases h
theorem tdOf_ptr {P : Program} {d : TypeDesc} (h : tdOf P d = .ptr) : ∃ e, d = .pointer e := by
  cases d <;> simp only [tdOf] at h <;> first | exact ⟨_, rfl⟩ | (split at h <;> cases h) | cases h
theorem tdOf_str {P : Program} {d : TypeDesc} (h : tdOf P d = .str) : d = .string := by
  cases d <;> simp only [tdOf] at h <;> first | rfl | (split at h <;> cases h) | cases h
theorem tdOf_int {P : Program} {d : TypeDesc} {k : IntKind} (h : tdOf P d = .int k) : d = .int k := by
  cases d <;> simp only [tdOf] at h <;> first | (simp only [TD.int.injEq] at h; subst h; rfl) | (split at h <;> cases h) | cases h
theorem tdOf_slice {P : Program} {d : TypeDesc} {e : TypeId} {n : Nat} (h : tdOf P d = .slice e n) : ∃ i, d = .slice e ∧ P.info? e = some i ∧ i.size = n := by
  cases d <;> simp only [tdOf] at h
  case slice e =>
    split at h
    · rename_i i hi; simp only [TD.slice.injEq] at h; obtain ⟨rfl, h⟩ := h; exact ⟨i, rfl, hi, h⟩
    · cases h
  all_goals first | cases h | (split at h <;> cases h)
theorem tdOf_arr {P : Program} {d : TypeDesc} {n z : Nat} {b : Bool} (h : tdOf P d = .arr n z b) : ∃ e i de, d = .array n e ∧ P.info? e = some i ∧ i.size = z ∧ P.underlying e = some de ∧ isAggD de = b := by
  cases d <;> simp only [tdOf] at h
  case array m e =>
    split at h
    · rename_i i de hi hd
      simp only [TD.arr.injEq] at h
      obtain ⟨rfl, rfl, rfl⟩ := h
      exact ⟨e, i, de, rfl, hi, rfl, hd, rfl⟩
    · cases h
  all_goals first | cases h | (split at h <;> cases h)
theorem fieldsOf_get {P : Program} : ∀ {fs : List Field} {l : List (Nat × Bool × Nat)}, fieldsOf P fs = some l → ∀ (j : Nat) (x : Nat × Bool × Nat), l[j]? = some x →
    ∃ f i d, fs[j]? = some f ∧ P.info? f.type = some i ∧ P.underlying f.type = some d ∧ i.size ≠ 0 ∧ x = (f.offset, isAggD d, i.size)
  | [], l, h, j, x, hx => by simp only [fieldsOf, Option.some.injEq] at h; subst h; simp at hx
  | f :: r, l, h, j, x, hx => by
    simp only [fieldsOf] at h
    split at h
    · rename_i i d l' hi hd hl
      split at h
      · cases h
      · rename_i hz
        simp only [Option.some.injEq] at h; subst h
        cases j with
        | zero => simp only [List.getElem?_cons_zero, Option.some.injEq] at hx; subst hx; exact ⟨f, i, d, rfl, hi, hd, hz, rfl⟩
        | succ j => exact fieldsOf_get hl j x (by simpa using hx)
    · cases h
theorem tdOf_struct {P : Program} {d : TypeDesc} {l : List (Nat × Bool × Nat)} (h : tdOf P d = .struct l) : ∃ fs, d = .struct fs ∧ fieldsOf P fs.toList = some l := by
  cases d <;> simp only [tdOf] at h
  case struct fs =>
    split at h
    · rename_i l' hl; simp only [TD.struct.injEq] at h; subst h; exact ⟨fs, rfl, hl⟩
    · cases h
  all_goals first | cases h | (split at h <;> cases h)

theorem run_typeInfo' {P : Program} {t : TypeId} {i : TypeInfo} (h : P.info? t = some i) (w : World) : (typeInfo t).run P w = .ok i w := by
  simp [typeInfo, h]
theorem run_sizeOf' {P : Program} {t : TypeId} {i : TypeInfo} (h : P.info? t = some i) (w : World) : (sizeOf t).run P w = .ok i.size w := by
  simp [sizeOf, run_typeInfo' h]
theorem run_isAgg' {P : Program} {t : TypeId} {d : TypeDesc} (h : P.underlying t = some d) (w : World) : (isAgg t).run P w = .ok (isAggD d) w := by
  unfold isAgg
  simp only [Sem.run_bind, run_underlying h, Result.andThen_ok]
  cases d <;> rfl

theorem run_equal_bool {P : Program} {t : TypeId} (hu : P.underlying t = some .bool) (x y : Bool) (w : World) : (Op.equal t (.bool x) (.bool y)).run P w = .ok (x == y) w := by
  have h : ∀ d : Nat, (Op.equalIn (d + 1) t (.bool x) (.bool y)).run P w = .ok (x == y) w := fun d => by simp [Op.equalIn, run_underlying hu]
  exact h 9999
theorem run_equal_nil {P : Program} {t e : TypeId} (hu : P.underlying t = some (.pointer e)) (o : Option Addr) (w : World) : (Op.equal t (.pointer o) (.pointer none)).run P w = .ok o.isNone w := by
  have h : ∀ d : Nat, (Op.equalIn (d + 1) t (.pointer o) (.pointer none)).run P w = .ok o.isNone w := fun d => by cases o <;> simp [Op.equalIn, run_underlying hu]
  exact h 9999

theorem evBin_run {P : Program} {T : TypeId → Option Ty} (hT : TOk P T) {t : TypeId} {ty : Ty} (ht : T t = some ty) {G : Prop → Prop} (hG : ∀ A, G A → A) {op : BinOp} {x y : Operand} {a b : Value} {K : Value → Prop}
    (h : evBin G ty.d op a b K) : ∃ v, K v ∧ ∀ w, ((do eqGuard op t x y a b; binOp op t a b) : Sem Value).run P w = .ok v w := by
  have kk : ∀ {k k' : IntKind} {A : Prop}, (bif decide (k = k') then A else False) → k = k' ∧ A := fun {k k' A} h => by
    by_cases hk : k = k'
    · simp only [hk, decide_true, cond_true] at h; exact ⟨hk, h⟩
    · simp only [hk, decide_false, cond_false] at h
  have dd : ∀ {d d' : TD} {A : Prop}, (bif decide (d = d') then A else False) → d = d' ∧ A := fun {d d' A} h => by
    by_cases hk : d = d'
    · simp only [hk, decide_true, cond_true] at h; exact ⟨hk, h⟩
    · simp only [hk, decide_false, cond_false] at h
  unfold evBin at h
  split at h
  case h_1 => obtain ⟨rfl, h1, h2⟩ := kk h; exact ⟨_, h2, fun w => by simp [eqGuard, binOp, Op.intArith, (hG _ h1).wrap]⟩
  case h_2 => obtain ⟨rfl, h1, h2⟩ := kk h; exact ⟨_, h2, fun w => by simp [eqGuard, binOp, Op.intArith, (hG _ h1).wrap]⟩
  case h_3 => obtain ⟨rfl, h1, h2⟩ := kk h; exact ⟨_, h2, fun w => by simp [eqGuard, binOp, Op.intArith, (hG _ h1).wrap]⟩
  case h_4 =>
    obtain ⟨rfl, h1, h2⟩ := kk h
    obtain ⟨h3, h4⟩ := hG _ h1
    exact ⟨_, h2, fun w => by simp [eqGuard, binOp, Op.intDiv, h3, h4.wrap]⟩
  case h_5 =>
    obtain ⟨rfl, h1, h2⟩ := kk h
    have h3 := hG _ h1
    exact ⟨_, h2, fun w => by simp [eqGuard, binOp, Op.intDiv, h3]⟩
  case h_6 => obtain ⟨rfl, h2⟩ := kk h; exact ⟨_, h2, fun w => by simp [eqGuard, binOp, Op.intBits, BitI]⟩
  case h_7 => obtain ⟨rfl, h2⟩ := kk h; exact ⟨_, h2, fun w => by simp [eqGuard, binOp, Op.intBits, BitI]⟩
  case h_8 => obtain ⟨rfl, h2⟩ := kk h; exact ⟨_, h2, fun w => by simp [eqGuard, binOp, Op.intBits, BitI]⟩
  case h_9 =>
    obtain ⟨h1, h2⟩ := h
    obtain ⟨h3, h4⟩ := hG _ h1
    exact ⟨_, h2, fun w => by simp [eqGuard, binOp, Op.shift, Int.not_lt.2 h3, h4.wrap]⟩
  case h_10 =>
    obtain ⟨h1, h2⟩ := h
    have h3 := hG _ h1
    exact ⟨_, h2, fun w => by simp [eqGuard, binOp, Op.shift, Int.not_lt.2 h3]⟩
  case h_11 => obtain ⟨rfl, h2⟩ := kk h; exact ⟨_, h2, fun w => by simp [eqGuard, binOp, Op.intCmp]⟩
  case h_12 => obtain ⟨rfl, h2⟩ := kk h; exact ⟨_, h2, fun w => by simp [eqGuard, binOp, Op.intCmp]⟩
  case h_13 => obtain ⟨rfl, h2⟩ := kk h; exact ⟨_, h2, fun w => by simp [eqGuard, binOp, Op.intCmp]⟩
  case h_14 => obtain ⟨rfl, h2⟩ := kk h; exact ⟨_, h2, fun w => by simp [eqGuard, binOp, Op.intCmp]⟩
  case h_15 => obtain ⟨rfl, h2⟩ := kk h; exact ⟨_, h2, fun w => by simp [eqGuard, binOp, Op.intCmp]⟩
  case h_16 => obtain ⟨rfl, h2⟩ := kk h; exact ⟨_, h2, fun w => by simp [eqGuard, binOp, Op.intCmp]⟩
  case h_17 => exact ⟨_, h, fun w => by simp [eqGuard, binOp, Op.stringOp, strEq]⟩
  case h_18 => exact ⟨_, h, fun w => by simp [eqGuard, binOp, Op.stringOp, strEq]⟩
  case h_19 s u =>
    obtain ⟨h1, h2⟩ := h
    have h3 := hG _ h1
    refine ⟨_, h2, fun w => ?_⟩
    have h4 : ¬ ((s.size + u.size : Nat) : Int) > IntKind.i64.max := by rw [IntKind.max_i64]; omega
    simp only [eqGuard, binOp, Op.stringOp, if_neg h4]
    rfl
  case h_20 =>
    obtain ⟨hd, h2⟩ := dd h
    obtain ⟨d, hu, _, htd⟩ := (hT.facts ht).desc
    have := tdOf_bool (htd.symm.trans hd); subst this
    exact ⟨_, h2, fun w => by simp only [eqGuard_at_bool, binOp, Sem.run_bind, Sem.run_pure, Result.andThen_ok, run_equal_bool hu]⟩
  case h_21 =>
    obtain ⟨hd, h2⟩ := dd h
    obtain ⟨d, hu, _, htd⟩ := (hT.facts ht).desc
    have := tdOf_bool (htd.symm.trans hd); subst this
    exact ⟨_, h2, fun w => by simp only [eqGuard_at_bool, binOp, Sem.run_bind, Sem.run_pure, Result.andThen_ok, run_equal_bool hu]⟩
  case h_22 o =>
    obtain ⟨hd, h2⟩ := dd h
    obtain ⟨d, hu, _, htd⟩ := (hT.facts ht).desc
    obtain ⟨e, rfl⟩ := tdOf_ptr (htd.symm.trans hd)
    exact ⟨_, h2, fun w => by simp only [eqGuard_at_pointer, binOp, Sem.run_bind, Sem.run_pure, Result.andThen_ok, run_equal_nil hu]⟩
  case h_23 o =>
    obtain ⟨hd, h2⟩ := dd h
    obtain ⟨d, hu, _, htd⟩ := (hT.facts ht).desc
    obtain ⟨e, rfl⟩ := tdOf_ptr (htd.symm.trans hd)
    exact ⟨_, h2, fun w => by simp only [eqGuard_at_pointer, binOp, Sem.run_bind, Sem.run_pure, Result.andThen_ok, run_equal_nil hu]⟩
  case h_24 => exact h.elim
end Go.Proofs.YthojnihahmlboaaGreat
