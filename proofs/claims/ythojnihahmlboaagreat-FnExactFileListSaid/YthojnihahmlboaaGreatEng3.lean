/- The engine, part 3: the class of worlds of a symbolic state; every quiet operation; that it is quiet in the model. -/
import Derived.Test.YthojnihahmlboaaGreatEng2
namespace Go.Proofs.YthojnihahmlboaaGreat
open Go.RowKit
set_option linter.unusedVariables false

structure WRel (S : St) (w wr : World) : Prop where
  ext : ExtX S.bs w wr
  loc : ∀ (id : Nat) (t : TypeId) (cs : List Value), S.L[id]? = some (t, cs) → ∃ b, S.B[id]? = some b ∧ wr.heap[b]? = some (Obj.cells cs.toArray t (0, 0))
  len : S.L.length = S.B.length
  dist : S.B.Nodup
  fresh : ∀ (id b : Nat), S.old ≤ id → S.B[id]? = some b → w.heap.size ≤ b

theorem heap_lt {w : World} {b : Nat} {o : Obj} (h : w.heap[b]? = some o) : b < w.heap.size := by
  rcases Nat.lt_or_ge b w.heap.size with hlt | hge
  · exact hlt
  · rw [Array.getElem?_eq_none hge] at h; cases h
theorem WRel.step {S : St} {w wr wr' : World} (h : WRel S w wr) (hx : ExtX [] wr wr') : WRel S w wr' :=
  ⟨h.ext.trans hx.of_nil, fun id t cs hl => by
    obtain ⟨b, hb, hh⟩ := h.loc id t cs hl
    exact ⟨b, hb, (hx.block b (heap_lt hh) (by simp)).trans hh⟩, h.len, h.dist, h.fresh⟩

abbrev Fact := St → World → Prop
abbrev OFact := Option Fact
def tt' : OFact := none
def holdsF : OFact → St → World → Prop
  | none, _, _ => True
  | some f, S, w => f S w

/-! ### Values of operands -/
def avl (S : St) : EV → Option Value
  | .v x => some x
  | .kb x => some (.bool x)
  | .el o n => some (.pointer (o.map (·.add n)))
  | .ls id len => match S.B[id]? with
    | some b => some (.slice (some ⟨b, 0, none⟩) len len)
    | none => none
  | _ => none
theorem avl_den {S : St} {e : EV} {x u : Value} (h : avl S e = some x) (hd : EV.den S e u) : u = x := by
  cases e with
  | v y => simp only [avl, Option.some.injEq] at h; subst h; exact hd
  | el o n => simp only [avl, Option.some.injEq] at h; subst h; obtain ⟨a, rfl, rfl⟩ := hd; rfl
  | ls id len =>
    obtain ⟨b, hb, rfl⟩ := hd
    simp only [avl, hb, Option.some.injEq] at h
    exact h
  | loc id off => cases h
  | le id i k => cases h
  | no => cases h
  | kb x => simp only [avl, Option.some.injEq] at h; subst h; exact hd
def opa (S : St) (pc : List (Nat × Bool)) (x : Operand) : Option Value :=
  match opv S pc x with
  | some e => avl S e
  | none => none
theorem opa_eval {n : Nat} {S : St} {ops : Array Oper} {a : Act} (hf : Fits n S ops a) {pc : List (Nat × Bool)} (hp : pcH ops a pc) {x : Operand} {v : Value} (h : opa S pc x = some v) : a.eval x = v := by
  unfold opa at h
  split at h
  · rename_i e he; exact avl_den h (opv_den hf hp he)
  · cases h
def opas (S : St) (pc : List (Nat × Bool)) : List Operand → Option (List Value)
  | [] => some []
  | x :: r => match opa S pc x, opas S pc r with
    | some v, some l => some (v :: l)
    | _, _ => none
theorem opas_eval {n : Nat} {S : St} {ops : Array Oper} {a : Act} (hf : Fits n S ops a) {pc : List (Nat × Bool)} (hp : pcH ops a pc) : ∀ {xs : List Operand} {vs : List Value}, opas S pc xs = some vs → xs.map a.eval = vs
  | [], vs, h => by simp only [opas, Option.some.injEq] at h; subst h; rfl
  | x :: r, vs, h => by
    simp only [opas] at h
    split at h
    · rename_i v l hv hl
      simp only [Option.some.injEq] at h; subst h
      simp [opa_eval hf hp hv, opas_eval hf hp hl]
    · cases h
def opLs (S : St) (pc : List (Nat × Bool)) : List Operand → List Nat
  | [] => []
  | x :: r => match opv S pc x with
    | some (.ls id _) => id :: opLs S pc r
    | _ => opLs S pc r

def HasBlks (S : St) (w : World) : List Nat → Prop → Prop
  | [], A => A
  | id :: r, A => match S.L[id]?, S.B[id]? with
    | some (t, cs), some b => w.heap[b]? = some (Obj.cells cs.toArray t (0, 0)) → HasBlks S w r A
    | _, _ => False
theorem HasBlks.out {S : St} {w wr : World} (h : WRel S w wr) : ∀ {ids : List Nat} {A : Prop}, HasBlks S wr ids A → A
  | [], _, h' => h'
  | id :: r, A, h' => by
    simp only [HasBlks] at h'
    split at h'
    · rename_i t cs b hl hb
      obtain ⟨b', hb', hh⟩ := h.loc id t cs hl
      rw [hb] at hb'; cases hb'
      exact HasBlks.out h (h' hh)
    · exact h'.elim

def callFact (C : Cfg) (ids : List Nat) (f : Nat) (args : List Value) (r : Value) (G : Prop → Prop) : Fact := fun S w =>
  match ids with
  | [] => G (PureX S.bs C.P f args.toArray w r)
  | ids => G (∀ w2, ExtX S.bs w w2 → HasBlks S w2 ids (PureX S.bs C.P f args.toArray w2 r))

structure Callable (P : Program) (f : Nat) : Prop where
  is : ∃ fn, P.funcs[f]? = some fn ∧ fn.body.isNone = false ∧ (fn.name == "runtime.NumGoroutine") = false
def callableB (P : Program) (f : Nat) : Bool :=
  match P.funcs[f]? with
  | some fn => !fn.body.isNone && !(fn.name == "runtime.NumGoroutine")
  | none => false
theorem callable_of {P : Program} {f : Nat} (h : callableB P f = true) : Callable P f := by
  unfold callableB at h
  split at h
  · rename_i fn hf
    simp only [Bool.and_eq_true, Bool.not_eq_true'] at h
    exact ⟨fn, hf, h.1, h.2⟩
  · cases h
theorem run_call {P : Program} {f : Nat} (h : Callable P f) (args : Array Operand) (argTypes : Array TypeId) (a : Act) {o : Oper} (ho : o.op = .call { callee := .value (.func f), args, argTypes }) (w : World) :
    (execOp a.eval o).run P w = .ok (.enter f (args.map a.eval)) w := by
  obtain ⟨fn, hf, hb, hn⟩ := h.is
  unfold execOp
  rw [ho]
  have hn' : ¬ fn.name = "runtime.NumGoroutine" := by simpa using hn
  have hb' : ¬ fn.body = none := by intro e; rw [e] at hb; cases hb
  simp [resolve, Deferred.ofValue, invoke, callFunc, hf, hb', hn', Act.eval]

/-! ### The index of the operation that writes a slot -/
def writerL : List Oper → Nat → Nat → Option Nat
  | [], _, _ => none
  | o :: r, t, k => match o.dst with
    | some d => bif Nat.beq d t then some k else writerL r t (k + 1)
    | none => writerL r t (k + 1)
theorem writerL_spec : ∀ {l : List Oper} {t k j : Nat}, writerL l t k = some j → k ≤ j ∧ ∃ o, l[j - k]? = some o ∧ o.dst = some t
  | [], _, _, _, h => by cases h
  | o :: r, t, k, j, h => by
    simp only [writerL] at h
    have rec_ : ∀ {j}, writerL r t (k + 1) = some j → k ≤ j ∧ ∃ o', (o :: r)[j - k]? = some o' ∧ o'.dst = some t := fun {j} h => by
      obtain ⟨h1, o', h2, h3⟩ := writerL_spec h
      refine ⟨by omega, o', ?_, h3⟩
      have : j - k = (j - (k + 1)) + 1 := by omega
      rw [this]; simpa using h2
    split at h
    · rename_i d hd
      cases hb : Nat.beq d t with
      | true =>
        rw [hb] at h
        simp only [cond_true, Option.some.injEq] at h
        subst h
        exact ⟨Nat.le_refl _, o, by simp, by rw [hd, Nat.eq_of_beq_eq_true hb]⟩
      | false => rw [hb] at h; exact rec_ h
    · exact rec_ h
def condPc (ops : Array Oper) (pc : List (Nat × Bool)) (c : Operand) (b : Bool) : List (Nat × Bool) :=
  match c with
  | .tmp t => match writerL ops.toList t 0 with
    | some j => (j, b) :: pc
    | none => pc
  | _ => pc
theorem condPc_H {n : Nat} {S : St} {ops : Array Oper} {a : Act} (hf : Fits n S ops a) {pc : List (Nat × Bool)} (hp : pcH ops a pc) {c : Operand} {b : Bool} (hc : a.eval c = .bool b) : pcH ops a (condPc ops pc c b) := by
  unfold condPc
  split
  · rename_i t
    split
    · rename_i j hj
      obtain ⟨_, o, ho, hd⟩ := writerL_spec hj
      intro p hm
      rcases List.mem_cons.1 hm with rfl | hm
      · have hj' : ops[j]? = some o := by simpa using ho
        simp only [Act.eval] at hc
        unfold yielded
        rw [hj']
        simp only [Option.bind_some, hd]
        cases ht : a.tmps[t]? with
        | none => rw [Array.getD_eq_getD_getElem?, ht] at hc; simp [undef] at hc
        | some x =>
          rw [Array.getD_eq_getD_getElem?, ht] at hc
          simp only [Option.getD_some] at hc
          subst hc; rfl
      · exact hp p hm
    · exact hp
  · exact hp

/-! ### What a load leaves -/
def Ty.val (ty : Ty) (vs : List Value) : Option Value := bif ty.agg then some (.agg vs.toArray) else match vs with | [v] => some v | _ => none

theorem loadVar_of {P : Program} {T : TypeId → Option Ty} (hT : TOk P T) {t : TypeId} {ty : Ty} (ht : T t = some ty) {a : Addr} {vs : List Value} {v : Value} (hv : ty.val vs = some v) (hl : vs.length = ty.ks.length) {w : World}
    (hc : ∀ (j : Nat) (x : Value), vs[j]? = some x → w.cell? (a.add j) = some x) : (loadVar t a).run P w = .ok v w := by
  obtain ⟨d, hu, hag, _⟩ := (hT.facts ht).desc
  obtain ⟨i, z, hi, _, hsz, _⟩ := (hT.facts ht).info
  unfold loadVar
  simp only [Sem.run_bind, run_isAgg' hu, Result.andThen_ok]
  unfold Ty.val at hv
  cases hg : ty.agg with
  | true =>
    rw [hg] at hv
    simp only [cond_true, Option.some.injEq] at hv
    subst hv
    rw [← hag, hg]
    simp only [if_true]
    have := run_loadCells_list (P := P) (w := w) a vs hc
    simp only [Sem.run_bind, run_sizeOf' hi, Result.andThen_ok, hsz, ← hl, this, Sem.run_pure]
  | false =>
    rw [hg] at hv
    simp only [cond_false] at hv
    split at hv
    · rename_i x
      simp only [Option.some.injEq] at hv; subst hv
      rw [← hag, hg]
      simp only [Bool.false_eq_true, if_false]
      have := hc 0 x rfl
      rw [Addr.add_zero'] at this
      simp [this]
    · cases hv
end Go.Proofs.YthojnihahmlboaaGreat
