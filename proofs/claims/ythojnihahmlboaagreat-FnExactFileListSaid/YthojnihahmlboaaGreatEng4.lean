/- The engine, part 4: 'evq': what is owed of a quiet operation, and what goes on with its value; its soundness. -/
import Derived.Test.YthojnihahmlboaaGreatEng3
namespace Go.Proofs.YthojnihahmlboaaGreat
open Go.RowKit
set_option linter.unusedVariables false

def pickRes (a b : Operand) (cb : Bool) (x y : Value) (K : Value → Prop) : Prop :=
  match a, b, x, y with
  | .const (.bool true), _, _, .bool y => K (.bool (cb || y))
  | _, .const (.bool false), .bool x, _ => K (.bool (cb && x))
  | _, _, .bool x, .bool y => K (.bool (bif cb then x else y))
  | _, _, _, _ => False
theorem pickRes_out {a b : Operand} {cb : Bool} {x y : Value} {K : Value → Prop} {ax bx : Value} (ha : cb = true → ax = x) (hb : cb = false → bx = y) (hca : ∀ v, a = .const v → ax = v) (hcb : ∀ v, b = .const v → bx = v)
    (h : pickRes a b cb x y K) : ∃ v, K v ∧ v = (if cb = true then ax else bx) := by
  unfold pickRes at h
  split at h
  · refine ⟨_, h, ?_⟩
    cases cb
    · simp [hb rfl]
    · simp [hca _ rfl]
  · refine ⟨_, h, ?_⟩
    cases cb
    · simp [hcb _ rfl]
    · simp [ha rfl]
  · refine ⟨_, h, ?_⟩
    cases cb
    · simp [hb rfl]
    · simp [ha rfl]
  · exact h.elim

/-- Bounds of a slice expression, by what is given. -/
def lowOf (x : Option Value) (K : Int → Prop) : Prop :=
  match x with
  | none => K 0
  | some (.int _ i) => K i
  | _ => False
def highOf (len : Nat) (x : Option Value) (K : Int → Prop) : Prop :=
  match x with
  | none => K len
  | some (.int _ i) => K i
  | _ => False
def opao (S : St) (pc : List (Nat × Bool)) : Option Operand → Option (Option Value)
  | none => some none
  | some x => match opa S pc x with
    | some v => some (some v)
    | none => none
theorem opao_eval {n : Nat} {S : St} {ops : Array Oper} {a : Act} (hf : Fits n S ops a) {pc : List (Nat × Bool)} (hp : pcH ops a pc) {x : Option Operand} {v : Option Value} (h : opao S pc x = some v) : x.map a.eval = v := by
  cases x with
  | none => simp only [opao, Option.some.injEq] at h; subst h; rfl
  | some x =>
    simp only [opao] at h
    split at h
    · rename_i u hu; simp only [Option.some.injEq] at h; subst h; simp [opa_eval hf hp hu]
    · cases h

/-- Structs, and what the table does not know, are held against one another by the model's own semantics. -/
def TD.byRun : TD → Bool
  | .struct _ => true
  | .other => true
  | _ => false
def byR (d : TD) (op : BinOp) (wr : Bool) : Bool := d.byRun || (wr && match op with
  | .sub => true
  | _ => false)
def kdR (d : TD) : CK := match d with
  | .int k => .int k
  | _ => .bool
def TD.isOther : TD → Bool
  | .other => true
  | _ => false
/-- The kinds of a result by its type: one value, or a tuple. -/
def rkT (C : Cfg) (t : TypeId) : Option (List RK) := match asc C.tt t with
  | some l => some l
  | none => match C.T t with
    | some ty => bif ty.agg then some [.agg ty.ks] else match ty.ks with
      | [k] => some [.cell k]
      | _ => none
    | none => none
/-- What a type assertion gives: the value, and whether it is of that type, if that is asked. -/
def rkA (C : Cfg) (u : TypeId) (ok : Bool) : Option (List RK) := match rkT C u with
  | some [k] => bif ok then some [k, .cell .bool] else some [k]
  | _ => none
def evq (C : Cfg) (S : St) (w : World) (ops : Array Oper) (o : Oper) (pc : List (Nat × Bool)) (K : EV → OFact → Prop) : Prop :=
  match o.op with
  | .move x | .assign x => match opv S pc x with
    | some e => K e tt'
    | none => False
  | .pick c a b => match opa S pc c with
    | some (.bool cb) => match opv S (condPc ops pc c true) a, opv S (condPc ops pc c false) b with
      | some .no, _ => (match opa S (condPc ops pc c false) b with
        | some y => K (.v y) tt'
        | none => False)
      | _, some .no => (match opa S (condPc ops pc c true) a with
        | some x => K (.v x) tt'
        | none => False)
      | _, _ => match opa S (condPc ops pc c true) a, opa S (condPc ops pc c false) b with
        | some x, some y => pickRes a b cb x y fun v => K (.v v) tt'
        | _, _ => False
    | _ => False
  | .nilCheck x => match opv S pc x with
    | some (.el o n) => K (.el o n) tt'
    | some (.loc id off) => K (.loc id off) tt'
    | some (.le id i k) => K (.le id i k) tt'
    | some (.v (.pointer o)) => gdP S ops pc (o.isSome = true) ∧ K (.el o 0) tt'
    | some (.v (.func (.func f) fs cs)) => K (.v (.func (.func f) fs cs)) tt'
    | _ => False
  | .binOp op t x y _ => match C.T t, opa S pc x, opa S pc y with
    | some ty, some a, some b => bif byR ty.d op C.wr then exK (kdR ty.d) fun v => gdP S ops pc (∀ wr, ((do eqGuard op t x y a b; binOp op t a b) : Sem Value).run C.P wr = .ok v wr) ∧ K (.v v) tt' else evBin (gdP S ops pc) ty.d op a b fun v => K (.v v) tt'
    | _, _, _ => False
  | .unOp .not _ x => match opa S pc x with
    | some (.bool b) => K (.v (.bool (!b))) tt'
    | _ => False
  | .unOp .neg _ x => match opa S pc x with
    | some (.int k n) => gdP S ops pc (InR k (0 - n)) ∧ K (.v (.int k (0 - n))) tt'
    | _ => False
  | .fieldAddr s x f => match C.T s, opv S pc x with
    | some { agg := _, ks := _, d := .struct fs }, some e => match fs[f]? with
      | some (off, _, _) => match e with
        | .loc id m => K (.loc id (m + off)) tt'
        | .el o m => K (.el o (m + off)) tt'
        | .le id i m => K (.le id i (m + off)) tt'
        | .v (.pointer o) => gdP S ops pc (o.isSome = true) ∧ K (.el o off) tt'
        | _ => False
      | none => False
    | _, _ => False
  | .field t x f => match C.T t, opa S pc x with
    | some { agg := _, ks := _, d := .struct fs }, some (.agg cs) => match fs[f]? with
      | some (off, true, z) => K (.v (.agg (cs.extract off (off + z)))) tt'
      | some (off, false, _) => match cs[off]? with
        | some v => K (.v v) tt'
        | none => False
      | none => False
    | _, _ => False
  | .indexAddr t x i => match C.T t, opv S pc x, opa S pc i with
    | some { agg := _, ks := _, d := .slice _ z }, some (.v (.slice o len _)), some (.int _ i) => gdP S ops pc (Ix o len i) ∧ K (.el o (i.toNat * z)) tt'
    | some { agg := _, ks := _, d := .slice _ 1 }, some (.ls id len), some (.int _ i) => gdP S ops pc (0 ≤ i ∧ i < len) ∧ K (.le id i 0) tt'
    | some { agg := _, ks := _, d := .arr n z _ }, some (.el o m), some (.int _ i) => gdP S ops pc (0 ≤ i ∧ i < n) ∧ K (.el o (m + i.toNat * z)) tt'
    | some { agg := _, ks := _, d := .arr n 1 _ }, some (.loc id 0), some (.int _ i) => gdP S ops pc (0 ≤ i ∧ i < n) ∧ K (.le id i 0) tt'
    | _, _, _ => False
  | .index t x i => match C.T t, opa S pc x, opa S pc i with
    | some { agg := _, ks := k :: _, d := .arr n 1 false }, some (.agg cs), some (.int _ i) => exK k fun v => gdP S ops pc (0 ≤ i ∧ i < n ∧ cs[i.toNat]? = some v) ∧ K (.v v) tt'
    | some { agg := _, ks := _, d := .str }, some (.string s), some (.int _ i) => gdP S ops pc (0 ≤ i ∧ i < s.size) ∧ K (.v (.int .u8 (strAt s i))) tt'
    | _, _, _ => False
  | .convert s t x => match C.T s, C.T t, opa S pc x with
    | some _, some { agg := _, ks := _, d := .int k }, some (.int _ n) => gdP S ops pc (InR k n) ∧ K (.v (.int k n)) tt'
    | _, _, _ => False
  | .extract x i => match opa S pc x with
    | some (.tuple vs) => match vs[i]? with
      | some v => K (.v v) tt'
      | none => False
    | _ => False
  | .slice t x lo hi none => match C.T t, opa S pc x, opao S pc lo, opao S pc hi with
    | some { agg := _, ks := _, d := .slice _ z }, some (.slice o len cap), some l, some h =>
      lowOf l fun l => highOf len h fun h => gdP S ops pc (0 ≤ l ∧ l ≤ h ∧ h ≤ cap) ∧
        K (.v (.slice (if cap = l.toNat then o else o.map (·.add (l.toNat * z))) (h.toNat - l.toNat) (cap - l.toNat))) tt'
    | some { agg := _, ks := _, d := .str }, some (.string s), some l, some h =>
      lowOf l fun l => highOf s.size h fun h => gdP S ops pc (0 ≤ l ∧ l ≤ h ∧ h ≤ s.size) ∧ K (.v (.string (s.extract l.toNat h.toNat))) tt'
    | _, _, _, _ => False
  | .makeFunc fn first cap => match opas S pc first.toList, opas S pc cap.toList with
    | some a, some b => K (.v (.func fn a.toArray b.toArray)) tt'
    | _, _ => False
  | .makeInterface t x => match C.T t, opa S pc x with
    | some ty, some v => bif ty.d.isOther then False else K (.v (.iface t v)) tt'
    | _, _ => False
  | .typeAssert x t u ok => match opa S pc x, rkA C u ok with
    | some a, some rk => exRes rk fun r => gdP S ops pc (∀ wr, (Instr.typeAssert a t u ok).run C.P wr = .ok r wr) ∧ K (.v r) tt'
    | _, _ => False
  | .build t parts => match C.T t with
    | some { agg := _, ks := ks, d := .struct fs } => match opas S pc (parts.toList.map (·.2)), ks.contains .other with
      | some vs, false => match Instr.fill (fun i => (fs[i]?).map fun f => (f.1, f.2.2)) (ks.map zv).toArray ((parts.toList.map (·.1)).zip vs) with
        | some cells => K (.v (.agg cells)) tt'
        | none => False
      | _, _ => False
    | some { agg := _, ks := ks, d := .arr _ z _ } => match opas S pc (parts.toList.map (·.2)), ks.contains .other with
      | some vs, false => match Instr.fill (fun i => some (i * z, z)) (ks.map zv).toArray ((parts.toList.map (·.1)).zip vs) with
        | some cells => K (.v (.agg cells)) tt'
        | none => False
      | _, _ => False
    | _ => False
  | .load t x => match C.T t, opv S pc x with
    | some ty, some (.el o n) => exKs ty.ks fun vs => match ty.val vs with
      | some v => gdP S ops pc (CellsX S.bs w o n vs) ∧ K (.v v) (some fun S' w' => gdP S ops pc (CellsX S'.bs w' o n vs))
      | none => False
    | some ty, some (.v (.pointer o)) => bif ty.ks.isEmpty then False else exKs ty.ks fun vs => match ty.val vs with
      | some v => gdP S ops pc (CellsX S.bs w o 0 vs) ∧ K (.v v) (some fun S' w' => gdP S ops pc (CellsX S'.bs w' o 0 vs))
      | none => False
    | some ty, some (.loc id off) => match S.L[id]? with
      | some (t', cs) => match bif Nat.beq ((cs.drop off).take ty.ks.length).length ty.ks.length then ty.val ((cs.drop off).take ty.ks.length) else none with
        | some v => K (.v v) (some fun S' _ => S'.L[id]? = some (t', cs))
        | none => False
      | none => False
    | some { agg := false, ks := [k], d := _ }, some (.le id i m) => match S.L[id]? with
      | some (t', cs) => exK k fun v => gdP S ops pc (0 ≤ i ∧ cs[i.toNat + m]? = some v) ∧ K (.v v) (some fun S' _ => S'.L[id]? = some (t', cs))
      | none => False
    | _, _ => False
  | .call { callee := .builtin b, args := args, argTypes := ts } => match b, args.toList, ts.toList with
    | .len, [x], [t] => match C.T t, opa S pc x with
      | some { agg := _, ks := _, d := .slice _ _ }, some (.slice _ n _) => K (.v (.int .i64 n)) tt'
      | some { agg := _, ks := _, d := .str }, some (.string s) => K (.v (.int .i64 s.size)) tt'
      | _, _ => False
    | .min, [x, y], _ => match opa S pc x, opa S pc y with
      | some (.int k a), some (.int _ b) => K (.v (.int k (if b < a then b else a))) tt'
      | _, _ => False
    | .max, [x, y], _ => match opa S pc x, opa S pc y with
      | some (.int k a), some (.int _ b) => K (.v (.int k (if b > a then b else a))) tt'
      | _, _ => False
    | _, _, _ => False
  | .call { callee := .value (.func f), args := args, argTypes := _ } => match asc C.pf f, opas S pc args.toList with
    | some rks, some vs => exRes rks fun r => callFact C (opLs S pc args.toList) f vs r (gdP S ops pc) S w ∧ K (.v r) (some (callFact C (opLs S pc args.toList) f vs r (gdP S ops pc)))
    | _, _ => False
  | _ => False

def SameLoc (S S' : St) : Prop := ∀ (id b : Nat), S.B[id]? = some b → S'.B[id]? = some b

/-- What 'evq' gives. -/
def QGives (C : Cfg) (S : St) (w : World) (o : Oper) (a : Act) (K : EV → OFact → Prop) : Prop :=
  ∃ e fact v, K e fact ∧ EV.den S e v ∧ holdsF fact S w ∧
    ∀ (S' : St) (w' : World) (a' : Act), execOp a'.eval o = execOp a.eval o → SameLoc S S' → holdsF fact S' w' → ∀ wr, WRel S' w' wr → o.quietAt C.P a' (WRel S' w') wr v

theorem QGives.of_run {C : Cfg} {S : St} {w : World} {o : Oper} {a : Act} {K : EV → OFact → Prop} {e : EV} {v : Value} (hK : K e tt') (hd : EV.den S e v) (hr : ∀ wr, (execOp a.eval o).run C.P wr = .ok (.value v) wr) : QGives C S w o a K :=
  ⟨e, tt', v, hK, hd, trivial, fun S' w' a' he _ _ wr _ => by
    unfold Oper.quietAt
    rw [he, hr wr]
    exact ⟨rfl, rfl⟩⟩
theorem QGives.of_runs {C : Cfg} {S : St} {w : World} {o : Oper} {a : Act} {K : EV → OFact → Prop} {e : EV} {v : Value} {fact : Fact} (hK : K e (some fact)) (hd : EV.den S e v) (hs : fact S w)
    (hr : ∀ (S' : St) (w' : World), SameLoc S S' → fact S' w' → ∀ wr, WRel S' w' wr → (execOp a.eval o).run C.P wr = .ok (.value v) wr) : QGives C S w o a K :=
  ⟨e, some fact, v, hK, hd, hs, fun S' w' a' he hl hf wr hw => by
    unfold Oper.quietAt
    rw [he, hr S' w' hl hf wr hw]
    exact ⟨rfl, rfl⟩⟩
end Go.Proofs.YthojnihahmlboaaGreat
