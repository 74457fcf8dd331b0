/- The engine, part 7: 'evE': what is owed of an operation that makes or writes memory or calls a function that may; 'evSeq': a region in text order. -/
import Derived.Test.YthojnihahmlboaaGreatEng6
namespace Go.Proofs.YthojnihahmlboaaGreat
open Go.RowKit
set_option linter.unusedVariables false

def isIntT (C : Cfg) (t : TypeId) : Bool := match C.T t with
  | some { agg := _, ks := _, d := .int _ } => true
  | _ => false
def isEff (C : Cfg) : Op → Bool
  | .alloc _ | .box _ _ | .store _ _ _ | .buildSlice _ _ _ => true
  | .call { callee := .value (.func f), args := _, argTypes := _ } => !(asc C.pf f).isSome
  | .call { callee := .builtin b, args := _, argTypes := _ } => match b with
    | .append | .copy => true
    | _ => false
  | .call { callee := .value (.tmp _), args := _, argTypes := _ } | .call { callee := .invoke _ _, args := _, argTypes := _ } => true
  | .makeSlice _ _ _ | .makeMap _ _ | .lookup _ _ _ _ | .mapUpdate _ _ _ _ | .insert _ _ _ _ | .range _ _ | .next _ _ => true
  | .convert s d _ => !(isIntT C s && isIntT C d)
  | _ => false

/-- All local blocks are older than the world that follows. -/
def St.aged (S : St) : St := { S with old := S.B.length }
def Kept (B : List Nat) (w w' : World) : Prop := ∀ b ∈ B, w'.heap[b]? = w.heap[b]?
def bRK : Builtin → List RK
  | .append => [.cell .slice]
  | _ => [.cell (.int .i64)]
def constsOf (args : Array Operand) : Array Bool := args.map fun | .const _ => true | _ => false

def catCells (z : Nat) : List (Nat × Operand) → Nat → List Value → Option (List Value)
  | [], _, [] => some []
  | (i, _) :: r, k, v :: vs => bif Nat.beq i k && Nat.beq v.cells.toList.length z then
      match catCells z r (k + 1) vs with
      | some l => some (v.cells.toList ++ l)
      | none => none
    else none
  | _, _, _ => none

def newBlk (C : Cfg) (S : St) (w : World) (d : Option Tmp) (t : TypeId) (cells : List Value) (e : Nat → EV) (K : St → World → Prop) : Prop :=
  ∀ b, w.heap.size ≤ b → putS C { S with L := S.L ++ [(t, cells)], B := S.B ++ [b] } d (.un (e S.L.length)) fun S' => K S' w
def newVis (C : Cfg) (S : St) (w : World) (d : Option Tmp) (t : TypeId) (cells : List Value) (e : Nat → EV) (K : St → World → Prop) : Prop :=
  bif C.pm then False else ∀ b w', ExtX S.bs w w' → w.heap.size ≤ b → w'.heap[b]? = some (Obj.cells cells.toArray t (0, 0)) → b ∉ S.B → putS C S.aged d (.un (e b)) fun S' => K S' w'
def memB (l : List Nat) (x : Nat) : Bool := l.any fun y => Nat.beq y x

/-- Operations that are told by the model's own semantics: the operands, the result's kinds, whether they only act, what they do. -/
def primOf (C : Cfg) (o : Oper) : Option (List Operand × List RK × Bool × (List Value → Sem Value)) :=
  match o.op with
  | .makeSlice t l c => some ([l, c], [.cell .slice], false, fun | [x, y] => Instr.makeSlice t x y | _ => pure undef)
  | .makeMap t none => some ([], [.cell .map], false, fun _ => Instr.makeMap t none)
  | .makeMap t (some r) => some ([r], [.cell .map], false, fun | [x] => Instr.makeMap t (some x) | _ => pure undef)
  | .lookup t x i ok => match rkT C o.type with
    | some rk => some ([x, i], rk, false, fun | [a, b] => Instr.lookup t a b ok | _ => pure undef)
    | none => none
  | .mapUpdate t m k x => some ([m, k, x], [], true, fun | [a, b, c] => do Instr.mapUpdate t a b c; pure undef | _ => pure undef)
  | .insert t m k x => some ([m, k, x], [], true, fun | [a, b, c] => do Instr.mapUpdate t a b c; pure undef | _ => pure undef)
  | .range t x => some ([x], [.cell .ptr], false, fun | [a] => Instr.range t a | _ => pure undef)
  | .convert s d x => match rkT C o.type with
    | some rk => some ([x], rk, false, fun | [a] => convert s d a | _ => pure undef)
    | none => none
  | _ => none
theorem primOf_run {C : Cfg} {o : Oper} {xs : List Operand} {rk : List RK} {u : Bool} {f : List Value → Sem Value} (h : primOf C o = some (xs, rk, u, f)) (ρ : Operand → Value) {P : Program} {w w' : World} {v : Value} (hr : (f (xs.map ρ)).run P w = .ok v w') :
    (execOp ρ o).run P w = .ok (if u then .skip else .value v) w' := by
  unfold primOf at h
  split at h
  case h_5 t m k x ho =>
    simp only [Option.some.injEq, Prod.mk.injEq] at h
    obtain ⟨rfl, rfl, rfl, rfl⟩ := h
    simp only [List.map_cons, List.map_nil, Sem.run_bind, Sem.run_pure] at hr
    simp only [execOp, ho, Sem.run_bind, Sem.run_pure, if_true]
    generalize (Instr.mapUpdate t (ρ m) (ρ k) (ρ x)).run P w = q at hr ⊢
    cases q <;> simp_all [Result.andThen]
  case h_6 t m k x ho =>
    simp only [Option.some.injEq, Prod.mk.injEq] at h
    obtain ⟨rfl, rfl, rfl, rfl⟩ := h
    simp only [List.map_cons, List.map_nil, Sem.run_bind, Sem.run_pure] at hr
    simp only [execOp, ho, Sem.run_bind, Sem.run_pure, if_true]
    generalize (Instr.mapUpdate t (ρ m) (ρ k) (ρ x)).run P w = q at hr ⊢
    cases q <;> simp_all [Result.andThen]
  all_goals
    (try split at h)
    all_goals first
      | cases h; done
      | (rename_i ho _ _ _
         simp only [Option.some.injEq, Prod.mk.injEq] at h
         obtain ⟨rfl, rfl, rfl, rfl⟩ := h
         simp only [List.map_cons, List.map_nil] at hr
         simp [execOp, ho, hr]
         done)
      | (rename_i ho
         simp only [Option.some.injEq, Prod.mk.injEq] at h
         obtain ⟨rfl, rfl, rfl, rfl⟩ := h
         simp only [List.map_cons, List.map_nil] at hr
         simp [execOp, ho, hr])
/-- A call of a function value; of a method through an interface. -/
def callV (v : Value) (vs : List Value) : Sem Next := do let d ← Deferred.ofValue v vs.toArray; invoke d.target d.args
def callM (m : String) (v : Value) (vs : List Value) : Sem Next := invoke (.fn (.method m) #[]) (#[v] ++ vs.toArray)
def iterW (w : World) (b : Nat) (s : ByteArray) (p : Nat) : World := { w with heap := w.heap.setIfInBounds b (.stringIter s p) }

def evE (C : Cfg) (S : St) (w : World) (o : Oper) (pc : List (Nat × Bool)) (K : St → World → Prop) : Prop :=
  match o.op with
  | .alloc t => match C.T t with
    | some ty => bif ty.ks.contains .other then False
      else match o.dst with
        | some d => bif memB C.vis d then newVis C S w o.dst t (ty.ks.map zv) (fun b => .el (some ⟨b, 0, none⟩) 0) K else newBlk C S w o.dst t (ty.ks.map zv) (fun i => .loc i 0) K
        | none => False
    | none => False
  | .box t x => match opa S pc x with
    | some v => match o.dst with
        | some d => bif memB C.vis d then newVis C S w o.dst t v.cells.toList (fun b => .el (some ⟨b, 0, none⟩) 0) K else newBlk C S w o.dst t v.cells.toList (fun i => .loc i 0) K
        | none => False
    | none => False
  | .buildSlice t n parts => match C.T t, opas S pc (parts.toList.map (·.2)) with
    | some { agg := _, ks := _, d := .slice e z }, some vs => match C.T e, catCells z parts.toList 0 vs with
      | some _, some cells => bif Nat.beq n vs.length && Nat.blt 0 z && Nat.blt 0 n && Nat.blt (n * z) 16777216 then
          (match o.dst with
            | some d => bif memB C.vis d then newVis C S w o.dst e cells (fun b => .v (.slice (some ⟨b, 0, none⟩) n n)) K else newBlk C S w o.dst e cells (fun i => .ls i n) K
            | none => False)
        else False
      | _, _ => False
    | _, _ => False
  | .store t x y => match C.T t, opv S pc x, opa S pc y with
    | some ty, some (.loc id off), some v => match S.L[id]? with
      | some (t', cs) => bif Nat.beq v.cells.toList.length ty.ks.length && Nat.ble (off + v.cells.toList.length) cs.length && oneCells v.cells.toList && !memB S.lk id then
          K { S with L := S.L.set id (t', cs.take off ++ v.cells.toList ++ cs.drop (off + v.cells.toList.length)) } w
        else False
      | none => False
    | some ty, some (.le id i m), some v => match S.L[id]? with
      | some (t', cs) => bif Nat.beq v.cells.toList.length ty.ks.length && Nat.beq v.cells.toList.length 1 && oneCells [v] && !memB S.lk id then
          (i.toNat + m < cs.length) ∧ exKs (cs.map ckV) fun vs => cs.set (i.toNat + m) v = vs ∧ K { S with L := S.L.set id (t', vs) } w
        else False
      | none => False
    | some ty, some (.el ob n), some v => bif Nat.beq v.cells.toList.length ty.ks.length && oneCells v.cells.toList && !C.pm && Nat.blt 0 ty.ks.length then
        WrX S.bs w ob n v.cells.toList.length ∧ K S (sto w ob n v.cells.toList)
      else False
    | some ty, some (.v (.pointer ob)), some v => bif Nat.beq v.cells.toList.length ty.ks.length && oneCells v.cells.toList && !C.pm && Nat.blt 0 ty.ks.length then
        WrX S.bs w ob 0 v.cells.toList.length ∧ K S (sto w ob 0 v.cells.toList)
      else False
    | _, _, _ => False
  | .call { callee := .value (.func f), args := args, argTypes := _ } => match asc C.ef f, opas S pc args.toList with
    | some rks, some vs => bif C.pm then False else ∀ wr, ExtX S.bs w wr → (∀ b ∈ S.B, b < wr.heap.size) → HasBlks S wr (opLs S pc args.toList)
        (Calls C.P f vs.toArray wr fun e w' => exRes rks fun r => e = .returned r ∧ Kept S.B wr w' ∧ putS C S.aged o.dst (.un (.v r)) fun S' => K S' w')
    | _, _ => False
  | .call { callee := .builtin bi, args := args, argTypes := ts } => match opas S pc args.toList with
    | some vs => bif C.pm then False else ∀ wr, ExtX S.bs w wr → (∀ b ∈ S.B, b < wr.heap.size) → HasBlks S wr (opLs S pc args.toList)
        (exRes (bRK bi) fun r => ∃ w', (builtin bi ts o.type (constsOf args) vs.toArray).run C.P wr = .ok (.value r) w' ∧ Kept S.B wr w' ∧ putS C S.aged o.dst (.un (.v r)) fun S' => K S' w')
    | none => False
  | .call { callee := .value (.tmp t), args := args, argTypes := _ } => match opa S pc (.tmp t), opas S pc args.toList, rkT C o.type with
    | some v, some vs, some rks => bif C.pm then False else ∀ wr, ExtX S.bs w wr → (∀ b ∈ S.B, b < wr.heap.size) → HasBlks S wr (opLs S pc args.toList)
        (∃ (f : FuncId) (as : Array Value), (callV v vs).run C.P wr = .ok (.enter f as) wr ∧ Calls C.P f as wr fun e w' => exRes rks fun r => e = .returned r ∧ Kept S.B wr w' ∧ putS C S.aged o.dst (.un (.v r)) fun S' => K S' w')
    | _, _, _ => False
  | .call { callee := .invoke rc m, args := args, argTypes := _ } => match opa S pc rc, opas S pc args.toList, rkT C o.type with
    | some v, some vs, some rks => bif C.pm then False else ∀ wr, ExtX S.bs w wr → (∀ b ∈ S.B, b < wr.heap.size) → HasBlks S wr (opLs S pc args.toList)
        (∃ (f : FuncId) (as : Array Value), (callM m v vs).run C.P wr = .ok (.enter f as) wr ∧ Calls C.P f as wr fun e w' => exRes rks fun r => e = .returned r ∧ Kept S.B wr w' ∧ putS C S.aged o.dst (.un (.v r)) fun S' => K S' w')
    | _, _, _ => False
  | .next it true => match opa S pc it with
    | some (.pointer ob) => bif C.pm then False else ∀ wr, ExtX S.bs w wr → (∀ b ∈ S.B, b < wr.heap.size) →
        ∃ (b : Nat) (s : ByteArray) (pos : Nat), ob = some ⟨b, 0, none⟩ ∧ b ∉ S.B ∧ wr.heap[b]? = some (.stringIter s pos) ∧
          (s.size ≤ pos → putS C S.aged o.dst (.un (.v (.tuple #[.bool false]))) fun S' => K S' wr) ∧
          (pos < s.size → putS C S.aged o.dst (.un (.v (.tuple #[.bool true, .int .i64 pos, .int .i32 (Utf8.decode s pos).1]))) fun S' => K S' (iterW wr b s (pos + (Utf8.decode s pos).2)))
    | _ => False
  | _ => match primOf C o with
    | some (xs, rk, u, f) => match opas S pc xs with
      | some vs => bif C.pm then False else ∀ wr, ExtX S.bs w wr → (∀ b ∈ S.B, b < wr.heap.size) →
          (bif u then (match o.dst with
            | none => ∃ w', (f vs).run C.P wr = .ok undef w' ∧ Kept S.B wr w' ∧ K S.aged w'
            | some _ => False)
          else exRes rk fun r => ∃ w', (f vs).run C.P wr = .ok r w' ∧ Kept S.B wr w' ∧ putS C S.aged o.dst (.un (.v r)) fun S' => K S' w')
      | none => False
    | none => False

/-- How the states before and behind a stretch of text hang together. -/
structure FrS (S S' : St) : Prop where
  B : ∀ (id b : Nat), S.B[id]? = some b → S'.B[id]? = some b
  ty : ∀ (id : Nat) (t : TypeId) (cs : List Value), S.L[id]? = some (t, cs) → ∃ cs' : List Value, S'.L[id]? = some (t, cs')
  lk : ∀ id ∈ S.lk, id ∈ S'.lk ∧ S'.L[id]? = S.L[id]?
theorem FrS.refl (S : St) : FrS S S := ⟨fun _ _ h => h, fun _ _ cs h => ⟨cs, h⟩, fun _ h => ⟨h, rfl⟩⟩
theorem FrS.trans {S S' S'' : St} (h : FrS S S') (k : FrS S' S'') : FrS S S'' :=
  ⟨fun id b hb => k.B id b (h.B id b hb), fun id t cs hc => (let ⟨cs1, h1⟩ := h.ty id t cs hc; k.ty id t cs1 h1), fun id hi => ⟨(k.lk id (h.lk id hi).1).1, ((k.lk id (h.lk id hi).1).2).trans (h.lk id hi).2⟩⟩
theorem FrS.putF {S S' : St} (h : FrS S S') (d : Option Tmp) (sv : SV) : FrS S (S'.putF d sv) := by
  cases d <;> exact ⟨h.B, h.ty, h.lk⟩
theorem WRel.putF {S : St} {w wr : World} (h : WRel S w wr) (d : Option Tmp) (sv : SV) : WRel (S.putF d sv) w wr := by
  cases d <;> exact ⟨h.ext, h.loc, h.len, h.dist, h.fresh⟩

theorem opv_nil {n : Nat} {S : St} {ops : Array Oper} {D : Nat → Prop} {a : Act} (hf : FitD n S ops D a) {x : Operand} {e : EV} (h : opv S [] x = some e) : EV.den S e (a.eval x) :=
  opv_den hf.fit (pc := []) (fun p hp => by cases hp) h
theorem opa_nil {n : Nat} {S : St} {ops : Array Oper} {D : Nat → Prop} {a : Act} (hf : FitD n S ops D a) {x : Operand} {v : Value} (h : opa S [] x = some v) : a.eval x = v :=
  opa_eval hf.fit (pc := []) (fun p hp => by cases hp) h
theorem opas_nil {n : Nat} {S : St} {ops : Array Oper} {D : Nat → Prop} {a : Act} (hf : FitD n S ops D a) {xs : List Operand} {vs : List Value} (h : opas S [] xs = some vs) : xs.map a.eval = vs :=
  opas_eval hf.fit (pc := []) (fun p hp => by cases hp) h
theorem memB_spec {l : List Nat} {x : Nat} (h : memB l x = false) : x ∉ l := by
  intro hx
  have : memB l x = true := by simp only [memB, List.any_eq_true]; exact ⟨x, hx, Nat.beq_refl x⟩
  rw [h] at this; cases this
theorem bs_sub {S : St} {b : Nat} (h : b ∈ S.bs) : b ∈ S.B := List.mem_of_mem_take h

structure WfS (S : St) : Prop where
  old : S.old ≤ S.B.length
  lk : ∀ id ∈ S.lk, id < S.L.length
theorem WfS.putF {S : St} (h : WfS S) (d : Option Tmp) (sv : SV) : WfS (S.putF d sv) := by
  cases d <;> exact ⟨h.old, h.lk⟩
theorem WfS.aged {S : St} (h : WfS S) : WfS S.aged := ⟨Nat.le_refl _, h.lk⟩

/-- A block pushed onto a world. -/
theorem WRel.push {S : St} {w wr : World} (h : WRel S w wr) (ho : S.old ≤ S.B.length) (t : TypeId) (cells : List Value) :
    WRel { S with L := S.L ++ [(t, cells)], B := S.B ++ [wr.heap.size] } w (wr.alloc (.cells cells.toArray t)) := by
  have hlt : ∀ b ∈ S.B, b < wr.heap.size := fun b hb => by
    obtain ⟨id, hid⟩ := List.getElem?_of_mem hb
    have hl : id < S.L.length := by rw [h.len]; exact (List.getElem?_eq_some_iff.1 hid).1
    obtain ⟨b', hb', hh⟩ := h.loc id (S.L[id]).1 (S.L[id]).2 (by rw [List.getElem?_eq_getElem hl])
    rw [hid] at hb'; cases hb'
    exact heap_lt hh
  have hbs : (S.B ++ [wr.heap.size]).take S.old = S.B.take S.old := List.take_append_of_le_length ho
  refine ⟨?_, fun id t' cs hl => ?_, by simp [h.len], ?_, fun id b hid hb => ?_⟩
  · show ExtX ((S.B ++ [wr.heap.size]).take S.old) w _
    rw [hbs]; exact h.ext.alloc _
  · by_cases hi : id < S.L.length
    · have hl' : S.L[id]? = some (t', cs) := by rw [← hl]; exact (List.getElem?_append_left hi).symm
      obtain ⟨b, hb, hh⟩ := h.loc id t' cs hl'
      refine ⟨b, ?_, (Below.heap_alloc wr _ b (heap_lt hh)).trans hh⟩
      show (S.B ++ [wr.heap.size])[id]? = some b
      rw [List.getElem?_append_left (by rw [← h.len]; exact hi)]; exact hb
    · have hi' : id = S.L.length := by
        have : id < (S.L ++ [(t, cells)]).length := (List.getElem?_eq_some_iff.1 hl).1
        simp at this; omega
      subst hi'
      simp only [List.getElem?_concat_length, Option.some.injEq, Prod.mk.injEq] at hl
      obtain ⟨rfl, rfl⟩ := hl
      refine ⟨wr.heap.size, ?_, heap_alloc_new wr _⟩
      show (S.B ++ [wr.heap.size])[S.L.length]? = _
      rw [h.len]; simp
  · refine List.nodup_append.2 ⟨h.dist, by simp, fun x hx y hy => ?_⟩
    simp only [List.mem_singleton] at hy
    subst hy
    have := hlt x hx
    omega
  · have hb' : (S.B ++ [wr.heap.size])[id]? = some b := hb
    by_cases hi : id < S.B.length
    · rw [List.getElem?_append_left hi] at hb'
      exact h.fresh id b hid hb'
    · have : id = S.B.length := by
        have : id < (S.B ++ [wr.heap.size]).length := (List.getElem?_eq_some_iff.1 hb').1
        simp at this; omega
      subst this
      simp at hb'
      subst hb'
      exact h.ext.size

/-- The world that is seen is the world that is. -/
theorem WRel.age {S : St} {w wr wr' : World} (h : WRel S w wr) (hk : Kept S.B wr wr') : WRel S.aged wr' wr' :=
  ⟨ExtX.refl _ _, fun id t cs hl => by
    obtain ⟨b, hb, hh⟩ := h.loc id t cs hl
    exact ⟨b, hb, (hk b (List.mem_of_getElem? hb)).trans hh⟩, h.len, h.dist, fun id b hid hb => by
    have : id < S.B.length := (List.getElem?_eq_some_iff.1 hb).1
    simp only [St.aged] at hid
    omega⟩
theorem WRel.lt {S : St} {w wr : World} (h : WRel S w wr) : ∀ b ∈ S.B, b < wr.heap.size := fun b hb => by
  obtain ⟨id, hid⟩ := List.getElem?_of_mem hb
  have hl : id < S.L.length := by rw [h.len]; exact (List.getElem?_eq_some_iff.1 hid).1
  obtain ⟨b', hb', hh⟩ := h.loc id (S.L[id]).1 (S.L[id]).2 (by rw [List.getElem?_eq_getElem hl])
  rw [hid] at hb'; cases hb'
  exact heap_lt hh
theorem WRel.ndup {S : St} {w wr : World} (h : WRel S w wr) {i j b : Nat} (hi : S.B[i]? = some b) (hj : S.B[j]? = some b) : i = j := by
  obtain ⟨h1l, h1e⟩ := List.getElem?_eq_some_iff.1 hi
  obtain ⟨h2l, h2e⟩ := List.getElem?_eq_some_iff.1 hj
  have hp := List.pairwise_iff_getElem.1 h.dist
  rcases Nat.lt_trichotomy i j with hlt | heq | hgt
  · exact absurd (h1e.trans h2e.symm) (hp i j h1l h2l hlt)
  · exact heq
  · exact absurd (h2e.trans h1e.symm) (hp j i h2l h1l hgt)
end Go.Proofs.YthojnihahmlboaaGreat
