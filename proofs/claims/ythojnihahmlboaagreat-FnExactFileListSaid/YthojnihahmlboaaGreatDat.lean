/- Data: what the program's values say, and how they lie in memory; plain laws of lists and of loops. -/
import Derived.Test.YthojnihahmlboaaGreatLib
namespace Go.Proofs.YthojnihahmlboaaGreat
open Go.RowKit
set_option linter.unusedVariables false
set_option linter.unusedSimpArgs false

/-! ### Data -/
structure Ent where
  on : Bool
  v : Int
  w : Int
  sum : Int
  deriving DecidableEq, Inhabited
structure Shf where
  floor : Int
  on : Bool
  v : Int
  w : Int
  sum : Int
  deriving DecidableEq, Inhabited
structure Bnd where
  quota : Int
  pool : Int
  spent : Int
  locals : List Int
  dry : List Bool
  deriving DecidableEq, Inhabited
structure Grp where
  used : Bool
  parent : Int
  name : ByteArray
  weight : Int
  cpus : Int
  period : Int
  next : Int
  sum : Int
  band : Bnd
  shelves : List Shf
  deriving DecidableEq, Inhabited
structure Tsk where
  state : Int
  group : Int
  cpu : Int
  nice : Int
  mask : Int
  v : Int
  sum : Int
  used : Int
  load : Int
  deriving DecidableEq, Inhabited
structure Cpu where
  up : Bool
  cur : Int
  ran : Int
  busy : Int
  idle : Int
  deriving DecidableEq, Inhabited
structure Wld where
  now : Int
  cpus : List Cpu
  tasks : List Tsk
  groups : List Grp
  deriving DecidableEq, Inhabited
structure Que where
  floor : Int
  cur : Int
  ran : Int
  es : List Ent
  deriving DecidableEq, Inhabited
structure QOp where
  kind : Int
  at' : Int
  n : Int
  deriving DecidableEq, Inhabited

/-- The element of an index; an index that is none counts as the default's. -/
def gi {α : Type} [Inhabited α] (l : List α) (i : Int) : α := l.getD i.toNat default
theorem gi_nat {α : Type} [Inhabited α] (l : List α) (k : Nat) : gi l (k : Int) = l.getD k default := rfl
theorem gi_lt {α : Type} [Inhabited α] {l : List α} {k : Nat} (h : k < l.length) : gi l (k : Int) = l[k] := by
  simp [gi_nat, List.getD_eq_getElem?_getD, h]
theorem gi_some {α : Type} [Inhabited α] {l : List α} {k : Nat} (h : k < l.length) : l[k]? = some (gi l (k : Int)) := by
  rw [gi_lt h]; simp [h]
theorem gi_mem {α : Type} [Inhabited α] {l : List α} {i : Int} (h0 : 0 ≤ i) (h1 : i < l.length) : gi l i ∈ l := by
  obtain ⟨k, rfl⟩ := Int.eq_ofNat_of_zero_le h0
  have : k < l.length := by omega
  rw [gi_lt this]; exact List.getElem_mem this
theorem gi_ext {α : Type} [Inhabited α] {l m : List α} (hl : l.length = m.length) (h : ∀ k : Nat, k < l.length → gi l (k : Int) = gi m (k : Int)) : l = m := by
  refine List.ext_getElem hl fun k h1 h2 => ?_
  have := h k h1
  rwa [gi_lt h1, gi_lt h2] at this
theorem gi_map {α β : Type} [Inhabited α] [Inhabited β] (f : α → β) (l : List α) {i : Int} (h0 : 0 ≤ i) (hi : i < (l.length : Int)) : gi (l.map f) i = f (gi l i) := by
  obtain ⟨k, rfl⟩ := Int.eq_ofNat_of_zero_le h0
  rw [gi_lt (by simp; omega), gi_lt (by omega)]; simp
theorem gi_set {α : Type} [Inhabited α] (l : List α) (x : α) {i j : Int} (h0 : 0 ≤ i) (hi : i < (l.length : Int)) (hj : 0 ≤ j) : gi (l.set i.toNat x) j = if i = j then x else gi l j := by
  obtain ⟨k, rfl⟩ := Int.eq_ofNat_of_zero_le h0
  obtain ⟨q, rfl⟩ := Int.eq_ofNat_of_zero_le hj
  simp only [gi_nat, Int.toNat_natCast, List.getD_eq_getElem?_getD, List.getElem?_set]
  by_cases hkq : k = q
  · subst hkq
    have : k < l.length := by omega
    simp [this]
  · have : ¬ ((k : Int) = q) := by omega
    simp [hkq, this]

/-! ### Cells -/
def encE (e : Ent) : List Value := [.bool e.on, .int .i64 e.v, .int .i64 e.w, .int .i64 e.sum]
def encS (s : Shf) : List Value := [.int .i64 s.floor, .bool s.on, .int .i64 s.v, .int .i64 s.w, .int .i64 s.sum]
def encT (t : Tsk) : List Value := [.int .i64 t.state, .int .i64 t.group, .int .i64 t.cpu, .int .i64 t.nice, .int .i64 t.mask, .int .i64 t.v, .int .i64 t.sum, .int .i64 t.used, .int .i64 t.load]
def encC (c : Cpu) : List Value := [.bool c.up, .int .i64 c.cur, .int .i64 c.ran, .int .i64 c.busy, .int .i64 c.idle]
def encO (o : QOp) : List Value := [.int .i64 o.kind, .int .i64 o.at', .int .i64 o.n]
def encI (n : Int) : List Value := [.int .i64 n]
def encB (b : Bool) : List Value := [.bool b]
/-- Where a group's slices lie. -/
structure MG where
  lO : Option Addr
  lC : Nat
  dO : Option Addr
  dC : Nat
  sO : Option Addr
  sC : Nat
  deriving Inhabited
def encG (g : Grp) (m : MG) : List Value := [.bool g.used, .int .i64 g.parent, .string g.name, .int .i64 g.weight, .int .i64 g.cpus, .int .i64 g.period, .int .i64 g.next, .int .i64 g.sum,
  .int .i64 g.band.quota, .int .i64 g.band.pool, .int .i64 g.band.spent, .slice m.lO g.band.locals.length m.lC, .slice m.dO g.band.dry.length m.dC, .slice m.sO g.shelves.length m.sC]

/-! ### Reading -/
/-- A row of elements of z cells each. -/
def Rd {α : Type} [Inhabited α] (enc : α → List Value) (z : Nat) (bs : List Nat) (w : World) (o : Option Addr) (l : List α) : Prop :=
  ∀ i : Int, 0 ≤ i → i < (l.length : Int) → CellsX bs w o (Int.toNat i * z) (enc (gi l i))
theorem Rd.ext {α : Type} [Inhabited α] {enc : α → List Value} {z : Nat} {bs : List Nat} {w w' : World} {o : Option Addr} {l : List α} (h : Rd enc z bs w o l) (hx : ExtX bs w w') : Rd enc z bs w' o l :=
  fun i h0 h1 => (h i h0 h1).ext hx
theorem Rd.less {α : Type} [Inhabited α] {enc : α → List Value} {z : Nat} {bs cs : List Nat} {w : World} {o : Option Addr} {l : List α} (h : Rd enc z bs w o l) (hs : ∀ x ∈ cs, x ∈ bs) : Rd enc z cs w o l :=
  fun i h0 h1 => (h i h0 h1).less hs
theorem CellX.wide {bs cs : List Nat} {w : World} {o : Option Addr} {n : Nat} {v : Value} (h : CellX bs w o n v) (hs : ∀ x ∈ cs, x ∈ bs ∨ w.heap.size ≤ x) : CellX cs w o n v := by
  obtain ⟨a, ho, hb, hc⟩ := h
  refine ⟨a, ho, fun hx => ?_, hc⟩
  have hlt := World.block_lt_of_cell? w _ hc
  rw [add_block] at hlt
  rcases hs _ hx with h1 | h1
  · exact hb h1
  · omega
theorem CellsX.wide {bs cs : List Nat} {w : World} {o : Option Addr} {n : Nat} {vs : List Value} (h : CellsX bs w o n vs) (hs : ∀ x ∈ cs, x ∈ bs ∨ w.heap.size ≤ x) : CellsX cs w o n vs :=
  cellsX_mk fun j v hj => (h.get j v hj).wide hs
theorem Rd.wide {α : Type} [Inhabited α] {enc : α → List Value} {z : Nat} {bs cs : List Nat} {w : World} {o : Option Addr} {l : List α} (h : Rd enc z bs w o l) (hs : ∀ x ∈ cs, x ∈ bs ∨ w.heap.size ≤ x) : Rd enc z cs w o l :=
  fun i h0 h1 => (h i h0 h1).wide hs
theorem CellsX.some {bs : List Nat} {w : World} {o : Option Addr} {n : Nat} {v : Value} {r : List Value} (h : CellsX bs w o n (v :: r)) : o.isSome = true := by
  obtain ⟨a, rfl, _, _⟩ := h.get 0 v rfl
  rfl
theorem Rd.ix {α : Type} [Inhabited α] {enc : α → List Value} {z : Nat} {bs : List Nat} {w : World} {o : Option Addr} {l : List α} (h : Rd enc z bs w o l) (he : ∀ x, ∃ v r, enc x = v :: r) {i : Int} (h0 : 0 ≤ i) (h1 : i < (l.length : Int)) : Ix o l.length i := by
  obtain ⟨v, r, e⟩ := he (gi l i)
  have := h i h0 h1
  rw [e] at this
  exact ⟨h0, h1, this.some⟩
theorem encE_c (x : Ent) : ∃ v r, encE x = v :: r := ⟨_, _, rfl⟩
theorem encS_c (x : Shf) : ∃ v r, encS x = v :: r := ⟨_, _, rfl⟩
theorem encT_c (x : Tsk) : ∃ v r, encT x = v :: r := ⟨_, _, rfl⟩
theorem encC_c (x : Cpu) : ∃ v r, encC x = v :: r := ⟨_, _, rfl⟩
theorem encO_c (x : QOp) : ∃ v r, encO x = v :: r := ⟨_, _, rfl⟩
theorem encI_c (x : Int) : ∃ v r, encI x = v :: r := ⟨_, _, rfl⟩
theorem encB_c (x : Bool) : ∃ v r, encB x = v :: r := ⟨_, _, rfl⟩
abbrev RdE := Rd encE 4
abbrev RdS := Rd encS 5
abbrev RdT := Rd encT 9
abbrev RdC := Rd encC 5
abbrev RdO := Rd encO 3
abbrev RdI := Rd encI 1
abbrev RdB := Rd encB 1

structure RdG (bs : List Nat) (w : World) (o : Option Addr) (gs : List Grp) (ms : Nat → MG) : Prop where
  cells : ∀ i : Int, 0 ≤ i → i < (gs.length : Int) → CellsX bs w o (Int.toNat i * 14) (encG (gi gs i) (ms i.toNat))
  locals : ∀ i : Int, 0 ≤ i → i < (gs.length : Int) → RdI bs w (ms i.toNat).lO (gi gs i).band.locals
  dry : ∀ i : Int, 0 ≤ i → i < (gs.length : Int) → RdB bs w (ms i.toNat).dO (gi gs i).band.dry
  shelves : ∀ i : Int, 0 ≤ i → i < (gs.length : Int) → RdS bs w (ms i.toNat).sO (gi gs i).shelves
theorem RdG.ext {bs : List Nat} {w w' : World} {o : Option Addr} {gs : List Grp} {ms : Nat → MG} (h : RdG bs w o gs ms) (hx : ExtX bs w w') : RdG bs w' o gs ms :=
  ⟨fun i a b => (h.cells i a b).ext hx, fun i a b => (h.locals i a b).ext hx, fun i a b => (h.dry i a b).ext hx, fun i a b => (h.shelves i a b).ext hx⟩
theorem RdG.less {bs cs : List Nat} {w : World} {o : Option Addr} {gs : List Grp} {ms : Nat → MG} (h : RdG bs w o gs ms) (hs : ∀ x ∈ cs, x ∈ bs) : RdG cs w o gs ms :=
  ⟨fun i a b => (h.cells i a b).less hs, fun i a b => (h.locals i a b).less hs, fun i a b => (h.dry i a b).less hs, fun i a b => (h.shelves i a b).less hs⟩
theorem RdG.wide {bs cs : List Nat} {w : World} {o : Option Addr} {gs : List Grp} {ms : Nat → MG} (h : RdG bs w o gs ms) (hs : ∀ x ∈ cs, x ∈ bs ∨ w.heap.size ≤ x) : RdG cs w o gs ms :=
  ⟨fun i a b => (h.cells i a b).wide hs, fun i a b => (h.locals i a b).wide hs, fun i a b => (h.dry i a b).wide hs, fun i a b => (h.shelves i a b).wide hs⟩
theorem RdG.ix {bs : List Nat} {w : World} {o : Option Addr} {gs : List Grp} {ms : Nat → MG} (h : RdG bs w o gs ms) {i : Int} (h0 : 0 ≤ i) (h1 : i < (gs.length : Int)) : Ix o gs.length i :=
  ⟨h0, h1, (h.cells i h0 h1).some⟩

/-! ### Loops -/
/-- Counting loops: the counter stands at place p of what changes. -/
def ctrAt (p : Nat) (vs : List Value) : Int := match vs[p]? with
  | some (.int _ i) => i
  | _ => 0
def cntI (I : Nat → Prop) (vs : List Value) : Prop := ∃ k : Nat, I k ∧ vs = [.int .i64 (k : Int)]
def cntM (n : Nat) (p : Nat) (vs : List Value) : Nat := ((n : Int) + 1 - ctrAt p vs).toNat
/-- A loop that only counts. -/
theorem loop1 {B : (List Value → Prop) → (List Value → Nat) → Int → Prop} (n : Nat) {si : Int} (s : Nat) (hs : si = s) (I : Nat → Prop) (h0 : I s)
    (hB : ∀ k : Nat, I k → B (cntI I) (cntM n 0) (k : Int)) :
    ∃ (xInv : List Value → Prop) (mu : List Value → Nat), xInv [.int .i64 si] ∧ ∀ i : Int, xInv [.int .i64 i] → B xInv mu i := by
  refine ⟨cntI I, cntM n 0, ⟨s, h0, by rw [hs]⟩, ?_⟩
  rintro i ⟨k, hI, he⟩
  simp only [List.cons.injEq, Value.int.injEq, true_and, and_true] at he
  subst he
  exact hB k hI
theorem loop1_next {n k : Nat} {I : Nat → Prop} (hk : k < n) (hI : I (k + 1)) : cntI I [.int .i64 ((k : Int) + 1)] ∧ cntM n 0 [.int .i64 ((k : Int) + 1)] < cntM n 0 [.int .i64 (k : Int)] := by
  refine ⟨⟨k + 1, hI, by simp⟩, ?_⟩
  simp only [cntM, ctrAt, List.getElem?_cons_zero]
  omega
/-- The same where worlds change. -/
def cntIw (I : Nat → World → Prop) (vs : List Value) (w : World) : Prop := ∃ k : Nat, I k w ∧ vs = [.int .i64 (k : Int)]
def cntMw (n : Nat) (p : Nat) (vs : List Value) (_ : World) : Nat := cntM n p vs
theorem loop1w {B : (List Value → World → Prop) → (List Value → World → Nat) → Int → World → Prop} {bs L : List Nat} {wv : World} (n : Nat) {si : Int} (s : Nat) (hs : si = s) (I : Nat → World → Prop)
    (h0 : ∀ wr, ExtX bs wv wr → (∀ bq ∈ L, bq < wr.heap.size) → I s wr)
    (hB : ∀ (k : Nat) (w1 : World), (∀ bq ∈ L, bq < w1.heap.size) → I k w1 → B (cntIw I) (cntMw n 0) (k : Int) w1) :
    ∃ (xInv : List Value → World → Prop) (mu : List Value → World → Nat), (∀ wr, ExtX bs wv wr → (∀ bq ∈ L, bq < wr.heap.size) → xInv [.int .i64 si] wr) ∧ ∀ (i : Int) (w1 : World), (∀ bq ∈ L, bq < w1.heap.size) → xInv [.int .i64 i] w1 → B xInv mu i w1 := by
  refine ⟨cntIw I, cntMw n 0, fun wr hx hq => ⟨s, h0 wr hx hq, by rw [hs]⟩, ?_⟩
  rintro i w1 hq ⟨k, hI, he⟩
  simp only [List.cons.injEq, Value.int.injEq, true_and, and_true] at he
  subst he
  exact hB k w1 hq hI
theorem loop1w_next {n k : Nat} {I : Nat → World → Prop} {wr w1 : World} (hk : k < n) (hI : I (k + 1) wr) : cntIw I [.int .i64 ((k : Int) + 1)] wr ∧ cntMw n 0 [.int .i64 ((k : Int) + 1)] wr < cntMw n 0 [.int .i64 (k : Int)] w1 := by
  refine ⟨⟨k + 1, hI, by simp⟩, ?_⟩
  simp only [cntMw, cntM, ctrAt, List.getElem?_cons_zero]
  omega
/-- One more integer that changes, ahead of the counter. -/
def cntI2 (I : Int → Nat → Prop) (vs : List Value) : Prop := ∃ (x : Int) (k : Nat), I x k ∧ vs = [.int .i64 x, .int .i64 (k : Int)]
theorem loop2 {B : (List Value → Prop) → (List Value → Nat) → Int → Int → Prop} (n : Nat) {xi si : Int} (s : Nat) (hs : si = s) (I : Int → Nat → Prop) (h0 : I xi s)
    (hB : ∀ (x : Int) (k : Nat), I x k → B (cntI2 I) (cntM n 1) x (k : Int)) :
    ∃ (xInv : List Value → Prop) (mu : List Value → Nat), xInv [.int .i64 xi, .int .i64 si] ∧ ∀ (x i : Int), xInv [.int .i64 x, .int .i64 i] → B xInv mu x i := by
  refine ⟨cntI2 I, cntM n 1, ⟨xi, s, h0, by rw [hs]⟩, ?_⟩
  rintro x i ⟨x', k, hI, he⟩
  simp only [List.cons.injEq, Value.int.injEq, true_and, and_true] at he
  obtain ⟨rfl, rfl⟩ := he
  exact hB x k hI
theorem loop2_next {n k : Nat} {I : Int → Nat → Prop} {x x' : Int} (hk : k < n) (hI : I x' (k + 1)) : cntI2 I [.int .i64 x', .int .i64 ((k : Int) + 1)] ∧ cntM n 1 [.int .i64 x', .int .i64 ((k : Int) + 1)] < cntM n 1 [.int .i64 x, .int .i64 (k : Int)] := by
  refine ⟨⟨x', k + 1, hI, by simp⟩, ?_⟩
  simp only [cntM, ctrAt, List.getElem?_cons_zero, List.getElem?_cons_succ]
  omega
theorem maxLen_le : maxLen ≤ 9223372036854775807 := by simp [maxLen]
theorem inR_nat {k n : Nat} (h : (k : Int) < (n : Int)) (hn : n ≤ maxLen) : InR .i64 ((k : Int) + 1) := by
  have := maxLen_le
  exact ⟨by omega, by omega⟩
end Go.Proofs.YthojnihahmlboaaGreat
