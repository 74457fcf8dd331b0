/- Worlds, blocks, cells: what every contract leans on. -/
import Derived.Test.YthojnihahmlboaaGreatEng15
namespace Go.Proofs.YthojnihahmlboaaGreat
open Go.RowKit
set_option linter.unusedVariables false
set_option linter.unusedSimpArgs false

theorem cell_blk {w : World} {b : Nat} {cs : Array Value} {t : TypeId} {fz : Nat × Nat} (h : w.heap[b]? = some (.cells cs t fz)) (k : Nat) : w.cell? ⟨b, k, none⟩ = cs[k]? := by
  simp [World.cell?, h]
theorem blk_lt {w : World} {b : Nat} {o : Obj} (h : w.heap[b]? = some o) : b < w.heap.size := by
  rcases Nat.lt_or_ge b w.heap.size with hl | hl
  · exact hl
  · rw [Array.getElem?_eq_none_iff.2 hl] at h; cases h
theorem cellX_blk {bs : List Nat} {w : World} {b k0 : Nat} {cs : List Value} {t : TypeId} {fz : Nat × Nat} (h : w.heap[b]? = some (.cells cs.toArray t fz)) (hb : b ∉ bs) {k : Nat} {v : Value} (hk : cs[k0 + k]? = some v) : CellX bs w (some ⟨b, k0, none⟩) k v :=
  ⟨⟨b, k0, none⟩, rfl, hb, by rw [Addr.add_lit, cell_blk h]; simpa using hk⟩
theorem cellX_of {bs : List Nat} {w : World} {a : Addr} (hb : a.block ∉ bs) {k : Nat} {v : Value} (hk : w.cell? (a.add k) = some v) : CellX bs w (some a) k v := ⟨a, rfl, hb, hk⟩
theorem cellsX_one {bs : List Nat} {w : World} {o : Option Addr} {n : Nat} {v : Value} (h : CellX bs w o n v) : CellsX bs w o n [v] := h
theorem cellsX_cons {bs : List Nat} {w : World} {o : Option Addr} {n : Nat} {v u : Value} {r : List Value} (h : CellX bs w o n v) (k : CellsX bs w o (n + 1) (u :: r)) : CellsX bs w o n (v :: u :: r) := ⟨h, k⟩
theorem cellsX_mk {bs : List Nat} {w : World} {o : Option Addr} : ∀ {n : Nat} {vs : List Value}, (∀ j v, vs[j]? = some v → CellX bs w o (n + j) v) → CellsX bs w o n vs
  | _, [], _ => trivial
  | n, [v], h => h 0 v rfl
  | n, v :: u :: r, h => ⟨h 0 v rfl, cellsX_mk (vs := u :: r) fun j x hj => by
      have := h (j + 1) x (by simpa using hj)
      rw [show n + 1 + j = n + (j + 1) by omega]; exact this⟩
theorem cellsX_blk {bs : List Nat} {w : World} {b k0 : Nat} {cs : List Value} {t : TypeId} {fz : Nat × Nat} (h : w.heap[b]? = some (.cells cs.toArray t fz)) (hb : b ∉ bs) {n : Nat} {vs : List Value} (hk : ∀ j v, vs[j]? = some v → cs[k0 + (n + j)]? = some v) : CellsX bs w (some ⟨b, k0, none⟩) n vs :=
  cellsX_mk fun j v hj => cellX_blk h hb (hk j v hj)
theorem CellsX.ext {bs : List Nat} {w w' : World} {o : Option Addr} {n : Nat} {vs : List Value} (h : CellsX bs w o n vs) (hx : ExtX bs w w') : CellsX bs w' o n vs :=
  cellsX_mk fun j v hj => (h.get j v hj).ext hx
theorem CellsX.less {bs cs : List Nat} {w : World} {o : Option Addr} {n : Nat} {vs : List Value} (h : CellsX bs w o n vs) (hs : ∀ x ∈ cs, x ∈ bs) : CellsX cs w o n vs :=
  cellsX_mk fun j v hj => (h.get j v hj).less hs
theorem blk_ext {bs : List Nat} {w w' : World} {b : Nat} {o : Obj} (h : w.heap[b]? = some o) (hx : ExtX bs w w') (hb : b ∉ bs) : w'.heap[b]? = some o := by
  rw [hx.block b (blk_lt h) hb]; exact h
theorem sto_blk {w : World} {b k n : Nat} {cs vs : List Value} {t : TypeId} {fz : Nat × Nat} (h : w.heap[b]? = some (.cells cs.toArray t fz)) : (sto w (some ⟨b, k, none⟩) n vs).heap[b]? = some (.cells (setL cs (k + n) vs).toArray t fz) := stoL_cells vs w b k n cs t fz h
theorem stoL_ext (bs : List Nat) (a : Addr) : ∀ (vs : List Value) (w : World) (n : Nat), a.block ∈ bs → ExtX bs w (stoL w a n vs)
  | [], w, n, _ => ExtX.refl _ _
  | v :: r, w, n, h => ((ExtX.refl bs w).setCell (p := a.add n) (.inr (by rw [add_block]; exact h)) v).trans (stoL_ext bs a r _ _ h)
theorem sto_ext {bs : List Nat} {w : World} {o : Option Addr} {n : Nat} {vs : List Value} (h : ∀ a, o = some a → a.block ∈ bs) : ExtX bs w (sto w o n vs) := by
  cases o with
  | none => exact ExtX.refl _ _
  | some a => exact stoL_ext bs a vs w n (h a rfl)
theorem wrX_blk {bs : List Nat} {w : World} {b k0 n k : Nat} {cs : List Value} {t : TypeId} (h : w.heap[b]? = some (.cells cs.toArray t (0, 0))) (hb : b ∉ bs) (hk : k0 + (n + k) ≤ cs.length) : WrX bs w (some ⟨b, k0, none⟩) n k :=
  ⟨⟨b, k0, none⟩, rfl, hb, fun j h1 h2 => by
    rw [Addr.add_lit, cell_blk h]
    refine ⟨⟨cs[k0 + j]'(by omega), by simp⟩, ?_⟩
    simp [World.frozen?, h]⟩
/-- New blocks are no old ones. -/
theorem ExtX.fresh {bs cs : List Nat} {w0 w w' : World} (h : ExtX bs w0 w) (k : ExtX cs w w') (hc : ∀ x ∈ cs, w0.heap.size ≤ x ∨ x ∈ bs) : ExtX bs w0 w' :=
  ⟨k.os.trans h.os, k.tape.trans h.tape, k.output.trans h.output, Nat.le_trans h.size k.size, fun i hi hb => (k.block i (Nat.lt_of_lt_of_le hi h.size) (fun hx => by
    rcases hc i hx with h1 | h1
    · omega
    · exact hb h1)).trans (h.block i hi hb)⟩
theorem pureX_of {bs : List Nat} {P : Program} {f : FuncId} {args : Array Value} {w : World} {v : Value} (h : ∀ wr, ExtX bs w wr → Calls P f args wr fun e w' => ∃ v0, e = .returned v0 ∧ (v0 = v ∧ ExtX [] wr w')) : PureX bs P f args w v :=
  fun wr hx => (h wr hx).mono fun e w' ⟨v0, he, hv, hx'⟩ => ⟨by rw [he, hv], hx'⟩

theorem map_add (o : Option Addr) (n k : Nat) : (o.map (·.add n)).map (·.add k) = o.map (·.add (n + k)) := by
  cases o with
  | none => rfl
  | some a => simp [add_add']
theorem cellX_add {bs : List Nat} {w : World} {o : Option Addr} {n k : Nat} {v : Value} : CellX bs w (o.map (·.add n)) k v ↔ CellX bs w o (n + k) v := by
  constructor
  · rintro ⟨a, ha, hb, hc⟩
    cases o with
    | none => cases ha
    | some p =>
      simp only [Option.map_some, Option.some.injEq] at ha
      subst ha
      exact ⟨p, rfl, by rwa [add_block] at hb, by rwa [add_add'] at hc⟩
  · rintro ⟨a, rfl, hb, hc⟩
    exact ⟨a.add n, rfl, by rwa [add_block], by rwa [add_add']⟩
theorem cellsX_add {bs : List Nat} {w : World} {o : Option Addr} : ∀ {n k : Nat} {vs : List Value}, CellsX bs w (o.map (·.add n)) k vs ↔ CellsX bs w o (n + k) vs
  | _, _, [] => Iff.rfl
  | _, _, [_] => cellX_add
  | n, k, _ :: _ :: _ => and_congr cellX_add (cellsX_add (n := n) (k := k + 1))
theorem sto_add {w : World} {o : Option Addr} {n k : Nat} {vs : List Value} : sto w (o.map (·.add n)) k vs = sto w o (n + k) vs := by
  cases o with
  | none => rfl
  | some a =>
    simp only [Option.map_some, sto]
    induction vs generalizing w k with
    | nil => rfl
    | cons v r ih =>
      simp only [stoL]
      rw [add_add', ih]
      rfl
theorem wrX_add {bs : List Nat} {w : World} {o : Option Addr} {n k m : Nat} : WrX bs w (o.map (·.add n)) k m ↔ WrX bs w o (n + k) m := by
  cases o with
  | none =>
    constructor <;> (rintro ⟨a, ha, _⟩; cases ha)
  | some p =>
    constructor
    · rintro ⟨a, ha, hb, hc⟩
      simp only [Option.map_some, Option.some.injEq] at ha
      subst ha
      refine ⟨p, rfl, by rwa [add_block] at hb, fun j h1 h2 => ?_⟩
      have := hc (j - n) (by omega) (by omega)
      rwa [add_add', show n + (j - n) = j by omega] at this
    · rintro ⟨a, ha, hb, hc⟩
      cases ha
      refine ⟨p.add n, rfl, by rwa [add_block], fun j h1 h2 => ?_⟩
      rw [add_add']
      exact hc (n + j) (by omega) (by omega)
end Go.Proofs.YthojnihahmlboaaGreat
