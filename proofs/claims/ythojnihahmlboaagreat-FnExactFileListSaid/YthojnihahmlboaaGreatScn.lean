/- A law's walk: what is kept in view while memory grows and blocks of its own come and go. -/
import Derived.Test.YthojnihahmlboaaGreatOwn
namespace Go.Proofs.YthojnihahmlboaaGreat
open Go.RowKit
set_option linter.unusedVariables false
set_option linter.unusedSimpArgs false

theorem le_mem1 {x bt n : Nat} (hm : x ∈ [bt]) (h : n ≤ bt) : n ≤ x := by
  have : x = bt := by simpa using hm
  omega
/-- w grew out of w0; the blocks bs are newer than w0. -/
structure Sc (w0 : World) (bs : List Nat) (w : World) : Prop where
  ext : ExtX [] w0 w
  new : ∀ x ∈ bs, w0.heap.size ≤ x
theorem Sc.start (w : World) : Sc w [] w := ⟨ExtX.refl _ _, by simp⟩
theorem Sc.step {w0 : World} {bs : List Nat} {w w' : World} (h : Sc w0 bs w) (hx : ExtX bs w w') : Sc w0 bs w' := ⟨h.ext.fresh hx fun x hm => .inl (h.new x hm), h.new⟩
theorem Sc.call {w0 : World} {bs cs : List Nat} {w w' : World} (h : Sc w0 bs w) (hx : ExtX cs w w') (hc : ∀ x ∈ cs, w0.heap.size ≤ x) : Sc w0 bs w' := ⟨h.ext.fresh hx fun x hm => .inl (hc x hm), h.new⟩
theorem Sc.call0 {w0 : World} {bs : List Nat} {w w' : World} (h : Sc w0 bs w) (hx : ExtX [] w w') : Sc w0 bs w' := ⟨h.ext.trans hx, h.new⟩
theorem Sc.add {w0 : World} {bs : List Nat} {w : World} {b : Nat} (h : Sc w0 bs w) (hb : w.heap.size ≤ b) : Sc w0 (bs ++ [b]) w := ⟨h.ext, fun x hm => by
  rcases List.mem_append.1 hm with hm | hm
  · exact h.new x hm
  · have : x = b := by simpa using hm
    have := h.ext.size
    omega⟩
theorem Sc.sub {w0 : World} {bs cs : List Nat} {w : World} (h : Sc w0 bs w) (hs : ∀ x ∈ cs, x ∈ bs) : Sc w0 cs w := ⟨h.ext, fun x hm => h.new x (hs x hm)⟩
theorem Sc.put {w0 : World} {bs : List Nat} {w w' : World} {b : Nat} (h : Sc w0 bs w) (hx : ExtX bs w w') (hb : w.heap.size ≤ b) : Sc w0 (bs ++ [b]) w' := ⟨(h.step hx).ext, (h.add hb).new⟩

theorem Sc.put2 {w0 : World} {bs : List Nat} {w w' : World} {b b2 : Nat} (h : Sc w0 bs w) (hx : ExtX bs w w') (hb : w.heap.size ≤ b) (hb2 : w.heap.size ≤ b2) : Sc w0 (bs ++ [b] ++ [b2]) w' := ⟨(h.step hx).ext, ((h.add hb).add hb2).new⟩

/-- An object of the walk's own: none of its memory is among the blocks bs. -/
structure Ob {α : Type} (enc : α → List Value) (z : Nat) (ty : TypeId) (base : Nat) (bs : List Nat) (w : World) (o : Option Addr) (cap : Nat) (l : List α) : Prop where
  own : Own enc z ty base w o cap l
  nb : ∀ x ∈ blkOf o, x ∉ bs
section
variable {α : Type} {enc : α → List Value} {z : Nat} {ty : TypeId} {base : Nat} {bs cs : List Nat} {w w' : World} {o : Option Addr} {cap : Nat} {l : List α} {b : Nat}
theorem Ob.of (h : Own enc z ty base w o cap l) (hs : ∀ x ∈ bs, x < base) : Ob enc z ty base bs w o cap l := ⟨h, fun x hx hm => by
  have := (h.lt x hx).1
  have := hs x hm
  omega⟩
theorem Ob.step (h : Ob enc z ty base bs w o cap l) (hx : ExtX bs w w') : Ob enc z ty base bs w' o cap l := ⟨h.own.ext hx h.nb, h.nb⟩
theorem Ob.call0 (h : Ob enc z ty base bs w o cap l) (hx : ExtX [] w w') : Ob enc z ty base bs w' o cap l := ⟨h.own.ext0 hx, h.nb⟩
theorem Ob.call (h : Ob enc z ty base bs w o cap l) (hx : ExtX cs w w') (hd : ∀ x ∈ blkOf o, x ∉ cs) : Ob enc z ty base bs w' o cap l := ⟨h.own.ext hx hd, h.nb⟩
theorem Ob.add (h : Ob enc z ty base bs w o cap l) (hb : w.heap.size ≤ b) : Ob enc z ty base (bs ++ [b]) w o cap l := ⟨h.own, fun x hx hm => by
  rcases List.mem_append.1 hm with hm | hm
  · exact h.nb x hx hm
  · have : x = b := by simpa using hm
    have := (h.own.lt x hx).2
    omega⟩
/-- A block that was laid earlier, and the world since. -/
theorem Ob.put (h : Ob enc z ty base bs w o cap l) (hx : ExtX bs w w') (hb : w.heap.size ≤ b) : Ob enc z ty base (bs ++ [b]) w' o cap l := ⟨(h.step hx).own, (h.add hb).nb⟩
theorem Ob.put2 {b2 : Nat} (h : Ob enc z ty base bs w o cap l) (hx : ExtX bs w w') (hb : w.heap.size ≤ b) (hb2 : w.heap.size ≤ b2) : Ob enc z ty base (bs ++ [b] ++ [b2]) w' o cap l := ⟨(h.step hx).own, ((h.add hb).add hb2).nb⟩
theorem Ob.sub (h : Ob enc z ty base bs w o cap l) (hs : ∀ x ∈ cs, x ∈ bs) : Ob enc z ty base cs w o cap l := ⟨h.own, fun x hx hm => h.nb x hx (hs x hm)⟩
theorem Ob.mono {base' : Nat} (h : Ob enc z ty base bs w o cap l) (hb : base' ≤ base) : Ob enc z ty base' bs w o cap l := ⟨h.own.mono hb, h.nb⟩
theorem Ob.rd [Inhabited α] (h : Ob enc z ty base bs w o cap l) (hz : ∀ x, (enc x).length = z) : Rd enc z bs w o l := h.own.rd hz h.nb
theorem Ob.rd0 [Inhabited α] (h : Ob enc z ty base bs w o cap l) (hz : ∀ x, (enc x).length = z) : Rd enc z [] w o l := h.own.rd hz (by simp)
end
/-- Old memory is still there. -/
theorem Rd.sc {α : Type} [Inhabited α] {enc : α → List Value} {z : Nat} {w0 : World} {bs : List Nat} {w : World} {o : Option Addr} {l : List α} (h : Rd enc z [] w0 o l) (hs : Sc w0 bs w) : Rd enc z [] w o l := h.ext hs.ext
theorem Rd.scb {α : Type} [Inhabited α] {enc : α → List Value} {z : Nat} {w0 : World} {bs : List Nat} {w : World} {o : Option Addr} {l : List α} (h : Rd enc z [] w0 o l) (hs : Sc w0 bs w) : Rd enc z bs w o l := (h.wide (cs := bs) fun x hm => .inr (hs.new x hm)).ext hs.ext.of_nil
theorem kept_sep {bs cs : List Nat} {w w' : World} (hx : ExtX cs w w') (hs : ∀ b ∈ bs, b < w.heap.size) (hd : ∀ x ∈ cs, x ∉ bs) : Kept bs w w' := fun x hm => hx.block x (hs x hm) fun hm' => hd x hm' hm
theorem sep_of {α β : Type} {enc : α → List Value} {enc' : β → List Value} {z z' : Nat} {ty ty' : TypeId} {base base' : Nat} {w w' : World} {o o' : Option Addr} {cap cap' : Nat} {l : List α} {l' : List β} (h : Own enc z ty base w o cap l) (h' : Own enc' z' ty' base' w' o' cap' l') (hb : w.heap.size ≤ base') : (∀ x ∈ blkOf o, x ∉ blkOf o') ∧ ∀ x ∈ blkOf o', x ∉ blkOf o :=
  ⟨fun x hx hm => by have := (h.lt x hx).2; have := (h'.lt x hm).1; omega, fun x hx hm => by have := (h.lt x hm).2; have := (h'.lt x hx).1; omega⟩
end Go.Proofs.YthojnihahmlboaaGreat
