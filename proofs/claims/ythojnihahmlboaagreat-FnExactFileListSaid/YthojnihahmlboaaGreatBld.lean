/- Text builders: the shelf's contracts at this program, in the engine's words. No claim is proved here. -/
import Derived.Test.YthojnihahmlboaaGreatWldC
import Derived.Shelf.Strings.BuilderK
namespace Go.Proofs.YthojnihahmlboaaGreat
open Go.RowKit Go.Shelf
set_option linter.unusedVariables false
set_option linter.unusedSimpArgs false
set_option maxRecDepth 100000
def bldRen : Ren := ⟨fun | 166 => 63 | 169 => 65 | 240 => 112 | 276 => 168 | n => n,
  fun | 20 => 20 | 37 => 84 | 70 => 83 | 72 => 86 | 75 => 88 | 80 => 93 | 127 => 132 | 164 => 169 | n => n, fun n => n⟩
theorem lays166 : Lays.n166 Tryz.prog bldRen := {
  mixed := by kernel_rfl,
  f166 := by kernel_rfl,
  f240 := by kernel_rfl,
  f276 := by kernel_rfl,
  t0 := by kernel_rfl,
  a0 := fun w => by kernel_rfl,
  z0 := fun w => by kernel_rfl,
  v0 := fun w => by kernel_rfl,
  t3 := by kernel_rfl,
  a3 := fun w => by kernel_rfl,
  z3 := fun w => by kernel_rfl,
  v3 := fun w => by kernel_rfl,
  t4 := by kernel_rfl,
  a4 := fun w => by kernel_rfl,
  z4 := fun w => by kernel_rfl,
  v4 := fun w => by kernel_rfl,
  t9 := by kernel_rfl,
  a9 := fun w => by kernel_rfl,
  z9 := fun w => by kernel_rfl,
  v9 := fun w => by kernel_rfl,
  t20 := by kernel_rfl,
  a20 := fun w => by kernel_rfl,
  z20 := fun w => by kernel_rfl,
  v20 := fun w => by kernel_rfl,
  t37 := by kernel_rfl,
  a37 := fun w => by kernel_rfl,
  z37 := fun w => by kernel_rfl,
  v37 := fun w => by kernel_rfl,
  t70 := by kernel_rfl,
  a70 := fun w => by kernel_rfl,
  z70 := fun w => by kernel_rfl,
  v70 := fun w => by kernel_rfl,
  t72 := by kernel_rfl,
  a72 := fun w => by kernel_rfl,
  z72 := fun w => by kernel_rfl,
  v72 := fun w => by kernel_rfl,
  t75 := by kernel_rfl,
  a75 := fun w => by kernel_rfl,
  z75 := fun w => by kernel_rfl,
  v75 := fun w => by kernel_rfl,
  t164 := by kernel_rfl,
  a164 := fun w => by kernel_rfl,
  z164 := fun w => by kernel_rfl,
  v164 := fun w => by kernel_rfl }
theorem lays169 : Lays.n169 Tryz.prog bldRen := {
  mixed := by kernel_rfl,
  f169 := by kernel_rfl,
  t0 := by kernel_rfl,
  a0 := fun w => by kernel_rfl,
  z0 := fun w => by kernel_rfl,
  v0 := fun w => by kernel_rfl,
  t3 := by kernel_rfl,
  a3 := fun w => by kernel_rfl,
  z3 := fun w => by kernel_rfl,
  v3 := fun w => by kernel_rfl,
  t9 := by kernel_rfl,
  a9 := fun w => by kernel_rfl,
  z9 := fun w => by kernel_rfl,
  v9 := fun w => by kernel_rfl,
  t37 := by kernel_rfl,
  a37 := fun w => by kernel_rfl,
  z37 := fun w => by kernel_rfl,
  v37 := fun w => by kernel_rfl,
  t70 := by kernel_rfl,
  a70 := fun w => by kernel_rfl,
  z70 := fun w => by kernel_rfl,
  v70 := fun w => by kernel_rfl,
  t72 := by kernel_rfl,
  a72 := fun w => by kernel_rfl,
  z72 := fun w => by kernel_rfl,
  v72 := fun w => by kernel_rfl,
  t127 := by kernel_rfl,
  a127 := fun w => by kernel_rfl,
  z127 := fun w => by kernel_rfl,
  v127 := fun w => by kernel_rfl }
theorem bldX : Builder.Extra Tryz.prog bldRen := { sizeBuilder := by kernel_rfl, liesBuilder := by kernel_rfl, t5 := by kernel_rfl, a5 := fun w => by kernel_rfl, z5 := fun w => by kernel_rfl, v5 := fun w => by kernel_rfl, infoByte := by kernel_rfl, cellsByte := by kernel_rfl, sizeByte := by kernel_rfl, neB5 := by decide }
/-- A builder in block b that holds s; its row lies at or beyond 'B'. -/
def BldAt (B b : Nat) (s : ByteArray) (w : World) : Prop := Lib.IsBuilderF ty_strings_Builder ty_uint8 B b (Lib.strCells s) w
/-- What a builder's methods leave alone. -/
def Bk (B b : Nat) (w w' : World) : Prop := Below B w w' ∧ Lib.OthersKept ty_uint8 (some b) w w'
theorem Bk.refl (B b : Nat) (w : World) : Bk B b w w := ⟨Below.refl B w, Lib.OthersKept.refl _ _ _⟩
theorem Bk.trans {B b : Nat} {a c d : World} (h : Bk B b a c) (k : Bk B b c d) : Bk B b a d := ⟨h.1.trans k.1, h.2.trans k.2⟩
theorem Bk.ext {B b : Nat} {w0 w w' : World} (h : Bk B b w w') (h0 : ExtX [] w0 w) (hB : w0.heap.size ≤ B) : ExtX [] w0 w' := by
  obtain ⟨⟨h1, h2, h3, h4, h5⟩, _⟩ := h
  exact ⟨h1.trans h0.os, h2.trans h0.tape, h3.trans h0.output, Nat.le_trans h0.size h4, fun k hk _ => (h5 k (Nat.lt_of_lt_of_le hk hB)).trans (h0.block k hk (by simp))⟩
theorem str_app (a b : ByteArray) : Lib.strCells (a ++ b) = Lib.strCells a ++ Lib.strCells b := by
  rw [Lib.strCells_eq, Lib.strCells_eq, Lib.strCells_eq, ← Lib.byteCells_append]
  congr 1
theorem bld_new {w : World} {b B : Nat} (h : w.heap[b]? = some (Obj.cells ([.pointer none, .slice none 0 0] : List Value).toArray ty_strings_Builder (0, 0))) (hB : B ≤ b) : BldAt B b ⟨[].toArray⟩ w :=
  .inl ⟨hB, _, h, World.ownsRowF_nil w B ty_uint8 1, by simp [Value.ownBlock]⟩
theorem BldAt.ext {B b : Nat} {s : ByteArray} {w w' : World} (h : BldAt B b s w) (hx : ExtX [] w w') : BldAt B b s w' := by
  rcases h with ⟨hB, v, hb, hown, hne⟩ | ⟨hB, v, hb, hown, hne⟩
  · refine .inl ⟨hB, v, blk_ext hb hx (by simp), ?_, hne⟩
    obtain ⟨h1, h2⟩ := hown
    refine ⟨h1, h2.imp id ?_⟩
    rintro ⟨g, cap, cur, fz, hv, h3, h4, h5⟩
    exact ⟨g, cap, cur, fz, hv, h3, blk_ext h4 hx (by simp), h5⟩
  · refine .inr ⟨hB, v, blk_ext hb hx (by simp), ?_, hne⟩
    obtain ⟨h1, h2⟩ := hown
    refine ⟨h1, h2.imp id ?_⟩
    rintro ⟨g, cap, cur, fz, hv, h3, h4, h5⟩
    exact ⟨g, cap, cur, fz, hv, h3, blk_ext h4 hx (by simp), h5⟩
theorem k_WriteString {B b : Nat} {s t : ByteArray} {w : World} (h : BldAt B b s w) (hl : s.size + t.size ≤ 1000000) (hB : B ≤ w.heap.size) :
    Calls Tryz.prog fn_strings_Builder_WriteString #[.pointer (some ⟨b, 0, none⟩), .string t] w fun e w' => e = .returned (.tuple #[.int .i64 t.size, .nilIface]) ∧ BldAt B b (s ++ t) w' ∧ Bk B b w w' :=
  (Any.Builder_WriteString_k lays166 bldX B b (Lib.strCells s) t w h (by rw [Lib.strCells_length]; omega) hB).mono fun e w' ⟨he, h1, h2, h3⟩ => ⟨he, .inr (by rw [str_app]; exact h1), h2, h3⟩
theorem k_String {B b : Nat} {s : ByteArray} {w : World} (h : BldAt B b s w) (hB : B ≤ w.heap.size) :
    Calls Tryz.prog fn_strings_Builder_String #[.pointer (some ⟨b, 0, none⟩)] w fun e w' => e = .returned (.string s) ∧ Bk B b w w' :=
  (Any.Builder_String_any_k lays169 bldX B b s.data.toList w (by rw [← Lib.strCells_eq]; exact h) hB).mono fun e w' ⟨he, _, h2, h3⟩ => ⟨by rw [he], h2, h3⟩
end Go.Proofs.YthojnihahmlboaaGreat
