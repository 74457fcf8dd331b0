/- Groups that came in. -/
import Derived.Test.YthojnihahmlboaaGreatOpen
namespace Go.Proofs.YthojnihahmlboaaGreat
open Go.RowKit Go.ChangeShapes
set_option linter.unusedVariables false
set_option linter.unusedSimpArgs false

section
variable {H : Type} {en : TypeId × Value → H} {w : World} {base : Nat} {spare : Nat → Bool} {held : Bool} {fuel : Nat} {cs : List Value} {x : DataW H × List MemPlace}

theorem u_string : Tryz.prog.underlying ty_string = some .string := by kernel_rfl
theorem c_string : Tryz.prog.cellsOf ty_string = 1 := by kernel_rfl
theorem u_sl_lShelf : Tryz.prog.underlying ty_sl_laws_Shelf = some (.slice ty_laws_Shelf) := by kernel_rfl
theorem c_sl_lShelf : Tryz.prog.cellsOf ty_sl_laws_Shelf = 1 := by kernel_rfl
theorem u_lShelf : Tryz.prog.underlying ty_laws_Shelf = some (.struct (structFs Tryz.prog ty_laws_Shelf)) := by kernel_rfl
theorem f_lShelf : (structFs Tryz.prog ty_laws_Shelf).toList.map (fun f => (f.type, f.offset)) = [(ty_int, 0), (ty_bool, 1), (ty_int, 2), (ty_int, 3), (ty_int, 4)] := by kernel_rfl
theorem c_lShelf : Tryz.prog.cellsOf ty_laws_Shelf = 5 := by kernel_rfl
theorem u_lBand : Tryz.prog.underlying ty_laws_Band = some (.struct (structFs Tryz.prog ty_laws_Band)) := by kernel_rfl
theorem f_lBand : (structFs Tryz.prog ty_laws_Band).toList.map (fun f => (f.type, f.offset)) = [(ty_int, 0), (ty_int, 1), (ty_int, 2), (ty_sl_int, 3), (ty_sl_bool, 4)] := by kernel_rfl
theorem c_lBand : Tryz.prog.cellsOf ty_laws_Band = 5 := by kernel_rfl
theorem u_lGroup : Tryz.prog.underlying ty_laws_Group = some (.struct (structFs Tryz.prog ty_laws_Group)) := by kernel_rfl
theorem f_lGroup : (structFs Tryz.prog ty_laws_Group).toList.map (fun f => (f.type, f.offset)) = [(ty_bool, 0), (ty_int, 1), (ty_string, 2), (ty_int, 3), (ty_int, 4), (ty_int, 5), (ty_int, 6), (ty_int, 7), (ty_laws_Band, 8), (ty_sl_laws_Shelf, 13)] := by kernel_rfl
theorem c_lGroup : Tryz.prog.cellsOf ty_laws_Group = 14 := by kernel_rfl
theorem u_sl_lGroup : Tryz.prog.underlying ty_sl_laws_Group = some (.slice ty_laws_Group) := by kernel_rfl

theorem op_ints (h : DataW.trod en Tryz.prog w base spare held fuel ty_sl_int cs = some x) : ∃ (o : Option Addr) (cap : Nat) (l : List Int), cs = [.slice o l.length cap] ∧ l.length ≤ cap ∧ cap ≤ maxLen ∧ RdI [] w o l ∧ ∀ i : Int, 0 ≤ i → i < (l.length : Int) → InR .i64 (gi l i) :=
  rd_of u_sl_int c_int (fun _ _ _ h => by obtain ⟨n, h1, h2⟩ := tr_i u_int h; exact ⟨n, h1, h2⟩) h
theorem op_bools (h : DataW.trod en Tryz.prog w base spare held fuel ty_sl_bool cs = some x) : ∃ (o : Option Addr) (cap : Nat) (l : List Bool), cs = [.slice o l.length cap] ∧ l.length ≤ cap ∧ cap ≤ maxLen ∧ RdB [] w o l := by
  obtain ⟨o, cap, l, h1, h2, h3, h4, _⟩ := rd_of (Q := fun _ => True) u_sl_bool c_bool (fun _ _ _ h => by obtain ⟨n, h1⟩ := tr_b u_bool h; exact ⟨n, h1, trivial⟩) h
  exact ⟨o, cap, l, h1, h2, h3, h4⟩
theorem op_shelf (h : DataW.trod en Tryz.prog w base spare held fuel ty_laws_Shelf cs = some x) : ∃ s : Shf, cs = encS s := by
  obtain ⟨hl, hp⟩ := tr_struct u_lShelf f_lShelf h
  rw [c_lShelf] at hl
  obtain ⟨a, b, c, d, e, rfl⟩ := len5 hl
  · skip
    obtain ⟨_, _, h1⟩ := hp (ty_int, 0) (by simp)
    obtain ⟨_, _, h2⟩ := hp (ty_bool, 1) (by simp)
    obtain ⟨_, _, h3⟩ := hp (ty_int, 2) (by simp)
    obtain ⟨_, _, h4⟩ := hp (ty_int, 3) (by simp)
    obtain ⟨_, _, h5⟩ := hp (ty_int, 4) (by simp)
    obtain ⟨n1, e1, _⟩ := tr_i u_int h1
    obtain ⟨n2, e2⟩ := tr_b u_bool h2
    obtain ⟨n3, e3, _⟩ := tr_i u_int h3
    obtain ⟨n4, e4, _⟩ := tr_i u_int h4
    obtain ⟨n5, e5, _⟩ := tr_i u_int h5
    simp only [c_int, c_bool, List.drop, List.take, List.cons.injEq, and_true] at e1 e2 e3 e4 e5
    subst e1; subst e2; subst e3; subst e4; subst e5
    exact ⟨⟨n1, n2, n3, n4, n5⟩, rfl⟩
theorem op_shelves (h : DataW.trod en Tryz.prog w base spare held fuel ty_sl_laws_Shelf cs = some x) : ∃ (o : Option Addr) (cap : Nat) (l : List Shf), cs = [.slice o l.length cap] ∧ l.length ≤ cap ∧ cap ≤ maxLen ∧ RdS [] w o l := by
  obtain ⟨o, cap, l, h1, h2, h3, h4, _⟩ := rd_of (Q := fun _ => True) u_sl_lShelf c_lShelf (fun _ _ _ h => by obtain ⟨n, h1⟩ := op_shelf h; exact ⟨n, h1, trivial⟩) h
  exact ⟨o, cap, l, h1, h2, h3, h4⟩
/-- What is known of a group that came in, beyond its cells. -/
structure FitG (g : Grp) : Prop where
  nm : g.name.size ≤ maxLen
  nx : InR .i64 g.next
  lo : g.band.locals.length ≤ maxLen
  dr : g.band.dry.length ≤ maxLen
  sh : g.shelves.length ≤ maxLen
theorem op_group (h : DataW.trod en Tryz.prog w base spare held fuel ty_laws_Group cs = some x) :
    ∃ p : Grp × MG, cs = encG p.1 p.2 ∧ FitG p.1 ∧ RdI [] w p.2.lO p.1.band.locals ∧ RdB [] w p.2.dO p.1.band.dry ∧ RdS [] w p.2.sO p.1.shelves := by
  obtain ⟨hl, hp⟩ := tr_struct u_lGroup f_lGroup h
  rw [c_lGroup] at hl
  obtain ⟨a0, a1, a2, a3, a4, a5, a6, a7, a8, a9, a10, a11, a12, a13, rfl⟩ := len14 hl
  · skip
    obtain ⟨_, _, h0⟩ := hp (ty_bool, 0) (by simp)
    obtain ⟨_, _, h1⟩ := hp (ty_int, 1) (by simp)
    obtain ⟨_, _, h2⟩ := hp (ty_string, 2) (by simp)
    obtain ⟨_, _, h3⟩ := hp (ty_int, 3) (by simp)
    obtain ⟨_, _, h4⟩ := hp (ty_int, 4) (by simp)
    obtain ⟨_, _, h5⟩ := hp (ty_int, 5) (by simp)
    obtain ⟨_, _, h6⟩ := hp (ty_int, 6) (by simp)
    obtain ⟨_, _, h7⟩ := hp (ty_int, 7) (by simp)
    obtain ⟨_, _, h8⟩ := hp (ty_laws_Band, 8) (by simp)
    obtain ⟨_, _, h9⟩ := hp (ty_sl_laws_Shelf, 13) (by simp)
    obtain ⟨n0, e0⟩ := tr_b u_bool h0
    obtain ⟨n1, e1, _⟩ := tr_i u_int h1
    obtain ⟨n2, e2, b2⟩ := tr_s u_string h2
    obtain ⟨n3, e3, _⟩ := tr_i u_int h3
    obtain ⟨n4, e4, _⟩ := tr_i u_int h4
    obtain ⟨n5, e5, _⟩ := tr_i u_int h5
    obtain ⟨n6, e6, b6⟩ := tr_i u_int h6
    obtain ⟨n7, e7, _⟩ := tr_i u_int h7
    obtain ⟨_, hb⟩ := tr_struct u_lBand f_lBand h8
    obtain ⟨_, _, k0⟩ := hb (ty_int, 0) (by simp)
    obtain ⟨_, _, k1⟩ := hb (ty_int, 1) (by simp)
    obtain ⟨_, _, k2⟩ := hb (ty_int, 2) (by simp)
    obtain ⟨_, _, k3⟩ := hb (ty_sl_int, 3) (by simp)
    obtain ⟨_, _, k4⟩ := hb (ty_sl_bool, 4) (by simp)
    obtain ⟨m0, f0, _⟩ := tr_i u_int k0
    obtain ⟨m1, f1, _⟩ := tr_i u_int k1
    obtain ⟨m2, f2, _⟩ := tr_i u_int k2
    obtain ⟨o3, c3, l3, f3, b3a, b3b, r3, _⟩ := op_ints k3
    obtain ⟨o4, c4, l4, f4, b4a, b4b, r4⟩ := op_bools k4
    obtain ⟨o5, c5, l5, f5, b5a, b5b, r5⟩ := op_shelves h9
    simp only [c_int, c_bool, c_string, c_sl_lShelf, c_lBand, c_sl_int, c_sl_bool, List.drop, List.take, List.cons.injEq, and_true] at e0 e1 e2 e3 e4 e5 e6 e7 f0 f1 f2 f3 f4 f5
    subst e0; subst e1; subst e2; subst e3; subst e4; subst e5; subst e6; subst e7; subst f0; subst f1; subst f2; subst f3; subst f4; subst f5
    exact ⟨(⟨n0, n1, n2, n3, n4, n5, n6, n7, ⟨m0, m1, m2, l3, l4⟩, l5⟩, ⟨o3, c3, o4, c4, o5, c5⟩), rfl, ⟨b2, b6, by show l3.length ≤ _; omega, by show l4.length ≤ _; omega, by show l5.length ≤ _; omega⟩, r3, r4, r5⟩
theorem op_groups (h : DataW.trod en Tryz.prog w base spare held fuel ty_sl_laws_Group cs = some x) :
    ∃ (o : Option Addr) (cap : Nat) (gs : List Grp) (ms : Nat → MG), cs = [.slice o gs.length cap] ∧ gs.length ≤ cap ∧ cap ≤ maxLen ∧ RdG [] w o gs ms ∧ ∀ i : Int, 0 ≤ i → i < (gs.length : Int) → FitG (gi gs i) := by
  obtain ⟨o, cap, l, h1, h2, h3, h4, h5⟩ := rd_of (enc := fun p : Grp × MG => encG p.1 p.2) u_sl_lGroup c_lGroup (fun _ _ _ h => op_group h) h
  have e : ∀ i : Int, 0 ≤ i → i < (l.length : Int) → gi (l.map (·.1)) i = (gi l i).1 := fun i h0 hi => by
    obtain ⟨k, rfl⟩ := Int.eq_ofNat_of_zero_le h0
    rw [gi_lt (by simp; omega), gi_lt (by omega)]; simp
  refine ⟨o, cap, l.map (·.1), fun k => (gi l (k : Int)).2, by simpa using h1, by simpa using h2, h3, ⟨fun i h0 hi => ?_, fun i h0 hi => ?_, fun i h0 hi => ?_, fun i h0 hi => ?_⟩, fun i h0 hi => ?_⟩
  all_goals
    rw [List.length_map] at hi
    rw [e i h0 hi]
    have ek : ((i.toNat : Nat) : Int) = i := by omega
    try rw [ek]
  · exact h4 i h0 hi
  · exact (h5 i h0 hi).2.1
  · exact (h5 i h0 hi).2.2.1
  · exact (h5 i h0 hi).2.2.2
  · exact (h5 i h0 hi).1
end
end Go.Proofs.YthojnihahmlboaaGreat
