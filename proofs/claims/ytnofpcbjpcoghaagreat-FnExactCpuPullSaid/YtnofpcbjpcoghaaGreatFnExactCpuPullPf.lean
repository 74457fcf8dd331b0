/- Part 6 of what the law FnExactCpuPull needs: the engine, the functions' propositions, the contracts. -/
import Derived.Test.YtnofpcbjpcoghaaGreatFnExactCpuPullPe
import Derived.ChangeArms
namespace Go.Proofs.YtnofpcbjpcoghaaGreat
open Go.RowKit Go.ChangeShapes
set_option linter.unusedVariables false
set_option linter.unusedSimpArgs false
section
variable {H : Type} {en : TypeId × Value → H} {P : Program} {w : World} {base : Nat} {spare : Nat → Bool} {held : Bool} {fuel : Nat} {t : TypeId} {cs : List Value} {x : DataW H × List MemPlace}
def structFs (P : Program) (t : TypeId) : Array Field := match P.underlying t with
  | some (.struct fs) => fs
  | _ => #[]
theorem tr_struct {l : List (TypeId × Nat)} (hu : P.underlying t = some (.struct (structFs P t))) (hl : (structFs P t).toList.map (fun f => (f.type, f.offset)) = l)
    (h : DataW.trod en P w base spare held fuel t cs = some x) : cs.length = P.cellsOf t ∧ ∀ p ∈ l, ∃ n y, DataW.trod en P w base spare held n p.1 ((cs.drop p.2).take (P.cellsOf p.1)) = some y := by
  obtain ⟨xs, n, _, _, hlen, hxs, hf⟩ := DataW.trod_struct hu h
  refine ⟨hlen, fun p hp => ?_⟩
  rw [← hl] at hp
  obtain ⟨f, hfm, rfl⟩ := List.mem_map.1 hp
  obtain ⟨i, hi⟩ := List.getElem?_of_mem hfm
  have hi' : (structFs P t)[i]? = some f := by simpa using hi
  have hlt : i < xs.length := by
    have := (Array.getElem?_eq_some_iff.1 hi').1
    omega
  refine ⟨n, xs[i], ?_⟩
  have := hf i f hi'
  rw [List.getElem?_eq_getElem hlt] at this
  exact this
theorem tr_slice {e : TypeId} (hu : P.underlying t = some (.slice e)) (h : DataW.trod en P w base spare held fuel t cs = some x) :
    ∃ (o : Option Addr) (len cap : Nat), cs = [.slice o len cap] ∧ len ≤ cap ∧ cap ≤ maxLen ∧ ∀ i, i < len → ∃ a n y ec, o = some a ∧ w.cells? base (a.add (i * P.cellsOf e)) (P.cellsOf e) = some ec ∧ DataW.trod en P w base spare held n e ec = some y := by
  rcases DataW.trod_slice hu h with ⟨rfl, _⟩ | ⟨a, len, cap, elems, rest, n, _, rfl, _, _, hl, hm, hlen, hel, _, _⟩
  · exact ⟨none, 0, 0, rfl, Nat.le_refl _, Nat.zero_le _, fun i hi => absurd hi (Nat.not_lt_zero i)⟩
  · refine ⟨some a, len, cap, rfl, hl, hm, fun i hi => ?_⟩
    have h1 := hel i hi
    rw [List.getElem?_eq_getElem (by omega), Option.bind_eq_some_iff] at h1
    obtain ⟨ec, h2, h3⟩ := h1
    exact ⟨a, n, _, ec, rfl, h2, h3⟩
theorem list_of {α : Type} [Inhabited α] {R : Nat → α → Prop} : ∀ (n : Nat), (∀ i, i < n → ∃ a, R i a) → ∃ l : List α, l.length = n ∧ ∀ i, i < n → R i (l.getD i default)
  | 0, _ => ⟨[], rfl, fun i hi => absurd hi (Nat.not_lt_zero i)⟩
  | n + 1, h => by
    obtain ⟨l, hl, hr⟩ := list_of n fun i hi => h i (by omega)
    obtain ⟨a, ha⟩ := h n (by omega)
    refine ⟨l ++ [a], by simp [hl], fun i hi => ?_⟩
    by_cases hin : i < n
    · have := hr i hin
      rw [List.getD_eq_getElem?_getD] at this ⊢
      rwa [List.getElem?_append_left (by omega)]
    · have : i = n := by omega
      subst this
      rw [List.getD_eq_getElem?_getD, List.getElem?_append_right (by omega), hl]
      simpa using ha
theorem rd_of {α : Type} [Inhabited α] {enc : α → List Value} {Q : α → Prop} {z : Nat} {e : TypeId} (hu : P.underlying t = some (.slice e)) (hz : P.cellsOf e = z)
    (each : ∀ ec n y, DataW.trod en P w base spare held n e ec = some y → ∃ a : α, ec = enc a ∧ Q a) (h : DataW.trod en P w base spare held fuel t cs = some x) :
    ∃ (o : Option Addr) (cap : Nat) (l : List α), cs = [.slice o l.length cap] ∧ l.length ≤ cap ∧ cap ≤ maxLen ∧ Rd enc z [] w o l ∧ ∀ i : Int, 0 ≤ i → i < (l.length : Int) → Q (gi l i) := by
  obtain ⟨o, len, cap, rfl, h1, h2, h3⟩ := tr_slice hu h
  rw [hz] at h3
  obtain ⟨l, hl, hr⟩ := list_of (R := fun i a => CellsX [] w o (i * z) (enc a) ∧ Q a) len fun i hi => by
    obtain ⟨ad, n, y, ec, ho, hc, ht⟩ := h3 i hi
    obtain ⟨a, rfl, hq⟩ := each ec n y ht
    refine ⟨a, cellsX_mk fun j v hj => ?_, hq⟩
    obtain ⟨_, hlen, hcell⟩ := World.cells?_some hc
    have hjl : j < z := by
      have := (List.getElem?_eq_some_iff.1 hj).1
      omega
    refine ⟨ad, ho, by simp, ?_⟩
    have := hcell j hjl
    rw [add_add'] at this
    rw [this]; exact hj
  subst hl
  refine ⟨o, cap, l, rfl, h1, h2, fun i h0 hi => ?_, fun i h0 hi => ?_⟩
  · exact (hr i.toNat (by omega)).1
  · exact (hr i.toNat (by omega)).2
theorem wf_i64 {n : Int} (h : (Lit.int .i64 n).wf = true) : InR .i64 n := by
  simpa [Lit.wf, IntKind.min, IntKind.max, IntKind.signed, IntKind.bits, InR] using h
theorem tr_i {t : TypeId} (hu : P.underlying t = some (.int .i64)) (h : DataW.trod en P w base spare held fuel t cs = some x) : ∃ n : Int, cs = [.int .i64 n] ∧ InR .i64 n := by
  obtain ⟨n, h1, _, h2⟩ := DataW.trod_int hu h
  exact ⟨n, h1, wf_i64 h2⟩
theorem tr_b {t : TypeId} (hu : P.underlying t = some .bool) (h : DataW.trod en P w base spare held fuel t cs = some x) : ∃ b : Bool, cs = [.bool b] := by
  obtain ⟨b, h1, _⟩ := DataW.trod_bool hu h
  exact ⟨b, h1⟩
theorem tr_s {t : TypeId} (hu : P.underlying t = some .string) (h : DataW.trod en P w base spare held fuel t cs = some x) : ∃ s : ByteArray, cs = [.string s] ∧ s.size ≤ maxLen := by
  obtain ⟨s, h1, _, h2⟩ := DataW.trod_string hu h
  exact ⟨s, h1, h2⟩
end
theorem len4 {l : List Value} (h : l.length = 4) : ∃ a0 a1 a2 a3, l = [a0, a1, a2, a3] := by
  match l, h with
  | [a0, a1, a2, a3], _ => exact ⟨a0, a1, a2, a3, rfl⟩
theorem len5 {l : List Value} (h : l.length = 5) : ∃ a0 a1 a2 a3 a4, l = [a0, a1, a2, a3, a4] := by
  match l, h with
  | [a0, a1, a2, a3, a4], _ => exact ⟨a0, a1, a2, a3, a4, rfl⟩
theorem len9 {l : List Value} (h : l.length = 9) : ∃ a0 a1 a2 a3 a4 a5 a6 a7 a8, l = [a0, a1, a2, a3, a4, a5, a6, a7, a8] := by
  match l, h with
  | [a0, a1, a2, a3, a4, a5, a6, a7, a8], _ => exact ⟨a0, a1, a2, a3, a4, a5, a6, a7, a8, rfl⟩
theorem len14 {l : List Value} (h : l.length = 14) : ∃ a0 a1 a2 a3 a4 a5 a6 a7 a8 a9 a10 a11 a12 a13, l = [a0, a1, a2, a3, a4, a5, a6, a7, a8, a9, a10, a11, a12, a13] := by
  match l, h with
  | [a0, a1, a2, a3, a4, a5, a6, a7, a8, a9, a10, a11, a12, a13], _ => exact ⟨a0, a1, a2, a3, a4, a5, a6, a7, a8, a9, a10, a11, a12, a13, rfl⟩
theorem u_int : Tryz.prog.underlying ty_int = some (.int .i64) := by kernel_rfl
theorem u_bool : Tryz.prog.underlying ty_bool = some .bool := by kernel_rfl
theorem c_int : Tryz.prog.cellsOf ty_int = 1 := by kernel_rfl
theorem c_bool : Tryz.prog.cellsOf ty_bool = 1 := by kernel_rfl
theorem u_sl_int : Tryz.prog.underlying ty_sl_int = some (.slice ty_int) := by kernel_rfl
theorem u_sl_bool : Tryz.prog.underlying ty_sl_bool = some (.slice ty_bool) := by kernel_rfl
theorem c_sl_int : Tryz.prog.cellsOf ty_sl_int = 1 := by kernel_rfl
theorem c_sl_bool : Tryz.prog.cellsOf ty_sl_bool = 1 := by kernel_rfl
theorem elt_Int : Elt Tryz.prog encI 1 ty_int 8 (0 : Int) := elt_of (by kernel_rfl) fun _ => rfl
theorem elt_Bool : Elt Tryz.prog encB 1 ty_bool 1 (false : Bool) := elt_of (by kernel_rfl) fun _ => rfl
end Go.Proofs.YtnofpcbjpcoghaaGreat
namespace Go.Proofs.YtnofpcbjpcoghaaGreat
open Go.RowKit Go.ChangeShapes
set_option linter.unusedVariables false
set_option linter.unusedSimpArgs false
section
variable {H : Type} {en : TypeId × Value → H} {w : World} {base : Nat} {spare : Nat → Bool} {held : Bool} {fuel : Nat} {cs : List Value} {x : DataW H × List MemPlace}
theorem u_string : Tryz.prog.underlying ty_string = some .string := by kernel_rfl
theorem c_string : Tryz.prog.cellsOf ty_string = 1 := by kernel_rfl
theorem u_sl_lShelf : Tryz.prog.underlying ty_sl_laws_Shelf = some (.slice ty_laws_Shelf) := by kernel_rfl
theorem c_sl_lShelf : Tryz.prog.cellsOf ty_sl_laws_Shelf = 1 := by kernel_rfl
theorem u_lShelf : Tryz.prog.underlying ty_laws_Shelf = some (.struct (structFs Tryz.prog ty_laws_Shelf)) := by kernel_rfl
theorem f_lShelf : (structFs Tryz.prog ty_laws_Shelf).toList.map (fun f => (f.type, f.offset)) = [(ty_int, 0), (ty_bool, 1), (ty_int, 2), (ty_int, 3), (ty_int, 4)] := by kernel_rfl
theorem c_lShelf : Tryz.prog.cellsOf ty_laws_Shelf = 5 := by kernel_rfl
theorem u_lBand : Tryz.prog.underlying ty_laws_Band = some (.struct (structFs Tryz.prog ty_laws_Band)) := by kernel_rfl
theorem f_lBand : (structFs Tryz.prog ty_laws_Band).toList.map (fun f => (f.type, f.offset)) = [(ty_int, 0), (ty_int, 1), (ty_int, 2), (ty_sl_int, 3), (ty_sl_bool, 4)] := by kernel_rfl
theorem c_lBand : Tryz.prog.cellsOf ty_laws_Band = 5 := by kernel_rfl
theorem u_lGroup : Tryz.prog.underlying ty_laws_Group = some (.struct (structFs Tryz.prog ty_laws_Group)) := by kernel_rfl
theorem f_lGroup : (structFs Tryz.prog ty_laws_Group).toList.map (fun f => (f.type, f.offset)) = [(ty_bool, 0), (ty_int, 1), (ty_string, 2), (ty_int, 3), (ty_int, 4), (ty_int, 5), (ty_int, 6), (ty_int, 7), (ty_laws_Band, 8), (ty_sl_laws_Shelf, 13)] := by kernel_rfl
theorem c_lGroup : Tryz.prog.cellsOf ty_laws_Group = 14 := by kernel_rfl
theorem u_sl_lGroup : Tryz.prog.underlying ty_sl_laws_Group = some (.slice ty_laws_Group) := by kernel_rfl
theorem op_ints (h : DataW.trod en Tryz.prog w base spare held fuel ty_sl_int cs = some x) : ∃ (o : Option Addr) (cap : Nat) (l : List Int), cs = [.slice o l.length cap] ∧ l.length ≤ cap ∧ cap ≤ maxLen ∧ RdI [] w o l ∧ ∀ i : Int, 0 ≤ i → i < (l.length : Int) → InR .i64 (gi l i) :=
  rd_of u_sl_int c_int (fun _ _ _ h => by obtain ⟨n, h1, h2⟩ := tr_i u_int h; exact ⟨n, h1, h2⟩) h
theorem op_bools (h : DataW.trod en Tryz.prog w base spare held fuel ty_sl_bool cs = some x) : ∃ (o : Option Addr) (cap : Nat) (l : List Bool), cs = [.slice o l.length cap] ∧ l.length ≤ cap ∧ cap ≤ maxLen ∧ RdB [] w o l := by
  obtain ⟨o, cap, l, h1, h2, h3, h4, _⟩ := rd_of (Q := fun _ => True) u_sl_bool c_bool (fun _ _ _ h => by obtain ⟨n, h1⟩ := tr_b u_bool h; exact ⟨n, h1, trivial⟩) h
  exact ⟨o, cap, l, h1, h2, h3, h4⟩
theorem op_shelf (h : DataW.trod en Tryz.prog w base spare held fuel ty_laws_Shelf cs = some x) : ∃ s : Shf, cs = encS s := by
  obtain ⟨hl, hp⟩ := tr_struct u_lShelf f_lShelf h
  rw [c_lShelf] at hl
  obtain ⟨a, b, c, d, e, rfl⟩ := len5 hl
  · skip
    obtain ⟨_, _, h1⟩ := hp (ty_int, 0) (by simp)
    obtain ⟨_, _, h2⟩ := hp (ty_bool, 1) (by simp)
    obtain ⟨_, _, h3⟩ := hp (ty_int, 2) (by simp)
    obtain ⟨_, _, h4⟩ := hp (ty_int, 3) (by simp)
    obtain ⟨_, _, h5⟩ := hp (ty_int, 4) (by simp)
    obtain ⟨n1, e1, _⟩ := tr_i u_int h1
    obtain ⟨n2, e2⟩ := tr_b u_bool h2
    obtain ⟨n3, e3, _⟩ := tr_i u_int h3
    obtain ⟨n4, e4, _⟩ := tr_i u_int h4
    obtain ⟨n5, e5, _⟩ := tr_i u_int h5
    simp only [c_int, c_bool, List.drop, List.take, List.cons.injEq, and_true] at e1 e2 e3 e4 e5
    subst e1; subst e2; subst e3; subst e4; subst e5
    exact ⟨⟨n1, n2, n3, n4, n5⟩, rfl⟩
theorem op_shelves (h : DataW.trod en Tryz.prog w base spare held fuel ty_sl_laws_Shelf cs = some x) : ∃ (o : Option Addr) (cap : Nat) (l : List Shf), cs = [.slice o l.length cap] ∧ l.length ≤ cap ∧ cap ≤ maxLen ∧ RdS [] w o l := by
  obtain ⟨o, cap, l, h1, h2, h3, h4, _⟩ := rd_of (Q := fun _ => True) u_sl_lShelf c_lShelf (fun _ _ _ h => by obtain ⟨n, h1⟩ := op_shelf h; exact ⟨n, h1, trivial⟩) h
  exact ⟨o, cap, l, h1, h2, h3, h4⟩
structure FitG (g : Grp) : Prop where
  nm : g.name.size ≤ maxLen
  nx : InR .i64 g.next
  lo : g.band.locals.length ≤ maxLen
  dr : g.band.dry.length ≤ maxLen
  sh : g.shelves.length ≤ maxLen
theorem op_group (h : DataW.trod en Tryz.prog w base spare held fuel ty_laws_Group cs = some x) :
    ∃ p : Grp × MG, cs = encG p.1 p.2 ∧ FitG p.1 ∧ RdI [] w p.2.lO p.1.band.locals ∧ RdB [] w p.2.dO p.1.band.dry ∧ RdS [] w p.2.sO p.1.shelves := by
  obtain ⟨hl, hp⟩ := tr_struct u_lGroup f_lGroup h
  rw [c_lGroup] at hl
  obtain ⟨a0, a1, a2, a3, a4, a5, a6, a7, a8, a9, a10, a11, a12, a13, rfl⟩ := len14 hl
  · skip
    obtain ⟨_, _, h0⟩ := hp (ty_bool, 0) (by simp)
    obtain ⟨_, _, h1⟩ := hp (ty_int, 1) (by simp)
    obtain ⟨_, _, h2⟩ := hp (ty_string, 2) (by simp)
    obtain ⟨_, _, h3⟩ := hp (ty_int, 3) (by simp)
    obtain ⟨_, _, h4⟩ := hp (ty_int, 4) (by simp)
    obtain ⟨_, _, h5⟩ := hp (ty_int, 5) (by simp)
    obtain ⟨_, _, h6⟩ := hp (ty_int, 6) (by simp)
    obtain ⟨_, _, h7⟩ := hp (ty_int, 7) (by simp)
    obtain ⟨_, _, h8⟩ := hp (ty_laws_Band, 8) (by simp)
    obtain ⟨_, _, h9⟩ := hp (ty_sl_laws_Shelf, 13) (by simp)
    obtain ⟨n0, e0⟩ := tr_b u_bool h0
    obtain ⟨n1, e1, _⟩ := tr_i u_int h1
    obtain ⟨n2, e2, b2⟩ := tr_s u_string h2
    obtain ⟨n3, e3, _⟩ := tr_i u_int h3
    obtain ⟨n4, e4, _⟩ := tr_i u_int h4
    obtain ⟨n5, e5, _⟩ := tr_i u_int h5
    obtain ⟨n6, e6, b6⟩ := tr_i u_int h6
    obtain ⟨n7, e7, _⟩ := tr_i u_int h7
    obtain ⟨_, hb⟩ := tr_struct u_lBand f_lBand h8
    obtain ⟨_, _, k0⟩ := hb (ty_int, 0) (by simp)
    obtain ⟨_, _, k1⟩ := hb (ty_int, 1) (by simp)
    obtain ⟨_, _, k2⟩ := hb (ty_int, 2) (by simp)
    obtain ⟨_, _, k3⟩ := hb (ty_sl_int, 3) (by simp)
    obtain ⟨_, _, k4⟩ := hb (ty_sl_bool, 4) (by simp)
    obtain ⟨m0, f0, _⟩ := tr_i u_int k0
    obtain ⟨m1, f1, _⟩ := tr_i u_int k1
    obtain ⟨m2, f2, _⟩ := tr_i u_int k2
    obtain ⟨o3, c3, l3, f3, b3a, b3b, r3, _⟩ := op_ints k3
    obtain ⟨o4, c4, l4, f4, b4a, b4b, r4⟩ := op_bools k4
    obtain ⟨o5, c5, l5, f5, b5a, b5b, r5⟩ := op_shelves h9
    simp only [c_int, c_bool, c_string, c_sl_lShelf, c_lBand, c_sl_int, c_sl_bool, List.drop, List.take, List.cons.injEq, and_true] at e0 e1 e2 e3 e4 e5 e6 e7 f0 f1 f2 f3 f4 f5
    subst e0; subst e1; subst e2; subst e3; subst e4; subst e5; subst e6; subst e7; subst f0; subst f1; subst f2; subst f3; subst f4; subst f5
    exact ⟨(⟨n0, n1, n2, n3, n4, n5, n6, n7, ⟨m0, m1, m2, l3, l4⟩, l5⟩, ⟨o3, c3, o4, c4, o5, c5⟩), rfl, ⟨b2, b6, by show l3.length ≤ _; omega, by show l4.length ≤ _; omega, by show l5.length ≤ _; omega⟩, r3, r4, r5⟩
theorem op_groups (h : DataW.trod en Tryz.prog w base spare held fuel ty_sl_laws_Group cs = some x) :
    ∃ (o : Option Addr) (cap : Nat) (gs : List Grp) (ms : Nat → MG), cs = [.slice o gs.length cap] ∧ gs.length ≤ cap ∧ cap ≤ maxLen ∧ RdG [] w o gs ms ∧ ∀ i : Int, 0 ≤ i → i < (gs.length : Int) → FitG (gi gs i) := by
  obtain ⟨o, cap, l, h1, h2, h3, h4, h5⟩ := rd_of (enc := fun p : Grp × MG => encG p.1 p.2) u_sl_lGroup c_lGroup (fun _ _ _ h => op_group h) h
  have e : ∀ i : Int, 0 ≤ i → i < (l.length : Int) → gi (l.map (·.1)) i = (gi l i).1 := fun i h0 hi => by
    obtain ⟨k, rfl⟩ := Int.eq_ofNat_of_zero_le h0
    rw [gi_lt (by simp; omega), gi_lt (by omega)]; simp
  refine ⟨o, cap, l.map (·.1), fun k => (gi l (k : Int)).2, by simpa using h1, by simpa using h2, h3, ⟨fun i h0 hi => ?_, fun i h0 hi => ?_, fun i h0 hi => ?_, fun i h0 hi => ?_⟩, fun i h0 hi => ?_⟩
  all_goals
    rw [List.length_map] at hi
    rw [e i h0 hi]
    have ek : ((i.toNat : Nat) : Int) = i := by omega
    try rw [ek]
  · exact h4 i h0 hi
  · exact (h5 i h0 hi).2.1
  · exact (h5 i h0 hi).2.2.1
  · exact (h5 i h0 hi).2.2.2
  · exact (h5 i h0 hi).1
end
end Go.Proofs.YtnofpcbjpcoghaaGreat
namespace Go.Proofs.YtnofpcbjpcoghaaGreat
open Go.RowKit
set_option linter.unusedVariables false
set_option maxRecDepth 100000
set_option maxHeartbeats 1600000
noncomputable def c_laws_szCpuS : Cfg := { P := Tryz.prog, T := tblGet tbl, pf := pfT, ef := efT, tt := ttT, vis := [], n := 12, pm := true, wr := false }
noncomputable def s_laws_szCpuS : List (Nat × LSpec) := []
def V_laws_szCpuS (aO : Option Addr) (aL : Nat) (aC : Nat) (leftv : Int) (w : World) (R : Value → World → Prop) : Prop :=
    InR .i64 (leftv - ((aL : Nat) : Int)) ∧
    ((decide (leftv - ((aL : Nat) : Int) < 0)) = true →
    R (.int .i64 (-1)) w) ∧
    ((decide (leftv - ((aL : Nat) : Int) < 0)) = false →
    R (.int .i64 (leftv - ((aL : Nat) : Int))) w)
theorem v_laws_szCpuS (aO : Option Addr) (aL : Nat) (aC : Nat) (leftv : Int) (w : World) (R : Value → World → Prop) : evFn c_laws_szCpuS s_laws_szCpuS [.slice aO aL aC, .int .i64 leftv] (bodyOf Tryz.f12) Tryz.f12.results.toList w R = V_laws_szCpuS aO aL aC leftv w R := by kernel_rfl
theorem p_laws_szCpuS (aO : Option Addr) (aL : Nat) (aC : Nat) (leftv : Int) {w : World} {bs : List Nat} {ret : Value} (hvc : ∀ wr0, ExtX bs w wr0 → V_laws_szCpuS aO aL aC leftv wr0 fun v0 _ => v0 = ret) : PureX bs Tryz.prog fn_laws_szCpuS #[.slice aO aL aC, .int .i64 leftv] w ret :=
  pure_of_ev (C := c_laws_szCpuS) (sps := s_laws_szCpuS) (body := bodyOf Tryz.f12) (env _ _ _ _ _) Tryz.func12 rfl rfl (of_decide_eq_true (by kernel_rfl)) (of_decide_eq_true (by kernel_rfl)) rfl rfl fun wr0 hx0 => by rw [v_laws_szCpuS]; exact hvc wr0 hx0
noncomputable def c_laws_szTaskS : Cfg := { P := Tryz.prog, T := tblGet tbl, pf := pfT, ef := efT, tt := ttT, vis := [], n := 12, pm := true, wr := false }
noncomputable def s_laws_szTaskS : List (Nat × LSpec) := []
def V_laws_szTaskS (aO : Option Addr) (aL : Nat) (aC : Nat) (leftv : Int) (w : World) (R : Value → World → Prop) : Prop :=
    InR .i64 (leftv - ((aL : Nat) : Int)) ∧
    ((decide (leftv - ((aL : Nat) : Int) < 0)) = true →
    R (.int .i64 (-1)) w) ∧
    ((decide (leftv - ((aL : Nat) : Int) < 0)) = false →
    R (.int .i64 (leftv - ((aL : Nat) : Int))) w)
theorem v_laws_szTaskS (aO : Option Addr) (aL : Nat) (aC : Nat) (leftv : Int) (w : World) (R : Value → World → Prop) : evFn c_laws_szTaskS s_laws_szTaskS [.slice aO aL aC, .int .i64 leftv] (bodyOf Tryz.f13) Tryz.f13.results.toList w R = V_laws_szTaskS aO aL aC leftv w R := by kernel_rfl
theorem p_laws_szTaskS (aO : Option Addr) (aL : Nat) (aC : Nat) (leftv : Int) {w : World} {bs : List Nat} {ret : Value} (hvc : ∀ wr0, ExtX bs w wr0 → V_laws_szTaskS aO aL aC leftv wr0 fun v0 _ => v0 = ret) : PureX bs Tryz.prog fn_laws_szTaskS #[.slice aO aL aC, .int .i64 leftv] w ret :=
  pure_of_ev (C := c_laws_szTaskS) (sps := s_laws_szTaskS) (body := bodyOf Tryz.f13) (env _ _ _ _ _) Tryz.func13 rfl rfl (of_decide_eq_true (by kernel_rfl)) (of_decide_eq_true (by kernel_rfl)) rfl rfl fun wr0 hx0 => by rw [v_laws_szTaskS]; exact hvc wr0 hx0
noncomputable def c_laws_szIntS : Cfg := { P := Tryz.prog, T := tblGet tbl, pf := pfT, ef := efT, tt := ttT, vis := [], n := 12, pm := true, wr := false }
noncomputable def s_laws_szIntS : List (Nat × LSpec) := []
def V_laws_szIntS (aO : Option Addr) (aL : Nat) (aC : Nat) (leftv : Int) (w : World) (R : Value → World → Prop) : Prop :=
    InR .i64 (leftv - ((aL : Nat) : Int)) ∧
    ((decide (leftv - ((aL : Nat) : Int) < 0)) = true →
    R (.int .i64 (-1)) w) ∧
    ((decide (leftv - ((aL : Nat) : Int) < 0)) = false →
    R (.int .i64 (leftv - ((aL : Nat) : Int))) w)
theorem v_laws_szIntS (aO : Option Addr) (aL : Nat) (aC : Nat) (leftv : Int) (w : World) (R : Value → World → Prop) : evFn c_laws_szIntS s_laws_szIntS [.slice aO aL aC, .int .i64 leftv] (bodyOf Tryz.f112) Tryz.f112.results.toList w R = V_laws_szIntS aO aL aC leftv w R := by kernel_rfl
theorem p_laws_szIntS (aO : Option Addr) (aL : Nat) (aC : Nat) (leftv : Int) {w : World} {bs : List Nat} {ret : Value} (hvc : ∀ wr0, ExtX bs w wr0 → V_laws_szIntS aO aL aC leftv wr0 fun v0 _ => v0 = ret) : PureX bs Tryz.prog fn_laws_szIntS #[.slice aO aL aC, .int .i64 leftv] w ret :=
  pure_of_ev (C := c_laws_szIntS) (sps := s_laws_szIntS) (body := bodyOf Tryz.f112) (env _ _ _ _ _) Tryz.func112 rfl rfl (of_decide_eq_true (by kernel_rfl)) (of_decide_eq_true (by kernel_rfl)) rfl rfl fun wr0 hx0 => by rw [v_laws_szIntS]; exact hvc wr0 hx0
noncomputable def c_laws_szBoolS : Cfg := { P := Tryz.prog, T := tblGet tbl, pf := pfT, ef := efT, tt := ttT, vis := [], n := 12, pm := true, wr := false }
noncomputable def s_laws_szBoolS : List (Nat × LSpec) := []
def V_laws_szBoolS (aO : Option Addr) (aL : Nat) (aC : Nat) (leftv : Int) (w : World) (R : Value → World → Prop) : Prop :=
    InR .i64 (leftv - ((aL : Nat) : Int)) ∧
    ((decide (leftv - ((aL : Nat) : Int) < 0)) = true →
    R (.int .i64 (-1)) w) ∧
    ((decide (leftv - ((aL : Nat) : Int) < 0)) = false →
    R (.int .i64 (leftv - ((aL : Nat) : Int))) w)
theorem v_laws_szBoolS (aO : Option Addr) (aL : Nat) (aC : Nat) (leftv : Int) (w : World) (R : Value → World → Prop) : evFn c_laws_szBoolS s_laws_szBoolS [.slice aO aL aC, .int .i64 leftv] (bodyOf Tryz.f113) Tryz.f113.results.toList w R = V_laws_szBoolS aO aL aC leftv w R := by kernel_rfl
theorem p_laws_szBoolS (aO : Option Addr) (aL : Nat) (aC : Nat) (leftv : Int) {w : World} {bs : List Nat} {ret : Value} (hvc : ∀ wr0, ExtX bs w wr0 → V_laws_szBoolS aO aL aC leftv wr0 fun v0 _ => v0 = ret) : PureX bs Tryz.prog fn_laws_szBoolS #[.slice aO aL aC, .int .i64 leftv] w ret :=
  pure_of_ev (C := c_laws_szBoolS) (sps := s_laws_szBoolS) (body := bodyOf Tryz.f113) (env _ _ _ _ _) Tryz.func113 rfl rfl (of_decide_eq_true (by kernel_rfl)) (of_decide_eq_true (by kernel_rfl)) rfl rfl fun wr0 hx0 => by rw [v_laws_szBoolS]; exact hvc wr0 hx0
noncomputable def c_laws_szBand : Cfg := { P := Tryz.prog, T := tblGet tbl, pf := pfT, ef := efT, tt := ttT, vis := [], n := 18, pm := true, wr := false }
noncomputable def s_laws_szBand : List (Nat × LSpec) := []
def V_laws_szBand (a0 : Int) (a1 : Int) (a2 : Int) (a3O : Option Addr) (a3L : Nat) (a3C : Nat) (a4O : Option Addr) (a4L : Nat) (a4C : Nat) (leftv : Int) (w : World) (R : Value → World → Prop) : Prop :=
    (∀ b, w.heap.size ≤ b →
    (∃ (szIntS : Int),
    PureX [] Tryz.prog fn_laws_szIntS #[.slice a3O a3L a3C, .int .i64 leftv] w (.int .i64 szIntS) ∧
    ((decide (szIntS < 0)) = true →
    R (.int .i64 (-1)) w) ∧
    ((decide (szIntS < 0)) = false →
    (∃ (szBool : Int),
    PureX [] Tryz.prog fn_laws_szBoolS #[.slice a4O a4L a4C, .int .i64 szIntS] w (.int .i64 szBool) ∧
    ((decide (szBool < 0)) = true →
    R (.int .i64 (-1)) w) ∧
    ((decide (szBool < 0)) = false →
    R (.int .i64 szBool) w)))))
theorem v_laws_szBand (a0 : Int) (a1 : Int) (a2 : Int) (a3O : Option Addr) (a3L : Nat) (a3C : Nat) (a4O : Option Addr) (a4L : Nat) (a4C : Nat) (leftv : Int) (w : World) (R : Value → World → Prop) : evFn c_laws_szBand s_laws_szBand [.agg #[.int .i64 a0, .int .i64 a1, .int .i64 a2, .slice a3O a3L a3C, .slice a4O a4L a4C], .int .i64 leftv] (bodyOf Tryz.f65) Tryz.f65.results.toList w R = V_laws_szBand a0 a1 a2 a3O a3L a3C a4O a4L a4C leftv w R := by kernel_rfl
theorem p_laws_szBand (a0 : Int) (a1 : Int) (a2 : Int) (a3O : Option Addr) (a3L : Nat) (a3C : Nat) (a4O : Option Addr) (a4L : Nat) (a4C : Nat) (leftv : Int) {w : World} {bs : List Nat} {ret : Value} (hvc : ∀ wr0, ExtX bs w wr0 → V_laws_szBand a0 a1 a2 a3O a3L a3C a4O a4L a4C leftv wr0 fun v0 _ => v0 = ret) : PureX bs Tryz.prog fn_laws_szBand #[.agg #[.int .i64 a0, .int .i64 a1, .int .i64 a2, .slice a3O a3L a3C, .slice a4O a4L a4C], .int .i64 leftv] w ret :=
  pure_of_ev (C := c_laws_szBand) (sps := s_laws_szBand) (body := bodyOf Tryz.f65) (env _ _ _ _ _) Tryz.func65 rfl rfl (of_decide_eq_true (by kernel_rfl)) (of_decide_eq_true (by kernel_rfl)) rfl rfl fun wr0 hx0 => by rw [v_laws_szBand]; exact hvc wr0 hx0
noncomputable def c_laws_szShelfS : Cfg := { P := Tryz.prog, T := tblGet tbl, pf := pfT, ef := efT, tt := ttT, vis := [], n := 12, pm := true, wr := false }
noncomputable def s_laws_szShelfS : List (Nat × LSpec) := []
def V_laws_szShelfS (aO : Option Addr) (aL : Nat) (aC : Nat) (leftv : Int) (w : World) (R : Value → World → Prop) : Prop :=
    InR .i64 (leftv - ((aL : Nat) : Int)) ∧
    ((decide (leftv - ((aL : Nat) : Int) < 0)) = true →
    R (.int .i64 (-1)) w) ∧
    ((decide (leftv - ((aL : Nat) : Int) < 0)) = false →
    R (.int .i64 (leftv - ((aL : Nat) : Int))) w)
theorem v_laws_szShelfS (aO : Option Addr) (aL : Nat) (aC : Nat) (leftv : Int) (w : World) (R : Value → World → Prop) : evFn c_laws_szShelfS s_laws_szShelfS [.slice aO aL aC, .int .i64 leftv] (bodyOf Tryz.f66) Tryz.f66.results.toList w R = V_laws_szShelfS aO aL aC leftv w R := by kernel_rfl
theorem p_laws_szShelfS (aO : Option Addr) (aL : Nat) (aC : Nat) (leftv : Int) {w : World} {bs : List Nat} {ret : Value} (hvc : ∀ wr0, ExtX bs w wr0 → V_laws_szShelfS aO aL aC leftv wr0 fun v0 _ => v0 = ret) : PureX bs Tryz.prog fn_laws_szShelfS #[.slice aO aL aC, .int .i64 leftv] w ret :=
  pure_of_ev (C := c_laws_szShelfS) (sps := s_laws_szShelfS) (body := bodyOf Tryz.f66) (env _ _ _ _ _) Tryz.func66 rfl rfl (of_decide_eq_true (by kernel_rfl)) (of_decide_eq_true (by kernel_rfl)) rfl rfl fun wr0 hx0 => by rw [v_laws_szShelfS]; exact hvc wr0 hx0
noncomputable def c_laws_szGroup : Cfg := { P := Tryz.prog, T := tblGet tbl, pf := pfT, ef := efT, tt := ttT, vis := [], n := 25, pm := true, wr := false }
noncomputable def s_laws_szGroup : List (Nat × LSpec) := []
def V_laws_szGroup (a0 : Bool) (a1 : Int) (a2 : ByteArray) (a3 : Int) (a4 : Int) (a5 : Int) (a6 : Int) (a7 : Int) (a8 : Int) (a9 : Int) (a10 : Int) (a11O : Option Addr) (a11L : Nat) (a11C : Nat) (a12O : Option Addr) (a12L : Nat) (a12C : Nat) (a13O : Option Addr) (a13L : Nat) (a13C : Nat) (leftv : Int) (w : World) (R : Value → World → Prop) : Prop :=
    (∀ b, w.heap.size ≤ b →
    InR .i64 (leftv - (a2.size : Int)) ∧
    ((decide (leftv - (a2.size : Int) < 0)) = true →
    R (.int .i64 (-1)) w) ∧
    ((decide (leftv - (a2.size : Int) < 0)) = false →
    (∃ (szBand : Int),
    PureX [] Tryz.prog fn_laws_szBand #[.agg #[.int .i64 a8, .int .i64 a9, .int .i64 a10, .slice a11O a11L a11C, .slice a12O a12L a12C], .int .i64 (leftv - (a2.size : Int))] w (.int .i64 szBand) ∧
    ((decide (szBand < 0)) = true →
    R (.int .i64 (-1)) w) ∧
    ((decide (szBand < 0)) = false →
    (∃ (szShel : Int),
    PureX [] Tryz.prog fn_laws_szShelfS #[.slice a13O a13L a13C, .int .i64 szBand] w (.int .i64 szShel) ∧
    ((decide (szShel < 0)) = true →
    R (.int .i64 (-1)) w) ∧
    ((decide (szShel < 0)) = false →
    R (.int .i64 szShel) w))))))
theorem v_laws_szGroup (a0 : Bool) (a1 : Int) (a2 : ByteArray) (a3 : Int) (a4 : Int) (a5 : Int) (a6 : Int) (a7 : Int) (a8 : Int) (a9 : Int) (a10 : Int) (a11O : Option Addr) (a11L : Nat) (a11C : Nat) (a12O : Option Addr) (a12L : Nat) (a12C : Nat) (a13O : Option Addr) (a13L : Nat) (a13C : Nat) (leftv : Int) (w : World) (R : Value → World → Prop) : evFn c_laws_szGroup s_laws_szGroup [.agg #[.bool a0, .int .i64 a1, .string a2, .int .i64 a3, .int .i64 a4, .int .i64 a5, .int .i64 a6, .int .i64 a7, .int .i64 a8, .int .i64 a9, .int .i64 a10, .slice a11O a11L a11C, .slice a12O a12L a12C, .slice a13O a13L a13C], .int .i64 leftv] (bodyOf Tryz.f35) Tryz.f35.results.toList w R = V_laws_szGroup a0 a1 a2 a3 a4 a5 a6 a7 a8 a9 a10 a11O a11L a11C a12O a12L a12C a13O a13L a13C leftv w R := by kernel_rfl
theorem p_laws_szGroup (a0 : Bool) (a1 : Int) (a2 : ByteArray) (a3 : Int) (a4 : Int) (a5 : Int) (a6 : Int) (a7 : Int) (a8 : Int) (a9 : Int) (a10 : Int) (a11O : Option Addr) (a11L : Nat) (a11C : Nat) (a12O : Option Addr) (a12L : Nat) (a12C : Nat) (a13O : Option Addr) (a13L : Nat) (a13C : Nat) (leftv : Int) {w : World} {bs : List Nat} {ret : Value} (hvc : ∀ wr0, ExtX bs w wr0 → V_laws_szGroup a0 a1 a2 a3 a4 a5 a6 a7 a8 a9 a10 a11O a11L a11C a12O a12L a12C a13O a13L a13C leftv wr0 fun v0 _ => v0 = ret) : PureX bs Tryz.prog fn_laws_szGroup #[.agg #[.bool a0, .int .i64 a1, .string a2, .int .i64 a3, .int .i64 a4, .int .i64 a5, .int .i64 a6, .int .i64 a7, .int .i64 a8, .int .i64 a9, .int .i64 a10, .slice a11O a11L a11C, .slice a12O a12L a12C, .slice a13O a13L a13C], .int .i64 leftv] w ret :=
  pure_of_ev (C := c_laws_szGroup) (sps := s_laws_szGroup) (body := bodyOf Tryz.f35) (env _ _ _ _ _) Tryz.func35 rfl rfl (of_decide_eq_true (by kernel_rfl)) (of_decide_eq_true (by kernel_rfl)) rfl rfl fun wr0 hx0 => by rw [v_laws_szGroup]; exact hvc wr0 hx0
noncomputable def c_laws_szGroupS : Cfg := { P := Tryz.prog, T := tblGet tbl, pf := pfT, ef := efT, tt := ttT, vis := [], n := 27, pm := true, wr := false }
noncomputable def s_laws_szGroupS : List (Nat × LSpec) := [(5, { chg := [(1, .int .i64), (5, .int .i64)], chgL := [], keep := [0] })]
def V_laws_szGroupS (aO : Option Addr) (aL : Nat) (aC : Nat) (leftv : Int) (w : World) (R : Value → World → Prop) : Prop :=
    InR .i64 (leftv - ((aL : Nat) : Int)) ∧
    ((decide (leftv - ((aL : Nat) : Int) < 0)) = true →
    R (.int .i64 (-1)) w) ∧
    ((decide (leftv - ((aL : Nat) : Int) < 0)) = false →
    (∃ (xInv : List Value → Prop) (mu : List Value → Nat), xInv [.int .i64 (leftv - ((aL : Nat) : Int)), .int .i64 0] ∧
    ∀ (leftv1 : Int) (i : Int), xInv [.int .i64 leftv1, .int .i64 i] →
    ((decide (i < ((aL : Nat) : Int))) = true →
    Ix aO aL i ∧
    (∃ (x0 : Bool) (x1 : Int) (x2 : ByteArray) (x3 : Int) (x4 : Int) (x5 : Int) (x6 : Int) (x7 : Int) (x8 : Int) (x9 : Int) (x10 : Int) (x11O : Option Addr) (x11L : Nat) (x11C : Nat) (x12O : Option Addr) (x12L : Nat) (x12C : Nat) (x13O : Option Addr) (x13L : Nat) (x13C : Nat),
    CellsX [] w aO (Int.toNat i * 14) [.bool x0, .int .i64 x1, .string x2, .int .i64 x3, .int .i64 x4, .int .i64 x5, .int .i64 x6, .int .i64 x7, .int .i64 x8, .int .i64 x9, .int .i64 x10, .slice x11O x11L x11C, .slice x12O x12L x12C, .slice x13O x13L x13C] ∧
    (∃ (szGrou : Int),
    PureX [] Tryz.prog fn_laws_szGroup #[.agg #[.bool x0, .int .i64 x1, .string x2, .int .i64 x3, .int .i64 x4, .int .i64 x5, .int .i64 x6, .int .i64 x7, .int .i64 x8, .int .i64 x9, .int .i64 x10, .slice x11O x11L x11C, .slice x12O x12L x12C, .slice x13O x13L x13C], .int .i64 leftv1] w (.int .i64 szGrou) ∧
    ((decide (szGrou < 0)) = true →
    R (.int .i64 (-1)) w) ∧
    ((decide (szGrou < 0)) = false →
    InR .i64 (i + 1) ∧
    xInv [.int .i64 szGrou, .int .i64 (i + 1)] ∧ mu [.int .i64 szGrou, .int .i64 (i + 1)] < mu [.int .i64 leftv1, .int .i64 i])))) ∧
    ((decide (i < ((aL : Nat) : Int))) = false →
    R (.int .i64 leftv1) w)))
theorem v_laws_szGroupS (aO : Option Addr) (aL : Nat) (aC : Nat) (leftv : Int) (w : World) (R : Value → World → Prop) : evFn c_laws_szGroupS s_laws_szGroupS [.slice aO aL aC, .int .i64 leftv] (bodyOf Tryz.f14) Tryz.f14.results.toList w R = V_laws_szGroupS aO aL aC leftv w R := by kernel_rfl
theorem p_laws_szGroupS (aO : Option Addr) (aL : Nat) (aC : Nat) (leftv : Int) {w : World} {bs : List Nat} {ret : Value} (hvc : ∀ wr0, ExtX bs w wr0 → V_laws_szGroupS aO aL aC leftv wr0 fun v0 _ => v0 = ret) : PureX bs Tryz.prog fn_laws_szGroupS #[.slice aO aL aC, .int .i64 leftv] w ret :=
  pure_of_ev (C := c_laws_szGroupS) (sps := s_laws_szGroupS) (body := bodyOf Tryz.f14) (env _ _ _ _ _) Tryz.func14 rfl rfl (of_decide_eq_true (by kernel_rfl)) (of_decide_eq_true (by kernel_rfl)) rfl rfl fun wr0 hx0 => by rw [v_laws_szGroupS]; exact hvc wr0 hx0
noncomputable def c_laws_szWorld : Cfg := { P := Tryz.prog, T := tblGet tbl, pf := pfT, ef := efT, tt := ttT, vis := [], n := 24, pm := true, wr := false }
noncomputable def s_laws_szWorld : List (Nat × LSpec) := []
def V_laws_szWorld (a0 : Int) (a1O : Option Addr) (a1L : Nat) (a1C : Nat) (a2O : Option Addr) (a2L : Nat) (a2C : Nat) (a3O : Option Addr) (a3L : Nat) (a3C : Nat) (leftv : Int) (w : World) (R : Value → World → Prop) : Prop :=
    (∀ b, w.heap.size ≤ b →
    (∃ (szCpuS : Int),
    PureX [] Tryz.prog fn_laws_szCpuS #[.slice a1O a1L a1C, .int .i64 leftv] w (.int .i64 szCpuS) ∧
    ((decide (szCpuS < 0)) = true →
    R (.int .i64 (-1)) w) ∧
    ((decide (szCpuS < 0)) = false →
    (∃ (szTask : Int),
    PureX [] Tryz.prog fn_laws_szTaskS #[.slice a2O a2L a2C, .int .i64 szCpuS] w (.int .i64 szTask) ∧
    ((decide (szTask < 0)) = true →
    R (.int .i64 (-1)) w) ∧
    ((decide (szTask < 0)) = false →
    (∃ (szGrou : Int),
    PureX [] Tryz.prog fn_laws_szGroupS #[.slice a3O a3L a3C, .int .i64 szTask] w (.int .i64 szGrou) ∧
    ((decide (szGrou < 0)) = true →
    R (.int .i64 (-1)) w) ∧
    ((decide (szGrou < 0)) = false →
    R (.int .i64 szGrou) w)))))))
theorem v_laws_szWorld (a0 : Int) (a1O : Option Addr) (a1L : Nat) (a1C : Nat) (a2O : Option Addr) (a2L : Nat) (a2C : Nat) (a3O : Option Addr) (a3L : Nat) (a3C : Nat) (leftv : Int) (w : World) (R : Value → World → Prop) : evFn c_laws_szWorld s_laws_szWorld [.agg #[.int .i64 a0, .slice a1O a1L a1C, .slice a2O a2L a2C, .slice a3O a3L a3C], .int .i64 leftv] (bodyOf Tryz.f5) Tryz.f5.results.toList w R = V_laws_szWorld a0 a1O a1L a1C a2O a2L a2C a3O a3L a3C leftv w R := by kernel_rfl
theorem p_laws_szWorld (a0 : Int) (a1O : Option Addr) (a1L : Nat) (a1C : Nat) (a2O : Option Addr) (a2L : Nat) (a2C : Nat) (a3O : Option Addr) (a3L : Nat) (a3C : Nat) (leftv : Int) {w : World} {bs : List Nat} {ret : Value} (hvc : ∀ wr0, ExtX bs w wr0 → V_laws_szWorld a0 a1O a1L a1C a2O a2L a2C a3O a3L a3C leftv wr0 fun v0 _ => v0 = ret) : PureX bs Tryz.prog fn_laws_szWorld #[.agg #[.int .i64 a0, .slice a1O a1L a1C, .slice a2O a2L a2C, .slice a3O a3L a3C], .int .i64 leftv] w ret :=
  pure_of_ev (C := c_laws_szWorld) (sps := s_laws_szWorld) (body := bodyOf Tryz.f5) (env _ _ _ _ _) Tryz.func5 rfl rfl (of_decide_eq_true (by kernel_rfl)) (of_decide_eq_true (by kernel_rfl)) rfl rfl fun wr0 hx0 => by rw [v_laws_szWorld]; exact hvc wr0 hx0
noncomputable def c_spec_l1In : Cfg := { P := Tryz.prog, T := tblGet tbl, pf := pfT, ef := efT, tt := ttT, vis := [], n := 15, pm := true, wr := false }
noncomputable def s_spec_l1In : List (Nat × LSpec) := []
def V_spec_l1In (n : Int) (low : Int) (high : Int) (w : World) (R : Value → World → Prop) : Prop :=
    R (.bool ((decide (n ≥ low)) && (decide (n ≤ high)))) w
theorem v_spec_l1In (n : Int) (low : Int) (high : Int) (w : World) (R : Value → World → Prop) : evFn c_spec_l1In s_spec_l1In [.int .i64 n, .int .i64 low, .int .i64 high] (bodyOf Tryz.f17) Tryz.f17.results.toList w R = V_spec_l1In n low high w R := by kernel_rfl
theorem p_spec_l1In (n : Int) (low : Int) (high : Int) {w : World} {bs : List Nat} {ret : Value} (hvc : ∀ wr0, ExtX bs w wr0 → V_spec_l1In n low high wr0 fun v0 _ => v0 = ret) : PureX bs Tryz.prog fn_spec_l1In #[.int .i64 n, .int .i64 low, .int .i64 high] w ret :=
  pure_of_ev (C := c_spec_l1In) (sps := s_spec_l1In) (body := bodyOf Tryz.f17) (env _ _ _ _ _) Tryz.func17 rfl rfl (of_decide_eq_true (by kernel_rfl)) (of_decide_eq_true (by kernel_rfl)) rfl rfl fun wr0 hx0 => by rw [v_spec_l1In]; exact hvc wr0 hx0
noncomputable def c_spec_l6File : Cfg := { P := Tryz.prog, T := tblGet tbl, pf := pfT, ef := efT, tt := ttT, vis := [], n := 21, pm := true, wr := false }
noncomputable def s_spec_l6File : List (Nat × LSpec) := []
def V_spec_l6File (s : ByteArray) (w : World) (R : Value → World → Prop) : Prop :=
    R (.bool (((((strEq s (ByteArray.mk [119, 101, 105, 103, 104, 116].toArray)) || (strEq s (ByteArray.mk [109, 97, 120].toArray))) || (strEq s (ByteArray.mk [99, 112, 117, 115].toArray))) || (strEq s (ByteArray.mk [112, 114, 111, 99, 115].toArray))) || (strEq s (ByteArray.mk [115, 116, 97, 116].toArray)))) w
theorem v_spec_l6File (s : ByteArray) (w : World) (R : Value → World → Prop) : evFn c_spec_l6File s_spec_l6File [.string s] (bodyOf Tryz.f114) Tryz.f114.results.toList w R = V_spec_l6File s w R := by kernel_rfl
theorem p_spec_l6File (s : ByteArray) {w : World} {bs : List Nat} {ret : Value} (hvc : ∀ wr0, ExtX bs w wr0 → V_spec_l6File s wr0 fun v0 _ => v0 = ret) : PureX bs Tryz.prog fn_spec_l6File #[.string s] w ret :=
  pure_of_ev (C := c_spec_l6File) (sps := s_spec_l6File) (body := bodyOf Tryz.f114) (env _ _ _ _ _) Tryz.func114 rfl rfl (of_decide_eq_true (by kernel_rfl)) (of_decide_eq_true (by kernel_rfl)) rfl rfl fun wr0 hx0 => by rw [v_spec_l6File]; exact hvc wr0 hx0
noncomputable def c_spec_NameOk : Cfg := { P := Tryz.prog, T := tblGet tbl, pf := pfT, ef := efT, tt := ttT, vis := [], n := 41, pm := true, wr := false }
noncomputable def s_spec_NameOk : List (Nat × LSpec) := [(4, { chg := [(3, .int .i64)], chgL := [], keep := [0] })]
def V_spec_NameOk (s : ByteArray) (w : World) (R : Value → World → Prop) : Prop :=
    (∃ (l1In : Bool),
    PureX [] Tryz.prog fn_spec_l1In #[.int .i64 (s.size : Int), .int .i64 1, .int .i64 8] w (.bool l1In) ∧
    (∃ (l6File : Bool),
    ((!l1In) = false → PureX [] Tryz.prog fn_spec_l6File #[.string s] w (.bool l6File)) ∧
    (((!l1In) || l6File) = true →
    R (.bool false) w) ∧
    (((!l1In) || l6File) = false →
    (∃ (xInv : List Value → Prop) (mu : List Value → Nat), xInv [.int .i64 0] ∧
    ∀ (i : Int), xInv [.int .i64 i] →
    ((decide (i < (s.size : Int))) = true →
    (0 ≤ i ∧ i < (s.size : Int)) ∧
    ((decide (strAt s i ≥ 97)) = true → (0 ≤ i ∧ i < (s.size : Int))) ∧
    (((decide (strAt s i ≥ 97)) && (decide (strAt s i ≤ 122))) = false → (0 ≤ i ∧ i < (s.size : Int))) ∧
    ((decide (strAt s i ≥ 48)) = true → (((decide (strAt s i ≥ 97)) && (decide (strAt s i ≤ 122))) = false → (0 ≤ i ∧ i < (s.size : Int)))) ∧
    ((!(((decide (strAt s i ≥ 97)) && (decide (strAt s i ≤ 122))) || ((decide (strAt s i ≥ 48)) && (decide (strAt s i ≤ 57))))) = true →
    R (.bool false) w) ∧
    ((!(((decide (strAt s i ≥ 97)) && (decide (strAt s i ≤ 122))) || ((decide (strAt s i ≥ 48)) && (decide (strAt s i ≤ 57))))) = false →
    InR .i64 (i + 1) ∧
    xInv [.int .i64 (i + 1)] ∧ mu [.int .i64 (i + 1)] < mu [.int .i64 i])) ∧
    ((decide (i < (s.size : Int))) = false →
    R (.bool true) w)))))
theorem v_spec_NameOk (s : ByteArray) (w : World) (R : Value → World → Prop) : evFn c_spec_NameOk s_spec_NameOk [.string s] (bodyOf Tryz.f67) Tryz.f67.results.toList w R = V_spec_NameOk s w R := by kernel_rfl
theorem p_spec_NameOk (s : ByteArray) {w : World} {bs : List Nat} {ret : Value} (hvc : ∀ wr0, ExtX bs w wr0 → V_spec_NameOk s wr0 fun v0 _ => v0 = ret) : PureX bs Tryz.prog fn_spec_NameOk #[.string s] w ret :=
  pure_of_ev (C := c_spec_NameOk) (sps := s_spec_NameOk) (body := bodyOf Tryz.f67) (env _ _ _ _ _) Tryz.func67 rfl rfl (of_decide_eq_true (by kernel_rfl)) (of_decide_eq_true (by kernel_rfl)) rfl rfl fun wr0 hx0 => by rw [v_spec_NameOk]; exact hvc wr0 hx0
noncomputable def c_spec_l6Used : Cfg := { P := Tryz.prog, T := tblGet tbl, pf := pfT, ef := efT, tt := ttT, vis := [], n := 20, pm := true, wr := false }
noncomputable def s_spec_l6Used : List (Nat × LSpec) := []
def V_spec_l6Used (lO : Option Addr) (lL : Nat) (lC : Nat) (g : Int) (w : World) (R : Value → World → Prop) : Prop :=
    (((decide (g ≥ 0)) && (decide (g < ((lL : Nat) : Int)))) = true → Ix lO lL g) ∧
    (∃ (used : Bool),
    (((decide (g ≥ 0)) && (decide (g < ((lL : Nat) : Int)))) = true → CellsX [] w lO (Int.toNat g * 14 + 0) [.bool used]) ∧
    R (.bool (((decide (g ≥ 0)) && (decide (g < ((lL : Nat) : Int)))) && used)) w)
theorem v_spec_l6Used (lO : Option Addr) (lL : Nat) (lC : Nat) (g : Int) (w : World) (R : Value → World → Prop) : evFn c_spec_l6Used s_spec_l6Used [.slice lO lL lC, .int .i64 g] (bodyOf Tryz.f74) Tryz.f74.results.toList w R = V_spec_l6Used lO lL lC g w R := by kernel_rfl
theorem p_spec_l6Used (lO : Option Addr) (lL : Nat) (lC : Nat) (g : Int) {w : World} {bs : List Nat} {ret : Value} (hvc : ∀ wr0, ExtX bs w wr0 → V_spec_l6Used lO lL lC g wr0 fun v0 _ => v0 = ret) : PureX bs Tryz.prog fn_spec_l6Used #[.slice lO lL lC, .int .i64 g] w ret :=
  pure_of_ev (C := c_spec_l6Used) (sps := s_spec_l6Used) (body := bodyOf Tryz.f74) (env _ _ _ _ _) Tryz.func74 rfl rfl (of_decide_eq_true (by kernel_rfl)) (of_decide_eq_true (by kernel_rfl)) rfl rfl fun wr0 hx0 => by rw [v_spec_l6Used]; exact hvc wr0 hx0
noncomputable def c_spec_l6Depth : Cfg := { P := Tryz.prog, T := tblGet tbl, pf := pfT, ef := efT, tt := ttT, vis := [], n := 24, pm := true, wr := false }
noncomputable def s_spec_l6Depth : List (Nat × LSpec) := [(2, { chg := [(1, .int .i64), (5, .int .i64)], chgL := [], keep := [0] })]
def V_spec_l6Depth (lO : Option Addr) (lL : Nat) (lC : Nat) (g : Int) (w : World) (R : Value → World → Prop) : Prop :=
    (∃ (xInv : List Value → Prop) (mu : List Value → Nat), xInv [.int .i64 g, .int .i64 0] ∧
    ∀ (g1 : Int) (n : Int), xInv [.int .i64 g1, .int .i64 n] →
    ((decide (n ≤ ((lL : Nat) : Int))) = true →
    (∃ (l6Used : Bool),
    PureX [] Tryz.prog fn_spec_l6Used #[.slice lO lL lC, .int .i64 g1] w (.bool l6Used) ∧
    ((!l6Used) = true →
    R (.int .i64 (-1)) w) ∧
    ((!l6Used) = false →
    ((g1 == 0) = true →
    R (.int .i64 n) w) ∧
    ((g1 == 0) = false →
    Ix lO lL g1 ∧
    (∃ (parent : Int),
    CellsX [] w lO (Int.toNat g1 * 14 + 1) [.int .i64 parent] ∧
    InR .i64 (n + 1) ∧
    xInv [.int .i64 parent, .int .i64 (n + 1)] ∧ mu [.int .i64 parent, .int .i64 (n + 1)] < mu [.int .i64 g1, .int .i64 n]))))) ∧
    ((decide (n ≤ ((lL : Nat) : Int))) = false →
    R (.int .i64 (-1)) w))
theorem v_spec_l6Depth (lO : Option Addr) (lL : Nat) (lC : Nat) (g : Int) (w : World) (R : Value → World → Prop) : evFn c_spec_l6Depth s_spec_l6Depth [.slice lO lL lC, .int .i64 g] (bodyOf Tryz.f68) Tryz.f68.results.toList w R = V_spec_l6Depth lO lL lC g w R := by kernel_rfl
theorem p_spec_l6Depth (lO : Option Addr) (lL : Nat) (lC : Nat) (g : Int) {w : World} {bs : List Nat} {ret : Value} (hvc : ∀ wr0, ExtX bs w wr0 → V_spec_l6Depth lO lL lC g wr0 fun v0 _ => v0 = ret) : PureX bs Tryz.prog fn_spec_l6Depth #[.slice lO lL lC, .int .i64 g] w ret :=
  pure_of_ev (C := c_spec_l6Depth) (sps := s_spec_l6Depth) (body := bodyOf Tryz.f68) (env _ _ _ _ _) Tryz.func68 rfl rfl (of_decide_eq_true (by kernel_rfl)) (of_decide_eq_true (by kernel_rfl)) rfl rfl fun wr0 hx0 => by rw [v_spec_l6Depth]; exact hvc wr0 hx0
noncomputable def c_spec_TreeOk : Cfg := { P := Tryz.prog, T := tblGet tbl, pf := pfT, ef := efT, tt := ttT, vis := [], n := 91, pm := true, wr := false }
noncomputable def s_spec_TreeOk : List (Nat × LSpec) := [(4, { chg := [(3, .int .i64)], chgL := [], keep := [0] }), (10, { chg := [(4, .int .i64)], chgL := [], keep := [0, 3] })]
def V_spec_TreeOk (lO : Option Addr) (lL : Nat) (lC : Nat) (w : World) (R : Value → World → Prop) : Prop :=
    ((((lL : Nat) : Int) != 8) = false → Ix lO lL 0) ∧
    (∃ (used : Bool),
    ((((lL : Nat) : Int) != 8) = false → CellsX [] w lO (Int.toNat 0 * 14 + 0) [.bool used]) ∧
    (((((lL : Nat) : Int) != 8) || (!used)) = false → Ix lO lL 0) ∧
    (∃ (parent : Int),
    (((((lL : Nat) : Int) != 8) || (!used)) = false → CellsX [] w lO (Int.toNat 0 * 14 + 1) [.int .i64 parent]) ∧
    ((((((lL : Nat) : Int) != 8) || (!used)) || (parent != (-1))) = false → Ix lO lL 0) ∧
    (∃ (name : ByteArray),
    ((((((lL : Nat) : Int) != 8) || (!used)) || (parent != (-1))) = false → CellsX [] w lO (Int.toNat 0 * 14 + 2) [.string name]) ∧
    (((((((lL : Nat) : Int) != 8) || (!used)) || (parent != (-1))) || (!strEq name (ByteArray.mk [].toArray))) = true →
    R (.bool false) w) ∧
    (((((((lL : Nat) : Int) != 8) || (!used)) || (parent != (-1))) || (!strEq name (ByteArray.mk [].toArray))) = false →
    (∃ (xInv : List Value → Prop) (mu : List Value → Nat), xInv [.int .i64 1] ∧
    ∀ (g : Int), xInv [.int .i64 g] →
    ((decide (g < ((lL : Nat) : Int))) = true →
    Ix lO lL g ∧
    (∃ (used1 : Bool),
    CellsX [] w lO (Int.toNat g * 14 + 0) [.bool used1] ∧
    ((!used1) = true →
    InR .i64 (g + 1) ∧
    xInv [.int .i64 (g + 1)] ∧ mu [.int .i64 (g + 1)] < mu [.int .i64 g]) ∧
    ((!used1) = false →
    Ix lO lL g ∧
    (∃ (name1 : ByteArray),
    CellsX [] w lO (Int.toNat g * 14 + 2) [.string name1] ∧
    (∃ (xNameOk : Bool),
    PureX [] Tryz.prog fn_spec_NameOk #[.string name1] w (.bool xNameOk) ∧
    (∃ (l6Dept : Int),
    ((!xNameOk) = false → PureX [] Tryz.prog fn_spec_l6Depth #[.slice lO lL lC, .int .i64 g] w (.int .i64 l6Dept)) ∧
    (∃ (l1In : Bool),
    ((!xNameOk) = false → PureX [] Tryz.prog fn_spec_l1In #[.int .i64 l6Dept, .int .i64 1, .int .i64 3] w (.bool l1In)) ∧
    (((!xNameOk) || (!l1In)) = true →
    R (.bool false) w) ∧
    (((!xNameOk) || (!l1In)) = false →
    (∃ (xInv1 : List Value → Prop) (mu1 : List Value → Nat), xInv1 [.int .i64 1] ∧
    ∀ (h : Int), xInv1 [.int .i64 h] →
    ((decide (h < g)) = true →
    Ix lO lL h ∧
    (∃ (used2 : Bool),
    CellsX [] w lO (Int.toNat h * 14 + 0) [.bool used2] ∧
    (used2 = true → Ix lO lL h) ∧
    (∃ (parent1 : Int),
    (used2 = true → CellsX [] w lO (Int.toNat h * 14 + 1) [.int .i64 parent1]) ∧
    (used2 = true → Ix lO lL g) ∧
    (∃ (parent2 : Int),
    (used2 = true → CellsX [] w lO (Int.toNat g * 14 + 1) [.int .i64 parent2]) ∧
    ((used2 && (parent1 == parent2)) = true → Ix lO lL h) ∧
    (∃ (name2 : ByteArray),
    ((used2 && (parent1 == parent2)) = true → CellsX [] w lO (Int.toNat h * 14 + 2) [.string name2]) ∧
    ((used2 && (parent1 == parent2)) = true → Ix lO lL g) ∧
    (∃ (name3 : ByteArray),
    ((used2 && (parent1 == parent2)) = true → CellsX [] w lO (Int.toNat g * 14 + 2) [.string name3]) ∧
    (((used2 && (parent1 == parent2)) && (strEq name2 name3)) = true →
    R (.bool false) w) ∧
    (((used2 && (parent1 == parent2)) && (strEq name2 name3)) = false →
    InR .i64 (h + 1) ∧
    xInv1 [.int .i64 (h + 1)] ∧ mu1 [.int .i64 (h + 1)] < mu1 [.int .i64 h]))))))) ∧
    ((decide (h < g)) = false →
    InR .i64 (g + 1) ∧
    xInv [.int .i64 (g + 1)] ∧ mu [.int .i64 (g + 1)] < mu [.int .i64 g])))))))))) ∧
    ((decide (g < ((lL : Nat) : Int))) = false →
    R (.bool true) w))))))
theorem v_spec_TreeOk (lO : Option Addr) (lL : Nat) (lC : Nat) (w : World) (R : Value → World → Prop) : evFn c_spec_TreeOk s_spec_TreeOk [.slice lO lL lC] (bodyOf Tryz.f36) Tryz.f36.results.toList w R = V_spec_TreeOk lO lL lC w R := by kernel_rfl
theorem p_spec_TreeOk (lO : Option Addr) (lL : Nat) (lC : Nat) {w : World} {bs : List Nat} {ret : Value} (hvc : ∀ wr0, ExtX bs w wr0 → V_spec_TreeOk lO lL lC wr0 fun v0 _ => v0 = ret) : PureX bs Tryz.prog fn_spec_TreeOk #[.slice lO lL lC] w ret :=
  pure_of_ev (C := c_spec_TreeOk) (sps := s_spec_TreeOk) (body := bodyOf Tryz.f36) (env _ _ _ _ _) Tryz.func36 rfl rfl (of_decide_eq_true (by kernel_rfl)) (of_decide_eq_true (by kernel_rfl)) rfl rfl fun wr0 hx0 => by rw [v_spec_TreeOk]; exact hvc wr0 hx0
noncomputable def c_spec_l8Ups : Cfg := { P := Tryz.prog, T := tblGet tbl, pf := pfT, ef := efT, tt := ttT, vis := [], n := 24, pm := true, wr := false }
noncomputable def s_spec_l8Ups : List (Nat × LSpec) := [(3, { chg := [(3, .int .i64), (4, .int .i64)], chgL := [], keep := [1] })]
def V_spec_l8Ups (w0 : Int) (w1O : Option Addr) (w1L : Nat) (w1C : Nat) (w2O : Option Addr) (w2L : Nat) (w2C : Nat) (w3O : Option Addr) (w3L : Nat) (w3C : Nat) (w : World) (R : Value → World → Prop) : Prop :=
    (∀ b, w.heap.size ≤ b →
    (∃ (xInv : List Value → Prop) (mu : List Value → Nat), xInv [.int .i64 0, .int .i64 0] ∧
    ∀ (m : Int) (c : Int), xInv [.int .i64 m, .int .i64 c] →
    ((decide (c < ((w1L : Nat) : Int))) = true →
    Ix w1O w1L c ∧
    (∃ (up : Bool),
    CellsX [] w w1O (Int.toNat c * 5 + 0) [.bool up] ∧
    (up = true →
    InR .u64 c ∧
    (0 ≤ c ∧ InR .i64 (1 * 2 ^ (min (Int.toNat c) 64))) ∧
    InR .i64 (m + (1 * 2 ^ (min (Int.toNat c) 64))) ∧
    InR .i64 (c + 1) ∧
    xInv [.int .i64 (m + (1 * 2 ^ (min (Int.toNat c) 64))), .int .i64 (c + 1)] ∧ mu [.int .i64 (m + (1 * 2 ^ (min (Int.toNat c) 64))), .int .i64 (c + 1)] < mu [.int .i64 m, .int .i64 c]) ∧
    (up = false →
    InR .i64 (c + 1) ∧
    xInv [.int .i64 m, .int .i64 (c + 1)] ∧ mu [.int .i64 m, .int .i64 (c + 1)] < mu [.int .i64 m, .int .i64 c]))) ∧
    ((decide (c < ((w1L : Nat) : Int))) = false →
    R (.int .i64 m) w)))
theorem v_spec_l8Ups (w0 : Int) (w1O : Option Addr) (w1L : Nat) (w1C : Nat) (w2O : Option Addr) (w2L : Nat) (w2C : Nat) (w3O : Option Addr) (w3L : Nat) (w3C : Nat) (w : World) (R : Value → World → Prop) : evFn c_spec_l8Ups s_spec_l8Ups [.agg #[.int .i64 w0, .slice w1O w1L w1C, .slice w2O w2L w2C, .slice w3O w3L w3C]] (bodyOf Tryz.f37) Tryz.f37.results.toList w R = V_spec_l8Ups w0 w1O w1L w1C w2O w2L w2C w3O w3L w3C w R := by kernel_rfl
theorem p_spec_l8Ups (w0 : Int) (w1O : Option Addr) (w1L : Nat) (w1C : Nat) (w2O : Option Addr) (w2L : Nat) (w2C : Nat) (w3O : Option Addr) (w3L : Nat) (w3C : Nat) {w : World} {bs : List Nat} {ret : Value} (hvc : ∀ wr0, ExtX bs w wr0 → V_spec_l8Ups w0 w1O w1L w1C w2O w2L w2C w3O w3L w3C wr0 fun v0 _ => v0 = ret) : PureX bs Tryz.prog fn_spec_l8Ups #[.agg #[.int .i64 w0, .slice w1O w1L w1C, .slice w2O w2L w2C, .slice w3O w3L w3C]] w ret :=
  pure_of_ev (C := c_spec_l8Ups) (sps := s_spec_l8Ups) (body := bodyOf Tryz.f37) (env _ _ _ _ _) Tryz.func37 rfl rfl (of_decide_eq_true (by kernel_rfl)) (of_decide_eq_true (by kernel_rfl)) rfl rfl fun wr0 hx0 => by rw [v_spec_l8Ups]; exact hvc wr0 hx0
noncomputable def c_spec_l8NoBand : Cfg := { P := Tryz.prog, T := tblGet tbl, pf := pfT, ef := efT, tt := ttT, vis := [], n := 28, pm := true, wr := false }
noncomputable def s_spec_l8NoBand : List (Nat × LSpec) := []
def V_spec_l8NoBand (b0 : Int) (b1 : Int) (b2 : Int) (b3O : Option Addr) (b3L : Nat) (b3C : Nat) (b4O : Option Addr) (b4L : Nat) (b4C : Nat) (w : World) (R : Value → World → Prop) : Prop :=
    (∀ b, w.heap.size ≤ b →
    R (.bool (((((b0 == 0) && (b1 == 0)) && (b2 == 0)) && (((b3L : Nat) : Int) == 0)) && (((b4L : Nat) : Int) == 0))) w)
theorem v_spec_l8NoBand (b0 : Int) (b1 : Int) (b2 : Int) (b3O : Option Addr) (b3L : Nat) (b3C : Nat) (b4O : Option Addr) (b4L : Nat) (b4C : Nat) (w : World) (R : Value → World → Prop) : evFn c_spec_l8NoBand s_spec_l8NoBand [.agg #[.int .i64 b0, .int .i64 b1, .int .i64 b2, .slice b3O b3L b3C, .slice b4O b4L b4C]] (bodyOf Tryz.f69) Tryz.f69.results.toList w R = V_spec_l8NoBand b0 b1 b2 b3O b3L b3C b4O b4L b4C w R := by kernel_rfl
theorem p_spec_l8NoBand (b0 : Int) (b1 : Int) (b2 : Int) (b3O : Option Addr) (b3L : Nat) (b3C : Nat) (b4O : Option Addr) (b4L : Nat) (b4C : Nat) {w : World} {bs : List Nat} {ret : Value} (hvc : ∀ wr0, ExtX bs w wr0 → V_spec_l8NoBand b0 b1 b2 b3O b3L b3C b4O b4L b4C wr0 fun v0 _ => v0 = ret) : PureX bs Tryz.prog fn_spec_l8NoBand #[.agg #[.int .i64 b0, .int .i64 b1, .int .i64 b2, .slice b3O b3L b3C, .slice b4O b4L b4C]] w ret :=
  pure_of_ev (C := c_spec_l8NoBand) (sps := s_spec_l8NoBand) (body := bodyOf Tryz.f69) (env _ _ _ _ _) Tryz.func69 rfl rfl (of_decide_eq_true (by kernel_rfl)) (of_decide_eq_true (by kernel_rfl)) rfl rfl fun wr0 hx0 => by rw [v_spec_l8NoBand]; exact hvc wr0 hx0
noncomputable def c_spec_l1Weight : Cfg := { P := Tryz.prog, T := tblGet tbl, pf := pfT, ef := efT, tt := ttT, vis := [], n := 5, pm := true, wr := false }
noncomputable def s_spec_l1Weight : List (Nat × LSpec) := []
def V_spec_l1Weight (wv : Int) (w : World) (R : Value → World → Prop) : Prop :=
    (∃ (l1In : Bool),
    PureX [] Tryz.prog fn_spec_l1In #[.int .i64 wv, .int .i64 1, .int .i64 20] w (.bool l1In) ∧
    R (.bool l1In) w)
theorem v_spec_l1Weight (wv : Int) (w : World) (R : Value → World → Prop) : evFn c_spec_l1Weight s_spec_l1Weight [.int .i64 wv] (bodyOf Tryz.f70) Tryz.f70.results.toList w R = V_spec_l1Weight wv w R := by kernel_rfl
theorem p_spec_l1Weight (wv : Int) {w : World} {bs : List Nat} {ret : Value} (hvc : ∀ wr0, ExtX bs w wr0 → V_spec_l1Weight wv wr0 fun v0 _ => v0 = ret) : PureX bs Tryz.prog fn_spec_l1Weight #[.int .i64 wv] w ret :=
  pure_of_ev (C := c_spec_l1Weight) (sps := s_spec_l1Weight) (body := bodyOf Tryz.f70) (env _ _ _ _ _) Tryz.func70 rfl rfl (of_decide_eq_true (by kernel_rfl)) (of_decide_eq_true (by kernel_rfl)) rfl rfl fun wr0 hx0 => by rw [v_spec_l1Weight]; exact hvc wr0 hx0
noncomputable def c_spec_MaskOk : Cfg := { P := Tryz.prog, T := tblGet tbl, pf := pfT, ef := efT, tt := ttT, vis := [], n := 5, pm := true, wr := false }
noncomputable def s_spec_MaskOk : List (Nat × LSpec) := []
def V_spec_MaskOk (m : Int) (w : World) (R : Value → World → Prop) : Prop :=
    (∃ (l1In : Bool),
    PureX [] Tryz.prog fn_spec_l1In #[.int .i64 m, .int .i64 0, .int .i64 15] w (.bool l1In) ∧
    R (.bool l1In) w)
theorem v_spec_MaskOk (m : Int) (w : World) (R : Value → World → Prop) : evFn c_spec_MaskOk s_spec_MaskOk [.int .i64 m] (bodyOf Tryz.f71) Tryz.f71.results.toList w R = V_spec_MaskOk m w R := by kernel_rfl
theorem p_spec_MaskOk (m : Int) {w : World} {bs : List Nat} {ret : Value} (hvc : ∀ wr0, ExtX bs w wr0 → V_spec_MaskOk m wr0 fun v0 _ => v0 = ret) : PureX bs Tryz.prog fn_spec_MaskOk #[.int .i64 m] w ret :=
  pure_of_ev (C := c_spec_MaskOk) (sps := s_spec_MaskOk) (body := bodyOf Tryz.f71) (env _ _ _ _ _) Tryz.func71 rfl rfl (of_decide_eq_true (by kernel_rfl)) (of_decide_eq_true (by kernel_rfl)) rfl rfl fun wr0 hx0 => by rw [v_spec_MaskOk]; exact hvc wr0 hx0
noncomputable def c_spec_l4Time : Cfg := { P := Tryz.prog, T := tblGet tbl, pf := pfT, ef := efT, tt := ttT, vis := [], n := 5, pm := true, wr := false }
noncomputable def s_spec_l4Time : List (Nat × LSpec) := []
def V_spec_l4Time (v : Int) (w : World) (R : Value → World → Prop) : Prop :=
    (∃ (l1In : Bool),
    PureX [] Tryz.prog fn_spec_l1In #[.int .i64 v, .int .i64 0, .int .i64 100000000000000000] w (.bool l1In) ∧
    R (.bool l1In) w)
theorem v_spec_l4Time (v : Int) (w : World) (R : Value → World → Prop) : evFn c_spec_l4Time s_spec_l4Time [.int .i64 v] (bodyOf Tryz.f72) Tryz.f72.results.toList w R = V_spec_l4Time v w R := by kernel_rfl
theorem p_spec_l4Time (v : Int) {w : World} {bs : List Nat} {ret : Value} (hvc : ∀ wr0, ExtX bs w wr0 → V_spec_l4Time v wr0 fun v0 _ => v0 = ret) : PureX bs Tryz.prog fn_spec_l4Time #[.int .i64 v] w ret :=
  pure_of_ev (C := c_spec_l4Time) (sps := s_spec_l4Time) (body := bodyOf Tryz.f72) (env _ _ _ _ _) Tryz.func72 rfl rfl (of_decide_eq_true (by kernel_rfl)) (of_decide_eq_true (by kernel_rfl)) rfl rfl fun wr0 hx0 => by rw [v_spec_l4Time]; exact hvc wr0 hx0
noncomputable def c_spec_BandOk : Cfg := { P := Tryz.prog, T := tblGet tbl, pf := pfT, ef := efT, tt := ttT, vis := [], n := 93, pm := true, wr := false }
noncomputable def s_spec_BandOk : List (Nat × LSpec) := [(5, { chg := [(3, .int .i64), (4, .int .i64)], chgL := [], keep := [1] })]
def V_spec_BandOk (b0 : Int) (b1 : Int) (b2 : Int) (b3O : Option Addr) (b3L : Nat) (b3C : Nat) (b4O : Option Addr) (b4L : Nat) (b4C : Nat) (w : World) (R : Value → World → Prop) : Prop :=
    (∀ b, w.heap.size ≤ b →
    (∃ (l1In : Bool),
    PureX [] Tryz.prog fn_spec_l1In #[.int .i64 b0, .int .i64 1, .int .i64 10000] w (.bool l1In) ∧
    (∃ (l1In1 : Bool),
    ((!l1In) = false → PureX [] Tryz.prog fn_spec_l1In #[.int .i64 ((b3L : Nat) : Int), .int .i64 1, .int .i64 4] w (.bool l1In1)) ∧
    (∃ (l1In2 : Bool),
    ((((!l1In) || (!l1In1)) || (((b4L : Nat) : Int) != ((b3L : Nat) : Int))) = false → PureX [] Tryz.prog fn_spec_l1In #[.int .i64 b1, .int .i64 0, .int .i64 b0] w (.bool l1In2)) ∧
    (∃ (l1In3 : Bool),
    (((((!l1In) || (!l1In1)) || (((b4L : Nat) : Int) != ((b3L : Nat) : Int))) || (!l1In2)) = false → PureX [] Tryz.prog fn_spec_l1In #[.int .i64 b2, .int .i64 0, .int .i64 b0] w (.bool l1In3)) ∧
    ((((((!l1In) || (!l1In1)) || (((b4L : Nat) : Int) != ((b3L : Nat) : Int))) || (!l1In2)) || (!l1In3)) = true →
    R (.bool false) w) ∧
    ((((((!l1In) || (!l1In1)) || (((b4L : Nat) : Int) != ((b3L : Nat) : Int))) || (!l1In2)) || (!l1In3)) = false →
    InR .i64 (b1 + b2) ∧
    (∃ (xInv : List Value → Prop) (mu : List Value → Nat), xInv [.int .i64 (b1 + b2), .int .i64 0] ∧
    ∀ (sum : Int) (c : Int), xInv [.int .i64 sum, .int .i64 c] →
    ((decide (c < ((b3L : Nat) : Int))) = true →
    Ix b3O b3L c ∧
    (∃ (x : Int),
    CellsX [] w b3O (Int.toNat c * 1) [.int .i64 x] ∧
    (∃ (l1In4 : Bool),
    PureX [] Tryz.prog fn_spec_l1In #[.int .i64 x, .int .i64 0, .int .i64 b0] w (.bool l1In4) ∧
    ((!l1In4) = false → Ix b4O b4L c) ∧
    (∃ (x1 : Bool),
    ((!l1In4) = false → CellsX [] w b4O (Int.toNat c * 1) [.bool x1]) ∧
    (x1 = true → ((!l1In4) = false → Ix b3O b3L c)) ∧
    (∃ (x2 : Int),
    (x1 = true → ((!l1In4) = false → CellsX [] w b3O (Int.toNat c * 1) [.int .i64 x2])) ∧
    (((!l1In4) || (x1 && ((decide (x2 > 0)) || (decide (b1 > 0))))) = true →
    R (.bool false) w) ∧
    (((!l1In4) || (x1 && ((decide (x2 > 0)) || (decide (b1 > 0))))) = false →
    Ix b3O b3L c ∧
    (∃ (x3 : Int),
    CellsX [] w b3O (Int.toNat c * 1) [.int .i64 x3] ∧
    InR .i64 (sum + x3) ∧
    InR .i64 (c + 1) ∧
    xInv [.int .i64 (sum + x3), .int .i64 (c + 1)] ∧ mu [.int .i64 (sum + x3), .int .i64 (c + 1)] < mu [.int .i64 sum, .int .i64 c]))))))) ∧
    ((decide (c < ((b3L : Nat) : Int))) = false →
    R (.bool (sum == b0)) w))))))))
theorem v_spec_BandOk (b0 : Int) (b1 : Int) (b2 : Int) (b3O : Option Addr) (b3L : Nat) (b3C : Nat) (b4O : Option Addr) (b4L : Nat) (b4C : Nat) (w : World) (R : Value → World → Prop) : evFn c_spec_BandOk s_spec_BandOk [.agg #[.int .i64 b0, .int .i64 b1, .int .i64 b2, .slice b3O b3L b3C, .slice b4O b4L b4C]] (bodyOf Tryz.f73) Tryz.f73.results.toList w R = V_spec_BandOk b0 b1 b2 b3O b3L b3C b4O b4L b4C w R := by kernel_rfl
theorem p_spec_BandOk (b0 : Int) (b1 : Int) (b2 : Int) (b3O : Option Addr) (b3L : Nat) (b3C : Nat) (b4O : Option Addr) (b4L : Nat) (b4C : Nat) {w : World} {bs : List Nat} {ret : Value} (hvc : ∀ wr0, ExtX bs w wr0 → V_spec_BandOk b0 b1 b2 b3O b3L b3C b4O b4L b4C wr0 fun v0 _ => v0 = ret) : PureX bs Tryz.prog fn_spec_BandOk #[.agg #[.int .i64 b0, .int .i64 b1, .int .i64 b2, .slice b3O b3L b3C, .slice b4O b4L b4C]] w ret :=
  pure_of_ev (C := c_spec_BandOk) (sps := s_spec_BandOk) (body := bodyOf Tryz.f73) (env _ _ _ _ _) Tryz.func73 rfl rfl (of_decide_eq_true (by kernel_rfl)) (of_decide_eq_true (by kernel_rfl)) rfl rfl fun wr0 hx0 => by rw [v_spec_BandOk]; exact hvc wr0 hx0
noncomputable def c_spec_l8GroupOk : Cfg := { P := Tryz.prog, T := tblGet tbl, pf := pfT, ef := efT, tt := ttT, vis := [], n := 158, pm := true, wr := false }
noncomputable def s_spec_l8GroupOk : List (Nat × LSpec) := []
def V_spec_l8GroupOk (w0 : Int) (w1O : Option Addr) (w1L : Nat) (w1C : Nat) (w2O : Option Addr) (w2L : Nat) (w2C : Nat) (w3O : Option Addr) (w3L : Nat) (w3C : Nat) (k : Int) (w : World) (R : Value → World → Prop) : Prop :=
    (∀ b, w.heap.size ≤ b →
    Ix w3O w3L k ∧
    (∃ (x0 : Bool) (x1 : Int) (x2 : ByteArray) (x3 : Int) (x4 : Int) (x5 : Int) (x6 : Int) (x7 : Int) (x8 : Int) (x9 : Int) (x10 : Int) (x11O : Option Addr) (x11L : Nat) (x11C : Nat) (x12O : Option Addr) (x12L : Nat) (x12C : Nat) (x13O : Option Addr) (x13L : Nat) (x13C : Nat),
    CellsX [] w w3O (Int.toNat k * 14) [.bool x0, .int .i64 x1, .string x2, .int .i64 x3, .int .i64 x4, .int .i64 x5, .int .i64 x6, .int .i64 x7, .int .i64 x8, .int .i64 x9, .int .i64 x10, .slice x11O x11L x11C, .slice x12O x12L x12C, .slice x13O x13L x13C] ∧
    (∀ b1, w.heap.size ≤ b1 →
    ((!x0) = true →
    (∃ (l8NoBa : Bool),
    (((((((((x1 == 0) && (strEq x2 (ByteArray.mk [].toArray))) && (x3 == 0)) && (x4 == 0)) && (x5 == 0)) && (x6 == 0)) && (x7 == 0)) && (((x13L : Nat) : Int) == 0)) = true → PureX [] Tryz.prog fn_spec_l8NoBand #[.agg #[.int .i64 x8, .int .i64 x9, .int .i64 x10, .slice x11O x11L x11C, .slice x12O x12L x12C]] w (.bool l8NoBa)) ∧
    R (.bool (((((((((x1 == 0) && (strEq x2 (ByteArray.mk [].toArray))) && (x3 == 0)) && (x4 == 0)) && (x5 == 0)) && (x6 == 0)) && (x7 == 0)) && (((x13L : Nat) : Int) == 0)) && l8NoBa)) w)) ∧
    ((!x0) = false →
    (∃ (l1Weig : Bool),
    PureX [] Tryz.prog fn_spec_l1Weight #[.int .i64 x3] w (.bool l1Weig) ∧
    (∃ (xMaskOk : Bool),
    ((!l1Weig) = false → PureX [] Tryz.prog fn_spec_MaskOk #[.int .i64 x4] w (.bool xMaskOk)) ∧
    (∃ (l4Time : Bool),
    ((((!l1Weig) || (!xMaskOk)) || (x4 == 0)) = false → PureX [] Tryz.prog fn_spec_l4Time #[.int .i64 x7] w (.bool l4Time)) ∧
    ((((((!l1Weig) || (!xMaskOk)) || (x4 == 0)) || (!l4Time)) || (((x13L : Nat) : Int) != ((w1L : Nat) : Int))) = true →
    R (.bool false) w) ∧
    ((((((!l1Weig) || (!xMaskOk)) || (x4 == 0)) || (!l4Time)) || (((x13L : Nat) : Int) != ((w1L : Nat) : Int))) = false →
    (((k == 0) && (((x3 != 10) || (x4 != 15)) || (x8 != 0))) = true →
    R (.bool false) w) ∧
    (((k == 0) && (((x3 != 10) || (x4 != 15)) || (x8 != 0))) = false →
    ((x8 == 0) = true →
    (∃ (l8NoBa1 : Bool),
    PureX [] Tryz.prog fn_spec_l8NoBand #[.agg #[.int .i64 x8, .int .i64 x9, .int .i64 x10, .slice x11O x11L x11C, .slice x12O x12L x12C]] w (.bool l8NoBa1) ∧
    R (.bool ((l8NoBa1 && (x5 == 0)) && (x6 == 0))) w)) ∧
    ((x8 == 0) = false →
    (∃ (xBandOk : Bool),
    PureX [] Tryz.prog fn_spec_BandOk #[.agg #[.int .i64 x8, .int .i64 x9, .int .i64 x10, .slice x11O x11L x11C, .slice x12O x12L x12C]] w (.bool xBandOk) ∧
    (∃ (l1In : Bool),
    ((xBandOk && (((x11L : Nat) : Int) == ((w1L : Nat) : Int))) = true → PureX [] Tryz.prog fn_spec_l1In #[.int .i64 x5, .int .i64 1, .int .i64 1000] w (.bool l1In)) ∧
    ((((xBandOk && (((x11L : Nat) : Int) == ((w1L : Nat) : Int))) && l1In) && (decide (x6 > w0))) = true → InR .i64 (x6 - w0)) ∧
    R (.bool ((((xBandOk && (((x11L : Nat) : Int) == ((w1L : Nat) : Int))) && l1In) && (decide (x6 > w0))) && (decide (x6 - w0 ≤ x5)))) w))))))))))))
theorem v_spec_l8GroupOk (w0 : Int) (w1O : Option Addr) (w1L : Nat) (w1C : Nat) (w2O : Option Addr) (w2L : Nat) (w2C : Nat) (w3O : Option Addr) (w3L : Nat) (w3C : Nat) (k : Int) (w : World) (R : Value → World → Prop) : evFn c_spec_l8GroupOk s_spec_l8GroupOk [.agg #[.int .i64 w0, .slice w1O w1L w1C, .slice w2O w2L w2C, .slice w3O w3L w3C], .int .i64 k] (bodyOf Tryz.f38) Tryz.f38.results.toList w R = V_spec_l8GroupOk w0 w1O w1L w1C w2O w2L w2C w3O w3L w3C k w R := by kernel_rfl
theorem p_spec_l8GroupOk (w0 : Int) (w1O : Option Addr) (w1L : Nat) (w1C : Nat) (w2O : Option Addr) (w2L : Nat) (w2C : Nat) (w3O : Option Addr) (w3L : Nat) (w3C : Nat) (k : Int) {w : World} {bs : List Nat} {ret : Value} (hvc : ∀ wr0, ExtX bs w wr0 → V_spec_l8GroupOk w0 w1O w1L w1C w2O w2L w2C w3O w3L w3C k wr0 fun v0 _ => v0 = ret) : PureX bs Tryz.prog fn_spec_l8GroupOk #[.agg #[.int .i64 w0, .slice w1O w1L w1C, .slice w2O w2L w2C, .slice w3O w3L w3C], .int .i64 k] w ret :=
  pure_of_ev (C := c_spec_l8GroupOk) (sps := s_spec_l8GroupOk) (body := bodyOf Tryz.f38) (env _ _ _ _ _) Tryz.func38 rfl rfl (of_decide_eq_true (by kernel_rfl)) (of_decide_eq_true (by kernel_rfl)) rfl rfl fun wr0 hx0 => by rw [v_spec_l8GroupOk]; exact hvc wr0 hx0
noncomputable def c_spec_MaskHas : Cfg := { P := Tryz.prog, T := tblGet tbl, pf := pfT, ef := efT, tt := ttT, vis := [], n := 19, pm := true, wr := false }
noncomputable def s_spec_MaskHas : List (Nat × LSpec) := []
def V_spec_MaskHas (m : Int) (cpu : Int) (w : World) (R : Value → World → Prop) : Prop :=
    (∃ (xMaskOk : Bool),
    PureX [] Tryz.prog fn_spec_MaskOk #[.int .i64 m] w (.bool xMaskOk) ∧
    (∃ (l1In : Bool),
    (xMaskOk = true → PureX [] Tryz.prog fn_spec_l1In #[.int .i64 cpu, .int .i64 0, .int .i64 3] w (.bool l1In)) ∧
    ((xMaskOk && l1In) = true → InR .u64 cpu) ∧
    ((xMaskOk && l1In) = true → 0 ≤ cpu) ∧
    ((xMaskOk && l1In) = true → (2 : Int) ≠ 0) ∧
    R (.bool ((xMaskOk && l1In) && ((Int.tmod (Int.fdiv m (2 ^ (min (Int.toNat cpu) 64))) 2) == 1))) w))
theorem v_spec_MaskHas (m : Int) (cpu : Int) (w : World) (R : Value → World → Prop) : evFn c_spec_MaskHas s_spec_MaskHas [.int .i64 m, .int .i64 cpu] (bodyOf Tryz.f42) Tryz.f42.results.toList w R = V_spec_MaskHas m cpu w R := by kernel_rfl
theorem p_spec_MaskHas (m : Int) (cpu : Int) {w : World} {bs : List Nat} {ret : Value} (hvc : ∀ wr0, ExtX bs w wr0 → V_spec_MaskHas m cpu wr0 fun v0 _ => v0 = ret) : PureX bs Tryz.prog fn_spec_MaskHas #[.int .i64 m, .int .i64 cpu] w ret :=
  pure_of_ev (C := c_spec_MaskHas) (sps := s_spec_MaskHas) (body := bodyOf Tryz.f42) (env _ _ _ _ _) Tryz.func42 rfl rfl (of_decide_eq_true (by kernel_rfl)) (of_decide_eq_true (by kernel_rfl)) rfl rfl fun wr0 hx0 => by rw [v_spec_MaskHas]; exact hvc wr0 hx0
noncomputable def c_spec_WeightOf : Cfg := { P := Tryz.prog, T := tblGet tbl, pf := pfT, ef := efT, tt := ttT, vis := [], n := 8, pm := true, wr := false }
noncomputable def s_spec_WeightOf : List (Nat × LSpec) := []
def V_spec_WeightOf (nice : Int) (w : World) (R : Value → World → Prop) : Prop :=
    (∃ (l1In : Bool),
    PureX [] Tryz.prog fn_spec_l1In #[.int .i64 nice, .int .i64 (-10), .int .i64 9] w (.bool l1In) ∧
    ((!l1In) = true →
    R (.int .i64 0) w) ∧
    ((!l1In) = false →
    InR .i64 (10 - nice) ∧
    R (.int .i64 (10 - nice)) w))
theorem v_spec_WeightOf (nice : Int) (w : World) (R : Value → World → Prop) : evFn c_spec_WeightOf s_spec_WeightOf [.int .i64 nice] (bodyOf Tryz.f75) Tryz.f75.results.toList w R = V_spec_WeightOf nice w R := by kernel_rfl
theorem p_spec_WeightOf (nice : Int) {w : World} {bs : List Nat} {ret : Value} (hvc : ∀ wr0, ExtX bs w wr0 → V_spec_WeightOf nice wr0 fun v0 _ => v0 = ret) : PureX bs Tryz.prog fn_spec_WeightOf #[.int .i64 nice] w ret :=
  pure_of_ev (C := c_spec_WeightOf) (sps := s_spec_WeightOf) (body := bodyOf Tryz.f75) (env _ _ _ _ _) Tryz.func75 rfl rfl (of_decide_eq_true (by kernel_rfl)) (of_decide_eq_true (by kernel_rfl)) rfl rfl fun wr0 hx0 => by rw [v_spec_WeightOf]; exact hvc wr0 hx0
noncomputable def c_spec_MaskAnd : Cfg := { P := Tryz.prog, T := tblGet tbl, pf := pfT, ef := efT, tt := ttT, vis := [], n := 33, pm := true, wr := false }
noncomputable def s_spec_MaskAnd : List (Nat × LSpec) := [(5, { chg := [(5, .int .i64), (6, .int .i64)], chgL := [], keep := [0, 1] })]
def V_spec_MaskAnd (a : Int) (b : Int) (w : World) (R : Value → World → Prop) : Prop :=
    (∃ (xMaskOk : Bool),
    PureX [] Tryz.prog fn_spec_MaskOk #[.int .i64 a] w (.bool xMaskOk) ∧
    (∃ (xMaskOk1 : Bool),
    ((!xMaskOk) = false → PureX [] Tryz.prog fn_spec_MaskOk #[.int .i64 b] w (.bool xMaskOk1)) ∧
    (((!xMaskOk) || (!xMaskOk1)) = true →
    R (.int .i64 0) w) ∧
    (((!xMaskOk) || (!xMaskOk1)) = false →
    (∃ (xInv : List Value → Prop) (mu : List Value → Nat), xInv [.int .i64 0, .int .i64 0] ∧
    ∀ (m : Int) (c : Int), xInv [.int .i64 m, .int .i64 c] →
    ((decide (c < 4)) = true →
    (∃ (xMaskHa : Bool),
    PureX [] Tryz.prog fn_spec_MaskHas #[.int .i64 a, .int .i64 c] w (.bool xMaskHa) ∧
    (∃ (xMaskHa1 : Bool),
    (xMaskHa = true → PureX [] Tryz.prog fn_spec_MaskHas #[.int .i64 b, .int .i64 c] w (.bool xMaskHa1)) ∧
    ((xMaskHa && xMaskHa1) = true →
    InR .u64 c ∧
    (0 ≤ c ∧ InR .i64 (1 * 2 ^ (min (Int.toNat c) 64))) ∧
    InR .i64 (m + (1 * 2 ^ (min (Int.toNat c) 64))) ∧
    InR .i64 (c + 1) ∧
    xInv [.int .i64 (m + (1 * 2 ^ (min (Int.toNat c) 64))), .int .i64 (c + 1)] ∧ mu [.int .i64 (m + (1 * 2 ^ (min (Int.toNat c) 64))), .int .i64 (c + 1)] < mu [.int .i64 m, .int .i64 c]) ∧
    ((xMaskHa && xMaskHa1) = false →
    InR .i64 (c + 1) ∧
    xInv [.int .i64 m, .int .i64 (c + 1)] ∧ mu [.int .i64 m, .int .i64 (c + 1)] < mu [.int .i64 m, .int .i64 c])))) ∧
    ((decide (c < 4)) = false →
    R (.int .i64 m) w)))))
theorem v_spec_MaskAnd (a : Int) (b : Int) (w : World) (R : Value → World → Prop) : evFn c_spec_MaskAnd s_spec_MaskAnd [.int .i64 a, .int .i64 b] (bodyOf Tryz.f115) Tryz.f115.results.toList w R = V_spec_MaskAnd a b w R := by kernel_rfl
theorem p_spec_MaskAnd (a : Int) (b : Int) {w : World} {bs : List Nat} {ret : Value} (hvc : ∀ wr0, ExtX bs w wr0 → V_spec_MaskAnd a b wr0 fun v0 _ => v0 = ret) : PureX bs Tryz.prog fn_spec_MaskAnd #[.int .i64 a, .int .i64 b] w ret :=
  pure_of_ev (C := c_spec_MaskAnd) (sps := s_spec_MaskAnd) (body := bodyOf Tryz.f115) (env _ _ _ _ _) Tryz.func115 rfl rfl (of_decide_eq_true (by kernel_rfl)) (of_decide_eq_true (by kernel_rfl)) rfl rfl fun wr0 hx0 => by rw [v_spec_MaskAnd]; exact hvc wr0 hx0
noncomputable def c_spec_l8Pins : Cfg := { P := Tryz.prog, T := tblGet tbl, pf := pfT, ef := efT, tt := ttT, vis := [], n := 29, pm := true, wr := false }
noncomputable def s_spec_l8Pins : List (Nat × LSpec) := [(2, { chg := [(1, .int .i64), (5, .int .i64)], chgL := [], keep := [2] })]
def V_spec_l8Pins (w0 : Int) (w1O : Option Addr) (w1L : Nat) (w1C : Nat) (w2O : Option Addr) (w2L : Nat) (w2C : Nat) (w3O : Option Addr) (w3L : Nat) (w3C : Nat) (g : Int) (w : World) (R : Value → World → Prop) : Prop :=
    (∀ b, w.heap.size ≤ b →
    Ix w3O w3L g ∧
    (∃ (cpus : Int),
    CellsX [] w w3O (Int.toNat g * 14 + 4) [.int .i64 cpus] ∧
    (∃ (xInv : List Value → Prop) (mu : List Value → Nat), xInv [.int .i64 g, .int .i64 cpus] ∧
    ∀ (g1 : Int) (m : Int), xInv [.int .i64 g1, .int .i64 m] →
    ((g1 != 0) = true →
    Ix w3O w3L g1 ∧
    (∃ (parent : Int),
    CellsX [] w w3O (Int.toNat g1 * 14 + 1) [.int .i64 parent] ∧
    Ix w3O w3L parent ∧
    (∃ (cpus1 : Int),
    CellsX [] w w3O (Int.toNat parent * 14 + 4) [.int .i64 cpus1] ∧
    (∃ (xMaskAn : Int),
    PureX [] Tryz.prog fn_spec_MaskAnd #[.int .i64 m, .int .i64 cpus1] w (.int .i64 xMaskAn) ∧
    xInv [.int .i64 parent, .int .i64 xMaskAn] ∧ mu [.int .i64 parent, .int .i64 xMaskAn] < mu [.int .i64 g1, .int .i64 m])))) ∧
    ((g1 != 0) = false →
    R (.int .i64 m) w))))
theorem v_spec_l8Pins (w0 : Int) (w1O : Option Addr) (w1L : Nat) (w1C : Nat) (w2O : Option Addr) (w2L : Nat) (w2C : Nat) (w3O : Option Addr) (w3L : Nat) (w3C : Nat) (g : Int) (w : World) (R : Value → World → Prop) : evFn c_spec_l8Pins s_spec_l8Pins [.agg #[.int .i64 w0, .slice w1O w1L w1C, .slice w2O w2L w2C, .slice w3O w3L w3C], .int .i64 g] (bodyOf Tryz.f116) Tryz.f116.results.toList w R = V_spec_l8Pins w0 w1O w1L w1C w2O w2L w2C w3O w3L w3C g w R := by kernel_rfl
theorem p_spec_l8Pins (w0 : Int) (w1O : Option Addr) (w1L : Nat) (w1C : Nat) (w2O : Option Addr) (w2L : Nat) (w2C : Nat) (w3O : Option Addr) (w3L : Nat) (w3C : Nat) (g : Int) {w : World} {bs : List Nat} {ret : Value} (hvc : ∀ wr0, ExtX bs w wr0 → V_spec_l8Pins w0 w1O w1L w1C w2O w2L w2C w3O w3L w3C g wr0 fun v0 _ => v0 = ret) : PureX bs Tryz.prog fn_spec_l8Pins #[.agg #[.int .i64 w0, .slice w1O w1L w1C, .slice w2O w2L w2C, .slice w3O w3L w3C], .int .i64 g] w ret :=
  pure_of_ev (C := c_spec_l8Pins) (sps := s_spec_l8Pins) (body := bodyOf Tryz.f116) (env _ _ _ _ _) Tryz.func116 rfl rfl (of_decide_eq_true (by kernel_rfl)) (of_decide_eq_true (by kernel_rfl)) rfl rfl fun wr0 hx0 => by rw [v_spec_l8Pins]; exact hvc wr0 hx0
noncomputable def c_spec_l8Where : Cfg := { P := Tryz.prog, T := tblGet tbl, pf := pfT, ef := efT, tt := ttT, vis := [], n := 27, pm := true, wr := false }
noncomputable def s_spec_l8Where : List (Nat × LSpec) := []
def V_spec_l8Where (w0 : Int) (w1O : Option Addr) (w1L : Nat) (w1C : Nat) (w2O : Option Addr) (w2L : Nat) (w2C : Nat) (w3O : Option Addr) (w3L : Nat) (w3C : Nat) (g : Int) (mask : Int) (w : World) (R : Value → World → Prop) : Prop :=
    (∀ b, w.heap.size ≤ b →
    (∃ (l8Ups : Int),
    PureX [] Tryz.prog fn_spec_l8Ups #[.agg #[.int .i64 w0, .slice w1O w1L w1C, .slice w2O w2L w2C, .slice w3O w3L w3C]] w (.int .i64 l8Ups) ∧
    (∃ (l8Pins : Int),
    PureX [] Tryz.prog fn_spec_l8Pins #[.agg #[.int .i64 w0, .slice w1O w1L w1C, .slice w2O w2L w2C, .slice w3O w3L w3C], .int .i64 g] w (.int .i64 l8Pins) ∧
    (∃ (xMaskAn : Int),
    PureX [] Tryz.prog fn_spec_MaskAnd #[.int .i64 l8Pins, .int .i64 l8Ups] w (.int .i64 xMaskAn) ∧
    (∃ (xMaskAn1 : Int),
    PureX [] Tryz.prog fn_spec_MaskAnd #[.int .i64 mask, .int .i64 xMaskAn] w (.int .i64 xMaskAn1) ∧
    ((xMaskAn1 != 0) = true →
    R (.int .i64 xMaskAn1) w) ∧
    ((xMaskAn1 != 0) = false →
    ((xMaskAn != 0) = true →
    R (.int .i64 xMaskAn) w) ∧
    ((xMaskAn != 0) = false →
    R (.int .i64 l8Ups) w)))))))
theorem v_spec_l8Where (w0 : Int) (w1O : Option Addr) (w1L : Nat) (w1C : Nat) (w2O : Option Addr) (w2L : Nat) (w2C : Nat) (w3O : Option Addr) (w3L : Nat) (w3C : Nat) (g : Int) (mask : Int) (w : World) (R : Value → World → Prop) : evFn c_spec_l8Where s_spec_l8Where [.agg #[.int .i64 w0, .slice w1O w1L w1C, .slice w2O w2L w2C, .slice w3O w3L w3C], .int .i64 g, .int .i64 mask] (bodyOf Tryz.f76) Tryz.f76.results.toList w R = V_spec_l8Where w0 w1O w1L w1C w2O w2L w2C w3O w3L w3C g mask w R := by kernel_rfl
theorem p_spec_l8Where (w0 : Int) (w1O : Option Addr) (w1L : Nat) (w1C : Nat) (w2O : Option Addr) (w2L : Nat) (w2C : Nat) (w3O : Option Addr) (w3L : Nat) (w3C : Nat) (g : Int) (mask : Int) {w : World} {bs : List Nat} {ret : Value} (hvc : ∀ wr0, ExtX bs w wr0 → V_spec_l8Where w0 w1O w1L w1C w2O w2L w2C w3O w3L w3C g mask wr0 fun v0 _ => v0 = ret) : PureX bs Tryz.prog fn_spec_l8Where #[.agg #[.int .i64 w0, .slice w1O w1L w1C, .slice w2O w2L w2C, .slice w3O w3L w3C], .int .i64 g, .int .i64 mask] w ret :=
  pure_of_ev (C := c_spec_l8Where) (sps := s_spec_l8Where) (body := bodyOf Tryz.f76) (env _ _ _ _ _) Tryz.func76 rfl rfl (of_decide_eq_true (by kernel_rfl)) (of_decide_eq_true (by kernel_rfl)) rfl rfl fun wr0 hx0 => by rw [v_spec_l8Where]; exact hvc wr0 hx0
noncomputable def c_spec_VirtualStep : Cfg := { P := Tryz.prog, T := tblGet tbl, pf := pfT, ef := efT, tt := ttT, vis := [], n := 17, pm := true, wr := false }
noncomputable def s_spec_VirtualStep : List (Nat × LSpec) := []
def V_spec_VirtualStep (units : Int) (weight : Int) (w : World) (R : Value → World → Prop) : Prop :=
    (∃ (l1Weig : Bool),
    PureX [] Tryz.prog fn_spec_l1Weight #[.int .i64 weight] w (.bool l1Weig) ∧
    (∃ (l1In : Bool),
    ((!l1Weig) = false → PureX [] Tryz.prog fn_spec_l1In #[.int .i64 units, .int .i64 0, .int .i64 100000000] w (.bool l1In)) ∧
    (((!l1Weig) || (!l1In)) = true →
    R (.int .i64 0) w) ∧
    (((!l1Weig) || (!l1In)) = false →
    (weight ≠ 0 ∧ InR .i64 (Int.tdiv 232792560 weight)) ∧
    InR .i64 (units * (Int.tdiv 232792560 weight)) ∧
    R (.int .i64 (units * (Int.tdiv 232792560 weight))) w)))
theorem v_spec_VirtualStep (units : Int) (weight : Int) (w : World) (R : Value → World → Prop) : evFn c_spec_VirtualStep s_spec_VirtualStep [.int .i64 units, .int .i64 weight] (bodyOf Tryz.f119) Tryz.f119.results.toList w R = V_spec_VirtualStep units weight w R := by kernel_rfl
theorem p_spec_VirtualStep (units : Int) (weight : Int) {w : World} {bs : List Nat} {ret : Value} (hvc : ∀ wr0, ExtX bs w wr0 → V_spec_VirtualStep units weight wr0 fun v0 _ => v0 = ret) : PureX bs Tryz.prog fn_spec_VirtualStep #[.int .i64 units, .int .i64 weight] w ret :=
  pure_of_ev (C := c_spec_VirtualStep) (sps := s_spec_VirtualStep) (body := bodyOf Tryz.f119) (env _ _ _ _ _) Tryz.func119 rfl rfl (of_decide_eq_true (by kernel_rfl)) (of_decide_eq_true (by kernel_rfl)) rfl rfl fun wr0 hx0 => by rw [v_spec_VirtualStep]; exact hvc wr0 hx0
noncomputable def c_spec_LagMost : Cfg := { P := Tryz.prog, T := tblGet tbl, pf := pfT, ef := efT, tt := ttT, vis := [], n := 5, pm := true, wr := false }
noncomputable def s_spec_LagMost : List (Nat × LSpec) := []
def V_spec_LagMost (weight : Int) (w : World) (R : Value → World → Prop) : Prop :=
    (∃ (xVirtua : Int),
    PureX [] Tryz.prog fn_spec_VirtualStep #[.int .i64 149, .int .i64 weight] w (.int .i64 xVirtua) ∧
    R (.int .i64 xVirtua) w)
theorem v_spec_LagMost (weight : Int) (w : World) (R : Value → World → Prop) : evFn c_spec_LagMost s_spec_LagMost [.int .i64 weight] (bodyOf Tryz.f117) Tryz.f117.results.toList w R = V_spec_LagMost weight w R := by kernel_rfl
theorem p_spec_LagMost (weight : Int) {w : World} {bs : List Nat} {ret : Value} (hvc : ∀ wr0, ExtX bs w wr0 → V_spec_LagMost weight wr0 fun v0 _ => v0 = ret) : PureX bs Tryz.prog fn_spec_LagMost #[.int .i64 weight] w ret :=
  pure_of_ev (C := c_spec_LagMost) (sps := s_spec_LagMost) (body := bodyOf Tryz.f117) (env _ _ _ _ _) Tryz.func117 rfl rfl (of_decide_eq_true (by kernel_rfl)) (of_decide_eq_true (by kernel_rfl)) rfl rfl fun wr0 hx0 => by rw [v_spec_LagMost]; exact hvc wr0 hx0
noncomputable def c_spec_l8Stand : Cfg := { P := Tryz.prog, T := tblGet tbl, pf := pfT, ef := efT, tt := ttT, vis := [], n := 18, pm := true, wr := true }
noncomputable def s_spec_l8Stand : List (Nat × LSpec) := []
def V_spec_l8Stand (v : Int) (floor : Int) (weight : Int) (w : World) (R : Value → World → Prop) : Prop :=
    (∃ (d : Int),
    ((decide (v ≥ floor)) = true → (∀ wq, ((do eqGuard .sub ty_int (.tmp 11) (.tmp 12) (.int .i64 v) (.int .i64 floor); binOp .sub ty_int (.int .i64 v) (.int .i64 floor)) : Sem Value).run Tryz.prog wq = .ok (.int .i64 d) wq)) ∧
    (∃ (xLagMos : Int),
    ((decide (v ≥ floor)) = true → PureX [] Tryz.prog fn_spec_LagMost #[.int .i64 weight] w (.int .i64 xLagMos)) ∧
    R (.bool ((decide (v ≥ floor)) && (decide (d ≤ xLagMos)))) w))
theorem v_spec_l8Stand (v : Int) (floor : Int) (weight : Int) (w : World) (R : Value → World → Prop) : evFn c_spec_l8Stand s_spec_l8Stand [.int .i64 v, .int .i64 floor, .int .i64 weight] (bodyOf Tryz.f77) Tryz.f77.results.toList w R = V_spec_l8Stand v floor weight w R := by kernel_rfl
theorem p_spec_l8Stand (v : Int) (floor : Int) (weight : Int) {w : World} {bs : List Nat} {ret : Value} (hvc : ∀ wr0, ExtX bs w wr0 → V_spec_l8Stand v floor weight wr0 fun v0 _ => v0 = ret) : PureX bs Tryz.prog fn_spec_l8Stand #[.int .i64 v, .int .i64 floor, .int .i64 weight] w ret :=
  pure_of_ev (C := c_spec_l8Stand) (sps := s_spec_l8Stand) (body := bodyOf Tryz.f77) (env _ _ _ _ _) Tryz.func77 rfl rfl (of_decide_eq_true (by kernel_rfl)) (of_decide_eq_true (by kernel_rfl)) rfl rfl fun wr0 hx0 => by rw [v_spec_l8Stand]; exact hvc wr0 hx0
noncomputable def c_spec_l8TaskOk : Cfg := { P := Tryz.prog, T := tblGet tbl, pf := pfT, ef := efT, tt := ttT, vis := [], n := 107, pm := true, wr := false }
noncomputable def s_spec_l8TaskOk : List (Nat × LSpec) := []
def V_spec_l8TaskOk (w0 : Int) (w1O : Option Addr) (w1L : Nat) (w1C : Nat) (w2O : Option Addr) (w2L : Nat) (w2C : Nat) (w3O : Option Addr) (w3L : Nat) (w3C : Nat) (t : Int) (w : World) (R : Value → World → Prop) : Prop :=
    (∀ b, w.heap.size ≤ b →
    Ix w2O w2L t ∧
    (∃ (x0 : Int) (x1 : Int) (x2 : Int) (x3 : Int) (x4 : Int) (x5 : Int) (x6 : Int) (x7 : Int) (x8 : Int),
    CellsX [] w w2O (Int.toNat t * 9) [.int .i64 x0, .int .i64 x1, .int .i64 x2, .int .i64 x3, .int .i64 x4, .int .i64 x5, .int .i64 x6, .int .i64 x7, .int .i64 x8] ∧
    (∀ b1, w.heap.size ≤ b1 →
    ((x0 == 0) = true →
    (∃ (eq : Bool),
    (∀ wq, ((do eqGuard .eql ty_impl_Task (.tmp 14) (.tmp 15) (.agg #[.int .i64 x0, .int .i64 x1, .int .i64 x2, .int .i64 x3, .int .i64 x4, .int .i64 x5, .int .i64 x6, .int .i64 x7, .int .i64 x8]) (.agg #[.int .i64 0, .int .i64 0, .int .i64 0, .int .i64 0, .int .i64 0, .int .i64 0, .int .i64 0, .int .i64 0, .int .i64 0]); binOp .eql ty_impl_Task (.agg #[.int .i64 x0, .int .i64 x1, .int .i64 x2, .int .i64 x3, .int .i64 x4, .int .i64 x5, .int .i64 x6, .int .i64 x7, .int .i64 x8]) (.agg #[.int .i64 0, .int .i64 0, .int .i64 0, .int .i64 0, .int .i64 0, .int .i64 0, .int .i64 0, .int .i64 0, .int .i64 0])) : Sem Value).run Tryz.prog wq = .ok (.bool eq) wq) ∧
    R (.bool eq) w)) ∧
    ((x0 == 0) = false →
    (∃ (l6Used : Bool),
    (((x0 != 1) && (x0 != 2)) = false → PureX [] Tryz.prog fn_spec_l6Used #[.slice w3O w3L w3C, .int .i64 x1] w (.bool l6Used)) ∧
    (∃ (xWeight : Int),
    ((((x0 != 1) && (x0 != 2)) || (!l6Used)) = false → PureX [] Tryz.prog fn_spec_WeightOf #[.int .i64 x3] w (.int .i64 xWeight)) ∧
    (∃ (xMaskOk : Bool),
    (((((x0 != 1) && (x0 != 2)) || (!l6Used)) || (xWeight == 0)) = false → PureX [] Tryz.prog fn_spec_MaskOk #[.int .i64 x4] w (.bool xMaskOk)) ∧
    (((((((x0 != 1) && (x0 != 2)) || (!l6Used)) || (xWeight == 0)) || (!xMaskOk)) || (x4 == 0)) = true →
    R (.bool false) w) ∧
    (((((((x0 != 1) && (x0 != 2)) || (!l6Used)) || (xWeight == 0)) || (!xMaskOk)) || (x4 == 0)) = false →
    (∃ (l4Time : Bool),
    PureX [] Tryz.prog fn_spec_l4Time #[.int .i64 x5] w (.bool l4Time) ∧
    (∃ (l4Time1 : Bool),
    ((!l4Time) = false → PureX [] Tryz.prog fn_spec_l4Time #[.int .i64 x6] w (.bool l4Time1)) ∧
    (∃ (l4Time2 : Bool),
    (((!l4Time) || (!l4Time1)) = false → PureX [] Tryz.prog fn_spec_l4Time #[.int .i64 x7] w (.bool l4Time2)) ∧
    (∃ (l1In : Bool),
    ((((!l4Time) || (!l4Time1)) || (!l4Time2)) = false → PureX [] Tryz.prog fn_spec_l1In #[.int .i64 x8, .int .i64 0, .int .i64 8000000] w (.bool l1In)) ∧
    (∃ (l8Wher : Int),
    (((((!l4Time) || (!l4Time1)) || (!l4Time2)) || (!l1In)) = false → PureX [] Tryz.prog fn_spec_l8Where #[.agg #[.int .i64 w0, .slice w1O w1L w1C, .slice w2O w2L w2C, .slice w3O w3L w3C], .int .i64 x1, .int .i64 x4] w (.int .i64 l8Wher)) ∧
    (∃ (xMaskHa : Bool),
    (((((!l4Time) || (!l4Time1)) || (!l4Time2)) || (!l1In)) = false → PureX [] Tryz.prog fn_spec_MaskHas #[.int .i64 l8Wher, .int .i64 x2] w (.bool xMaskHa)) ∧
    ((((((!l4Time) || (!l4Time1)) || (!l4Time2)) || (!l1In)) || (!xMaskHa)) = true →
    R (.bool false) w) ∧
    ((((((!l4Time) || (!l4Time1)) || (!l4Time2)) || (!l1In)) || (!xMaskHa)) = false →
    ((x0 == 2) = false → Ix w3O w3L x1) ∧
    (∃ (shelvesO : Option Addr) (shelvesL : Nat) (shelvesC : Nat),
    ((x0 == 2) = false → CellsX [] w w3O (Int.toNat x1 * 14 + 13) [.slice shelvesO shelvesL shelvesC]) ∧
    ((x0 == 2) = false → Ix shelvesO shelvesL x2) ∧
    (∃ (floor : Int),
    ((x0 == 2) = false → CellsX [] w shelvesO (Int.toNat x2 * 5 + 0) [.int .i64 floor]) ∧
    (∃ (xWeight1 : Int),
    ((x0 == 2) = false → PureX [] Tryz.prog fn_spec_WeightOf #[.int .i64 x3] w (.int .i64 xWeight1)) ∧
    (∃ (l8Stan : Bool),
    ((x0 == 2) = false → PureX [] Tryz.prog fn_spec_l8Stand #[.int .i64 x5, .int .i64 floor, .int .i64 xWeight1] w (.bool l8Stan)) ∧
    R (.bool ((x0 == 2) || l8Stan)) w)))))))))))))))))))
theorem v_spec_l8TaskOk (w0 : Int) (w1O : Option Addr) (w1L : Nat) (w1C : Nat) (w2O : Option Addr) (w2L : Nat) (w2C : Nat) (w3O : Option Addr) (w3L : Nat) (w3C : Nat) (t : Int) (w : World) (R : Value → World → Prop) : evFn c_spec_l8TaskOk s_spec_l8TaskOk [.agg #[.int .i64 w0, .slice w1O w1L w1C, .slice w2O w2L w2C, .slice w3O w3L w3C], .int .i64 t] (bodyOf Tryz.f39) Tryz.f39.results.toList w R = V_spec_l8TaskOk w0 w1O w1L w1C w2O w2L w2C w3O w3L w3C t w R := by kernel_rfl
theorem p_spec_l8TaskOk (w0 : Int) (w1O : Option Addr) (w1L : Nat) (w1C : Nat) (w2O : Option Addr) (w2L : Nat) (w2C : Nat) (w3O : Option Addr) (w3L : Nat) (w3C : Nat) (t : Int) {w : World} {bs : List Nat} {ret : Value} (hvc : ∀ wr0, ExtX bs w wr0 → V_spec_l8TaskOk w0 w1O w1L w1C w2O w2L w2C w3O w3L w3C t wr0 fun v0 _ => v0 = ret) : PureX bs Tryz.prog fn_spec_l8TaskOk #[.agg #[.int .i64 w0, .slice w1O w1L w1C, .slice w2O w2L w2C, .slice w3O w3L w3C], .int .i64 t] w ret :=
  pure_of_ev (C := c_spec_l8TaskOk) (sps := s_spec_l8TaskOk) (body := bodyOf Tryz.f39) (env _ _ _ _ _) Tryz.func39 rfl rfl (of_decide_eq_true (by kernel_rfl)) (of_decide_eq_true (by kernel_rfl)) rfl rfl fun wr0 hx0 => by rw [v_spec_l8TaskOk]; exact hvc wr0 hx0
noncomputable def c_spec_l8Queued : Cfg := { P := Tryz.prog, T := tblGet tbl, pf := pfT, ef := efT, tt := ttT, vis := [], n := 17, pm := true, wr := false }
noncomputable def s_spec_l8Queued : List (Nat × LSpec) := []
def V_spec_l8Queued (w0 : Int) (w1O : Option Addr) (w1L : Nat) (w1C : Nat) (w2O : Option Addr) (w2L : Nat) (w2C : Nat) (w3O : Option Addr) (w3L : Nat) (w3C : Nat) (g : Int) (c : Int) (w : World) (R : Value → World → Prop) : Prop :=
    (∀ b, w.heap.size ≤ b →
    Ix w3O w3L g ∧
    (∃ (shelvesO : Option Addr) (shelvesL : Nat) (shelvesC : Nat),
    CellsX [] w w3O (Int.toNat g * 14 + 13) [.slice shelvesO shelvesL shelvesC] ∧
    Ix shelvesO shelvesL c ∧
    (∃ (onv : Bool),
    CellsX [] w shelvesO (Int.toNat c * 5 + 1) [.bool onv] ∧
    R (.bool onv) w)))
theorem v_spec_l8Queued (w0 : Int) (w1O : Option Addr) (w1L : Nat) (w1C : Nat) (w2O : Option Addr) (w2L : Nat) (w2C : Nat) (w3O : Option Addr) (w3L : Nat) (w3C : Nat) (g : Int) (c : Int) (w : World) (R : Value → World → Prop) : evFn c_spec_l8Queued s_spec_l8Queued [.agg #[.int .i64 w0, .slice w1O w1L w1C, .slice w2O w2L w2C, .slice w3O w3L w3C], .int .i64 g, .int .i64 c] (bodyOf Tryz.f118) Tryz.f118.results.toList w R = V_spec_l8Queued w0 w1O w1L w1C w2O w2L w2C w3O w3L w3C g c w R := by kernel_rfl
theorem p_spec_l8Queued (w0 : Int) (w1O : Option Addr) (w1L : Nat) (w1C : Nat) (w2O : Option Addr) (w2L : Nat) (w2C : Nat) (w3O : Option Addr) (w3L : Nat) (w3C : Nat) (g : Int) (c : Int) {w : World} {bs : List Nat} {ret : Value} (hvc : ∀ wr0, ExtX bs w wr0 → V_spec_l8Queued w0 w1O w1L w1C w2O w2L w2C w3O w3L w3C g c wr0 fun v0 _ => v0 = ret) : PureX bs Tryz.prog fn_spec_l8Queued #[.agg #[.int .i64 w0, .slice w1O w1L w1C, .slice w2O w2L w2C, .slice w3O w3L w3C], .int .i64 g, .int .i64 c] w ret :=
  pure_of_ev (C := c_spec_l8Queued) (sps := s_spec_l8Queued) (body := bodyOf Tryz.f118) (env _ _ _ _ _) Tryz.func118 rfl rfl (of_decide_eq_true (by kernel_rfl)) (of_decide_eq_true (by kernel_rfl)) rfl rfl fun wr0 hx0 => by rw [v_spec_l8Queued]; exact hvc wr0 hx0
noncomputable def c_spec_l8Active : Cfg := { P := Tryz.prog, T := tblGet tbl, pf := pfT, ef := efT, tt := ttT, vis := [], n := 72, pm := true, wr := false }
noncomputable def s_spec_l8Active : List (Nat × LSpec) := [(2, { chg := [(7, .int .i64)], chgL := [], keep := [1, 2, 3] }), (7, { chg := [(8, .int .i64)], chgL := [], keep := [1, 2, 3] })]
def V_spec_l8Active (w0 : Int) (w1O : Option Addr) (w1L : Nat) (w1C : Nat) (w2O : Option Addr) (w2L : Nat) (w2C : Nat) (w3O : Option Addr) (w3L : Nat) (w3C : Nat) (g : Int) (c : Int) (w : World) (R : Value → World → Prop) : Prop :=
    (∀ b, w.heap.size ≤ b →
    (∃ (xInv : List Value → Prop) (mu : List Value → Nat), xInv [.int .i64 0] ∧
    ∀ (t : Int), xInv [.int .i64 t] →
    ((decide (t < ((w2L : Nat) : Int))) = true →
    Ix w2O w2L t ∧
    (∃ (state : Int),
    CellsX [] w w2O (Int.toNat t * 9 + 0) [.int .i64 state] ∧
    ((state == 1) = true → Ix w2O w2L t) ∧
    (∃ (group : Int),
    ((state == 1) = true → CellsX [] w w2O (Int.toNat t * 9 + 1) [.int .i64 group]) ∧
    (((state == 1) && (group == g)) = true → Ix w2O w2L t) ∧
    (∃ (cpu : Int),
    (((state == 1) && (group == g)) = true → CellsX [] w w2O (Int.toNat t * 9 + 2) [.int .i64 cpu]) ∧
    ((((state == 1) && (group == g)) && (cpu == c)) = true →
    R (.bool true) w) ∧
    ((((state == 1) && (group == g)) && (cpu == c)) = false →
    InR .i64 (t + 1) ∧
    xInv [.int .i64 (t + 1)] ∧ mu [.int .i64 (t + 1)] < mu [.int .i64 t]))))) ∧
    ((decide (t < ((w2L : Nat) : Int))) = false →
    (∃ (xInv1 : List Value → Prop) (mu1 : List Value → Nat), xInv1 [.int .i64 1] ∧
    ∀ (h : Int), xInv1 [.int .i64 h] →
    ((decide (h < ((w3L : Nat) : Int))) = true →
    Ix w3O w3L h ∧
    (∃ (used : Bool),
    CellsX [] w w3O (Int.toNat h * 14 + 0) [.bool used] ∧
    (used = true → Ix w3O w3L h) ∧
    (∃ (parent : Int),
    (used = true → CellsX [] w w3O (Int.toNat h * 14 + 1) [.int .i64 parent]) ∧
    (∃ (l8Queu : Bool),
    ((used && (parent == g)) = true → PureX [] Tryz.prog fn_spec_l8Queued #[.agg #[.int .i64 w0, .slice w1O w1L w1C, .slice w2O w2L w2C, .slice w3O w3L w3C], .int .i64 h, .int .i64 c] w (.bool l8Queu)) ∧
    (((used && (parent == g)) && l8Queu) = true →
    R (.bool true) w) ∧
    (((used && (parent == g)) && l8Queu) = false →
    InR .i64 (h + 1) ∧
    xInv1 [.int .i64 (h + 1)] ∧ mu1 [.int .i64 (h + 1)] < mu1 [.int .i64 h]))))) ∧
    ((decide (h < ((w3L : Nat) : Int))) = false →
    R (.bool false) w)))))
theorem v_spec_l8Active (w0 : Int) (w1O : Option Addr) (w1L : Nat) (w1C : Nat) (w2O : Option Addr) (w2L : Nat) (w2C : Nat) (w3O : Option Addr) (w3L : Nat) (w3C : Nat) (g : Int) (c : Int) (w : World) (R : Value → World → Prop) : evFn c_spec_l8Active s_spec_l8Active [.agg #[.int .i64 w0, .slice w1O w1L w1C, .slice w2O w2L w2C, .slice w3O w3L w3C], .int .i64 g, .int .i64 c] (bodyOf Tryz.f78) Tryz.f78.results.toList w R = V_spec_l8Active w0 w1O w1L w1C w2O w2L w2C w3O w3L w3C g c w R := by kernel_rfl
theorem p_spec_l8Active (w0 : Int) (w1O : Option Addr) (w1L : Nat) (w1C : Nat) (w2O : Option Addr) (w2L : Nat) (w2C : Nat) (w3O : Option Addr) (w3L : Nat) (w3C : Nat) (g : Int) (c : Int) {w : World} {bs : List Nat} {ret : Value} (hvc : ∀ wr0, ExtX bs w wr0 → V_spec_l8Active w0 w1O w1L w1C w2O w2L w2C w3O w3L w3C g c wr0 fun v0 _ => v0 = ret) : PureX bs Tryz.prog fn_spec_l8Active #[.agg #[.int .i64 w0, .slice w1O w1L w1C, .slice w2O w2L w2C, .slice w3O w3L w3C], .int .i64 g, .int .i64 c] w ret :=
  pure_of_ev (C := c_spec_l8Active) (sps := s_spec_l8Active) (body := bodyOf Tryz.f78) (env _ _ _ _ _) Tryz.func78 rfl rfl (of_decide_eq_true (by kernel_rfl)) (of_decide_eq_true (by kernel_rfl)) rfl rfl fun wr0 hx0 => by rw [v_spec_l8Active]; exact hvc wr0 hx0
noncomputable def c_spec_l8Dry : Cfg := { P := Tryz.prog, T := tblGet tbl, pf := pfT, ef := efT, tt := ttT, vis := [], n := 24, pm := true, wr := false }
noncomputable def s_spec_l8Dry : List (Nat × LSpec) := []
def V_spec_l8Dry (w0 : Int) (w1O : Option Addr) (w1L : Nat) (w1C : Nat) (w2O : Option Addr) (w2L : Nat) (w2C : Nat) (w3O : Option Addr) (w3L : Nat) (w3C : Nat) (g : Int) (c : Int) (w : World) (R : Value → World → Prop) : Prop :=
    (∀ b, w.heap.size ≤ b →
    Ix w3O w3L g ∧
    (∃ (band0 : Int) (band1 : Int) (band2 : Int) (band3O : Option Addr) (band3L : Nat) (band3C : Nat) (band4O : Option Addr) (band4L : Nat) (band4C : Nat),
    CellsX [] w w3O (Int.toNat g * 14 + 8) [.int .i64 band0, .int .i64 band1, .int .i64 band2, .slice band3O band3L band3C, .slice band4O band4L band4C] ∧
    (∀ b1, w.heap.size ≤ b1 →
    ((decide (band0 > 0)) = true → Ix band4O band4L c) ∧
    (∃ (x : Bool),
    ((decide (band0 > 0)) = true → CellsX [] w band4O (Int.toNat c * 1) [.bool x]) ∧
    R (.bool ((decide (band0 > 0)) && x)) w))))
theorem v_spec_l8Dry (w0 : Int) (w1O : Option Addr) (w1L : Nat) (w1C : Nat) (w2O : Option Addr) (w2L : Nat) (w2C : Nat) (w3O : Option Addr) (w3L : Nat) (w3C : Nat) (g : Int) (c : Int) (w : World) (R : Value → World → Prop) : evFn c_spec_l8Dry s_spec_l8Dry [.agg #[.int .i64 w0, .slice w1O w1L w1C, .slice w2O w2L w2C, .slice w3O w3L w3C], .int .i64 g, .int .i64 c] (bodyOf Tryz.f79) Tryz.f79.results.toList w R = V_spec_l8Dry w0 w1O w1L w1C w2O w2L w2C w3O w3L w3C g c w R := by kernel_rfl
theorem p_spec_l8Dry (w0 : Int) (w1O : Option Addr) (w1L : Nat) (w1C : Nat) (w2O : Option Addr) (w2L : Nat) (w2C : Nat) (w3O : Option Addr) (w3L : Nat) (w3C : Nat) (g : Int) (c : Int) {w : World} {bs : List Nat} {ret : Value} (hvc : ∀ wr0, ExtX bs w wr0 → V_spec_l8Dry w0 w1O w1L w1C w2O w2L w2C w3O w3L w3C g c wr0 fun v0 _ => v0 = ret) : PureX bs Tryz.prog fn_spec_l8Dry #[.agg #[.int .i64 w0, .slice w1O w1L w1C, .slice w2O w2L w2C, .slice w3O w3L w3C], .int .i64 g, .int .i64 c] w ret :=
  pure_of_ev (C := c_spec_l8Dry) (sps := s_spec_l8Dry) (body := bodyOf Tryz.f79) (env _ _ _ _ _) Tryz.func79 rfl rfl (of_decide_eq_true (by kernel_rfl)) (of_decide_eq_true (by kernel_rfl)) rfl rfl fun wr0 hx0 => by rw [v_spec_l8Dry]; exact hvc wr0 hx0
noncomputable def c_spec_l8ShelfOk : Cfg := { P := Tryz.prog, T := tblGet tbl, pf := pfT, ef := efT, tt := ttT, vis := [], n := 91, pm := true, wr := false }
noncomputable def s_spec_l8ShelfOk : List (Nat × LSpec) := []
def V_spec_l8ShelfOk (w0 : Int) (w1O : Option Addr) (w1L : Nat) (w1C : Nat) (w2O : Option Addr) (w2L : Nat) (w2C : Nat) (w3O : Option Addr) (w3L : Nat) (w3C : Nat) (k : Int) (c : Int) (w : World) (R : Value → World → Prop) : Prop :=
    (∀ b, w.heap.size ≤ b →
    Ix w3O w3L k ∧
    (∃ (x0 : Bool) (x1 : Int) (x2 : ByteArray) (x3 : Int) (x4 : Int) (x5 : Int) (x6 : Int) (x7 : Int) (x8 : Int) (x9 : Int) (x10 : Int) (x11O : Option Addr) (x11L : Nat) (x11C : Nat) (x12O : Option Addr) (x12L : Nat) (x12C : Nat) (x13O : Option Addr) (x13L : Nat) (x13C : Nat),
    CellsX [] w w3O (Int.toNat k * 14) [.bool x0, .int .i64 x1, .string x2, .int .i64 x3, .int .i64 x4, .int .i64 x5, .int .i64 x6, .int .i64 x7, .int .i64 x8, .int .i64 x9, .int .i64 x10, .slice x11O x11L x11C, .slice x12O x12L x12C, .slice x13O x13L x13C] ∧
    (∀ b1, w.heap.size ≤ b1 →
    Ix x13O x13L c ∧
    (∃ (x01 : Int) (x14 : Bool) (x21 : Int) (x31 : Int) (x41 : Int),
    CellsX [] w x13O (Int.toNat c * 5) [.int .i64 x01, .bool x14, .int .i64 x21, .int .i64 x31, .int .i64 x41] ∧
    (∀ b2, w.heap.size ≤ b2 →
    (∃ (l4Time : Bool),
    PureX [] Tryz.prog fn_spec_l4Time #[.int .i64 x01] w (.bool l4Time) ∧
    (∃ (l4Time1 : Bool),
    ((!l4Time) = false → PureX [] Tryz.prog fn_spec_l4Time #[.int .i64 x21] w (.bool l4Time1)) ∧
    (∃ (l4Time2 : Bool),
    (((!l4Time) || (!l4Time1)) = false → PureX [] Tryz.prog fn_spec_l4Time #[.int .i64 x41] w (.bool l4Time2)) ∧
    (∃ (l1Weig : Bool),
    ((((!l4Time) || (!l4Time1)) || (!l4Time2)) = false → PureX [] Tryz.prog fn_spec_l1Weight #[.int .i64 x31] w (.bool l1Weig)) ∧
    (((((!l4Time) || (!l4Time1)) || (!l4Time2)) || (!l1Weig)) = true →
    R (.bool false) w) ∧
    (((((!l4Time) || (!l4Time1)) || (!l4Time2)) || (!l1Weig)) = false →
    ((k == 0) = true →
    R (.bool (((!x14) && (x21 == 0)) && (x31 == 10))) w) ∧
    ((k == 0) = false →
    (∃ (l8Acti : Bool),
    PureX [] Tryz.prog fn_spec_l8Active #[.agg #[.int .i64 w0, .slice w1O w1L w1C, .slice w2O w2L w2C, .slice w3O w3L w3C], .int .i64 k, .int .i64 c] w (.bool l8Acti) ∧
    (∃ (l8Dry : Bool),
    (l8Acti = true → PureX [] Tryz.prog fn_spec_l8Dry #[.agg #[.int .i64 w0, .slice w1O w1L w1C, .slice w2O w2L w2C, .slice w3O w3L w3C], .int .i64 k, .int .i64 c] w (.bool l8Dry)) ∧
    ((!(x14 == (l8Acti && (!l8Dry)))) = true →
    R (.bool false) w) ∧
    ((!(x14 == (l8Acti && (!l8Dry)))) = false →
    ((!x14) = false → Ix w3O w3L x1) ∧
    (∃ (shelvesO : Option Addr) (shelvesL : Nat) (shelvesC : Nat),
    ((!x14) = false → CellsX [] w w3O (Int.toNat x1 * 14 + 13) [.slice shelvesO shelvesL shelvesC]) ∧
    ((!x14) = false → Ix shelvesO shelvesL c) ∧
    (∃ (floor : Int),
    ((!x14) = false → CellsX [] w shelvesO (Int.toNat c * 5 + 0) [.int .i64 floor]) ∧
    (∃ (l8Stan : Bool),
    ((!x14) = false → PureX [] Tryz.prog fn_spec_l8Stand #[.int .i64 x21, .int .i64 floor, .int .i64 x31] w (.bool l8Stan)) ∧
    R (.bool ((!x14) || l8Stan)) w)))))))))))))))))
theorem v_spec_l8ShelfOk (w0 : Int) (w1O : Option Addr) (w1L : Nat) (w1C : Nat) (w2O : Option Addr) (w2L : Nat) (w2C : Nat) (w3O : Option Addr) (w3L : Nat) (w3C : Nat) (k : Int) (c : Int) (w : World) (R : Value → World → Prop) : evFn c_spec_l8ShelfOk s_spec_l8ShelfOk [.agg #[.int .i64 w0, .slice w1O w1L w1C, .slice w2O w2L w2C, .slice w3O w3L w3C], .int .i64 k, .int .i64 c] (bodyOf Tryz.f40) Tryz.f40.results.toList w R = V_spec_l8ShelfOk w0 w1O w1L w1C w2O w2L w2C w3O w3L w3C k c w R := by kernel_rfl
theorem p_spec_l8ShelfOk (w0 : Int) (w1O : Option Addr) (w1L : Nat) (w1C : Nat) (w2O : Option Addr) (w2L : Nat) (w2C : Nat) (w3O : Option Addr) (w3L : Nat) (w3C : Nat) (k : Int) (c : Int) {w : World} {bs : List Nat} {ret : Value} (hvc : ∀ wr0, ExtX bs w wr0 → V_spec_l8ShelfOk w0 w1O w1L w1C w2O w2L w2C w3O w3L w3C k c wr0 fun v0 _ => v0 = ret) : PureX bs Tryz.prog fn_spec_l8ShelfOk #[.agg #[.int .i64 w0, .slice w1O w1L w1C, .slice w2O w2L w2C, .slice w3O w3L w3C], .int .i64 k, .int .i64 c] w ret :=
  pure_of_ev (C := c_spec_l8ShelfOk) (sps := s_spec_l8ShelfOk) (body := bodyOf Tryz.f40) (env _ _ _ _ _) Tryz.func40 rfl rfl (of_decide_eq_true (by kernel_rfl)) (of_decide_eq_true (by kernel_rfl)) rfl rfl fun wr0 hx0 => by rw [v_spec_l8ShelfOk]; exact hvc wr0 hx0
noncomputable def c_spec_l8InLine : Cfg := { P := Tryz.prog, T := tblGet tbl, pf := pfT, ef := efT, tt := ttT, vis := [], n := 31, pm := true, wr := false }
noncomputable def s_spec_l8InLine : List (Nat × LSpec) := [(5, { chg := [(6, .int .i64)], chgL := [], keep := [2, 5] })]
def V_spec_l8InLine (w0 : Int) (w1O : Option Addr) (w1L : Nat) (w1C : Nat) (w2O : Option Addr) (w2L : Nat) (w2C : Nat) (w3O : Option Addr) (w3L : Nat) (w3C : Nat) (t : Int) (w : World) (R : Value → World → Prop) : Prop :=
    (∀ b, w.heap.size ≤ b →
    Ix w2O w2L t ∧
    (∃ (x0 : Int) (x1 : Int) (x2 : Int) (x3 : Int) (x4 : Int) (x5 : Int) (x6 : Int) (x7 : Int) (x8 : Int),
    CellsX [] w w2O (Int.toNat t * 9) [.int .i64 x0, .int .i64 x1, .int .i64 x2, .int .i64 x3, .int .i64 x4, .int .i64 x5, .int .i64 x6, .int .i64 x7, .int .i64 x8] ∧
    (∀ b1, w.heap.size ≤ b1 →
    ((x0 != 1) = true →
    R (.bool false) w) ∧
    ((x0 != 1) = false →
    (∃ (xInv : List Value → Prop) (mu : List Value → Nat), xInv [.int .i64 x1] ∧
    ∀ (g : Int), xInv [.int .i64 g] →
    ((g != 0) = true →
    (∃ (l8Queu : Bool),
    PureX [] Tryz.prog fn_spec_l8Queued #[.agg #[.int .i64 w0, .slice w1O w1L w1C, .slice w2O w2L w2C, .slice w3O w3L w3C], .int .i64 g, .int .i64 x2] w (.bool l8Queu) ∧
    ((!l8Queu) = true →
    R (.bool false) w) ∧
    ((!l8Queu) = false →
    Ix w3O w3L g ∧
    (∃ (parent : Int),
    CellsX [] w w3O (Int.toNat g * 14 + 1) [.int .i64 parent] ∧
    xInv [.int .i64 parent] ∧ mu [.int .i64 parent] < mu [.int .i64 g])))) ∧
    ((g != 0) = false →
    R (.bool true) w))))))
theorem v_spec_l8InLine (w0 : Int) (w1O : Option Addr) (w1L : Nat) (w1C : Nat) (w2O : Option Addr) (w2L : Nat) (w2C : Nat) (w3O : Option Addr) (w3L : Nat) (w3C : Nat) (t : Int) (w : World) (R : Value → World → Prop) : evFn c_spec_l8InLine s_spec_l8InLine [.agg #[.int .i64 w0, .slice w1O w1L w1C, .slice w2O w2L w2C, .slice w3O w3L w3C], .int .i64 t] (bodyOf Tryz.f80) Tryz.f80.results.toList w R = V_spec_l8InLine w0 w1O w1L w1C w2O w2L w2C w3O w3L w3C t w R := by kernel_rfl
theorem p_spec_l8InLine (w0 : Int) (w1O : Option Addr) (w1L : Nat) (w1C : Nat) (w2O : Option Addr) (w2L : Nat) (w2C : Nat) (w3O : Option Addr) (w3L : Nat) (w3C : Nat) (t : Int) {w : World} {bs : List Nat} {ret : Value} (hvc : ∀ wr0, ExtX bs w wr0 → V_spec_l8InLine w0 w1O w1L w1C w2O w2L w2C w3O w3L w3C t wr0 fun v0 _ => v0 = ret) : PureX bs Tryz.prog fn_spec_l8InLine #[.agg #[.int .i64 w0, .slice w1O w1L w1C, .slice w2O w2L w2C, .slice w3O w3L w3C], .int .i64 t] w ret :=
  pure_of_ev (C := c_spec_l8InLine) (sps := s_spec_l8InLine) (body := bodyOf Tryz.f80) (env _ _ _ _ _) Tryz.func80 rfl rfl (of_decide_eq_true (by kernel_rfl)) (of_decide_eq_true (by kernel_rfl)) rfl rfl fun wr0 hx0 => by rw [v_spec_l8InLine]; exact hvc wr0 hx0
noncomputable def c_spec_l8Stayed : Cfg := { P := Tryz.prog, T := tblGet tbl, pf := pfT, ef := efT, tt := ttT, vis := [], n := 84, pm := true, wr := false }
noncomputable def s_spec_l8Stayed : List (Nat × LSpec) := [(6, { chg := [(7, .int .i64)], chgL := [], keep := [1, 2, 5] })]
def V_spec_l8Stayed (w0 : Int) (w1O : Option Addr) (w1L : Nat) (w1C : Nat) (w2O : Option Addr) (w2L : Nat) (w2C : Nat) (w3O : Option Addr) (w3L : Nat) (w3C : Nat) (c : Int) (w : World) (R : Value → World → Prop) : Prop :=
    (∀ b, w.heap.size ≤ b →
    Ix w1O w1L c ∧
    (∃ (x0 : Bool) (x1 : Int) (x2 : Int) (x3 : Int) (x4 : Int),
    CellsX [] w w1O (Int.toNat c * 5) [.bool x0, .int .i64 x1, .int .i64 x2, .int .i64 x3, .int .i64 x4] ∧
    (∀ b1, w.heap.size ≤ b1 →
    Ix w2O w2L x1 ∧
    (∃ (x01 : Int) (x11 : Int) (x21 : Int) (x31 : Int) (x41 : Int) (x5 : Int) (x6 : Int) (x7 : Int) (x8 : Int),
    CellsX [] w w2O (Int.toNat x1 * 9) [.int .i64 x01, .int .i64 x11, .int .i64 x21, .int .i64 x31, .int .i64 x41, .int .i64 x5, .int .i64 x6, .int .i64 x7, .int .i64 x8] ∧
    (∀ b2, w.heap.size ≤ b2 →
    Ix w3O w3L x11 ∧
    (∃ (shelvesO : Option Addr) (shelvesL : Nat) (shelvesC : Nat),
    CellsX [] w w3O (Int.toNat x11 * 14 + 13) [.slice shelvesO shelvesL shelvesC] ∧
    Ix shelvesO shelvesL c ∧
    (∃ (floor : Int),
    CellsX [] w shelvesO (Int.toNat c * 5 + 0) [.int .i64 floor] ∧
    InR .i64 (x5 - floor) ∧
    (∃ (xWeight : Int),
    PureX [] Tryz.prog fn_spec_WeightOf #[.int .i64 x31] w (.int .i64 xWeight) ∧
    (∃ (xVirtua : Int),
    PureX [] Tryz.prog fn_spec_VirtualStep #[.int .i64 x2, .int .i64 xWeight] w (.int .i64 xVirtua) ∧
    ((decide (x5 - floor > xVirtua)) = true →
    R (.bool false) w) ∧
    ((decide (x5 - floor > xVirtua)) = false →
    (∃ (xInv : List Value → Prop) (mu : List Value → Nat), xInv [.int .i64 x11] ∧
    ∀ (g : Int), xInv [.int .i64 g] →
    ((g != 0) = true →
    Ix w3O w3L g ∧
    (∃ (shelves1O : Option Addr) (shelves1L : Nat) (shelves1C : Nat),
    CellsX [] w w3O (Int.toNat g * 14 + 13) [.slice shelves1O shelves1L shelves1C] ∧
    Ix shelves1O shelves1L c ∧
    (∃ (x02 : Int) (x12 : Bool) (x22 : Int) (x32 : Int) (x42 : Int),
    CellsX [] w shelves1O (Int.toNat c * 5) [.int .i64 x02, .bool x12, .int .i64 x22, .int .i64 x32, .int .i64 x42] ∧
    (∀ b3, w.heap.size ≤ b3 →
    Ix w3O w3L g ∧
    (∃ (parent : Int),
    CellsX [] w w3O (Int.toNat g * 14 + 1) [.int .i64 parent] ∧
    Ix w3O w3L parent ∧
    (∃ (shelves2O : Option Addr) (shelves2L : Nat) (shelves2C : Nat),
    CellsX [] w w3O (Int.toNat parent * 14 + 13) [.slice shelves2O shelves2L shelves2C] ∧
    Ix shelves2O shelves2L c ∧
    (∃ (floor1 : Int),
    CellsX [] w shelves2O (Int.toNat c * 5 + 0) [.int .i64 floor1] ∧
    InR .i64 (x22 - floor1) ∧
    (∃ (xVirtua1 : Int),
    PureX [] Tryz.prog fn_spec_VirtualStep #[.int .i64 x2, .int .i64 x32] w (.int .i64 xVirtua1) ∧
    ((decide (x22 - floor1 > xVirtua1)) = true →
    R (.bool false) w) ∧
    ((decide (x22 - floor1 > xVirtua1)) = false →
    Ix w3O w3L g ∧
    (∃ (parent1 : Int),
    CellsX [] w w3O (Int.toNat g * 14 + 1) [.int .i64 parent1] ∧
    xInv [.int .i64 parent1] ∧ mu [.int .i64 parent1] < mu [.int .i64 g])))))))))) ∧
    ((g != 0) = false →
    R (.bool true) w))))))))))))
theorem v_spec_l8Stayed (w0 : Int) (w1O : Option Addr) (w1L : Nat) (w1C : Nat) (w2O : Option Addr) (w2L : Nat) (w2C : Nat) (w3O : Option Addr) (w3L : Nat) (w3C : Nat) (c : Int) (w : World) (R : Value → World → Prop) : evFn c_spec_l8Stayed s_spec_l8Stayed [.agg #[.int .i64 w0, .slice w1O w1L w1C, .slice w2O w2L w2C, .slice w3O w3L w3C], .int .i64 c] (bodyOf Tryz.f81) Tryz.f81.results.toList w R = V_spec_l8Stayed w0 w1O w1L w1C w2O w2L w2C w3O w3L w3C c w R := by kernel_rfl
theorem p_spec_l8Stayed (w0 : Int) (w1O : Option Addr) (w1L : Nat) (w1C : Nat) (w2O : Option Addr) (w2L : Nat) (w2C : Nat) (w3O : Option Addr) (w3L : Nat) (w3C : Nat) (c : Int) {w : World} {bs : List Nat} {ret : Value} (hvc : ∀ wr0, ExtX bs w wr0 → V_spec_l8Stayed w0 w1O w1L w1C w2O w2L w2C w3O w3L w3C c wr0 fun v0 _ => v0 = ret) : PureX bs Tryz.prog fn_spec_l8Stayed #[.agg #[.int .i64 w0, .slice w1O w1L w1C, .slice w2O w2L w2C, .slice w3O w3L w3C], .int .i64 c] w ret :=
  pure_of_ev (C := c_spec_l8Stayed) (sps := s_spec_l8Stayed) (body := bodyOf Tryz.f81) (env _ _ _ _ _) Tryz.func81 rfl rfl (of_decide_eq_true (by kernel_rfl)) (of_decide_eq_true (by kernel_rfl)) rfl rfl fun wr0 hx0 => by rw [v_spec_l8Stayed]; exact hvc wr0 hx0
noncomputable def c_spec_l8CpuOk : Cfg := { P := Tryz.prog, T := tblGet tbl, pf := pfT, ef := efT, tt := ttT, vis := [], n := 66, pm := true, wr := false }
noncomputable def s_spec_l8CpuOk : List (Nat × LSpec) := []
def V_spec_l8CpuOk (w0 : Int) (w1O : Option Addr) (w1L : Nat) (w1C : Nat) (w2O : Option Addr) (w2L : Nat) (w2C : Nat) (w3O : Option Addr) (w3L : Nat) (w3C : Nat) (c : Int) (w : World) (R : Value → World → Prop) : Prop :=
    (∀ b, w.heap.size ≤ b →
    Ix w1O w1L c ∧
    (∃ (x0 : Bool) (x1 : Int) (x2 : Int) (x3 : Int) (x4 : Int),
    CellsX [] w w1O (Int.toNat c * 5) [.bool x0, .int .i64 x1, .int .i64 x2, .int .i64 x3, .int .i64 x4] ∧
    (∀ b1, w.heap.size ≤ b1 →
    (∃ (l4Time : Bool),
    PureX [] Tryz.prog fn_spec_l4Time #[.int .i64 x3] w (.bool l4Time) ∧
    (∃ (l4Time1 : Bool),
    ((!l4Time) = false → PureX [] Tryz.prog fn_spec_l4Time #[.int .i64 x4] w (.bool l4Time1)) ∧
    (((!l4Time) || (!l4Time1)) = false → InR .i64 (((w2L : Nat) : Int) - 1)) ∧
    (∃ (l1In : Bool),
    (((!l4Time) || (!l4Time1)) = false → PureX [] Tryz.prog fn_spec_l1In #[.int .i64 x1, .int .i64 (-1), .int .i64 (((w2L : Nat) : Int) - 1)] w (.bool l1In)) ∧
    ((((!l4Time) || (!l4Time1)) || (!l1In)) = true →
    R (.bool false) w) ∧
    ((((!l4Time) || (!l4Time1)) || (!l1In)) = false →
    ((decide (x1 < 0)) = true →
    R (.bool (x2 == 0)) w) ∧
    ((decide (x1 < 0)) = false →
    (∃ (l1In1 : Bool),
    (x0 = true → PureX [] Tryz.prog fn_spec_l1In #[.int .i64 x2, .int .i64 1, .int .i64 149] w (.bool l1In1)) ∧
    ((x0 && l1In1) = true → Ix w2O w2L x1) ∧
    (∃ (cpu : Int),
    ((x0 && l1In1) = true → CellsX [] w w2O (Int.toNat x1 * 9 + 2) [.int .i64 cpu]) ∧
    (∃ (l8InLi : Bool),
    (((x0 && l1In1) && (cpu == c)) = true → PureX [] Tryz.prog fn_spec_l8InLine #[.agg #[.int .i64 w0, .slice w1O w1L w1C, .slice w2O w2L w2C, .slice w3O w3L w3C], .int .i64 x1] w (.bool l8InLi)) ∧
    (∃ (l8Stay : Bool),
    ((((x0 && l1In1) && (cpu == c)) && l8InLi) = true → PureX [] Tryz.prog fn_spec_l8Stayed #[.agg #[.int .i64 w0, .slice w1O w1L w1C, .slice w2O w2L w2C, .slice w3O w3L w3C], .int .i64 c] w (.bool l8Stay)) ∧
    R (.bool ((((x0 && l1In1) && (cpu == c)) && l8InLi) && l8Stay)) w))))))))))))
theorem v_spec_l8CpuOk (w0 : Int) (w1O : Option Addr) (w1L : Nat) (w1C : Nat) (w2O : Option Addr) (w2L : Nat) (w2C : Nat) (w3O : Option Addr) (w3L : Nat) (w3C : Nat) (c : Int) (w : World) (R : Value → World → Prop) : evFn c_spec_l8CpuOk s_spec_l8CpuOk [.agg #[.int .i64 w0, .slice w1O w1L w1C, .slice w2O w2L w2C, .slice w3O w3L w3C], .int .i64 c] (bodyOf Tryz.f41) Tryz.f41.results.toList w R = V_spec_l8CpuOk w0 w1O w1L w1C w2O w2L w2C w3O w3L w3C c w R := by kernel_rfl
theorem p_spec_l8CpuOk (w0 : Int) (w1O : Option Addr) (w1L : Nat) (w1C : Nat) (w2O : Option Addr) (w2L : Nat) (w2C : Nat) (w3O : Option Addr) (w3L : Nat) (w3C : Nat) (c : Int) {w : World} {bs : List Nat} {ret : Value} (hvc : ∀ wr0, ExtX bs w wr0 → V_spec_l8CpuOk w0 w1O w1L w1C w2O w2L w2C w3O w3L w3C c wr0 fun v0 _ => v0 = ret) : PureX bs Tryz.prog fn_spec_l8CpuOk #[.agg #[.int .i64 w0, .slice w1O w1L w1C, .slice w2O w2L w2C, .slice w3O w3L w3C], .int .i64 c] w ret :=
  pure_of_ev (C := c_spec_l8CpuOk) (sps := s_spec_l8CpuOk) (body := bodyOf Tryz.f41) (env _ _ _ _ _) Tryz.func41 rfl rfl (of_decide_eq_true (by kernel_rfl)) (of_decide_eq_true (by kernel_rfl)) rfl rfl fun wr0 hx0 => by rw [v_spec_l8CpuOk]; exact hvc wr0 hx0
noncomputable def c_spec_WorldOk : Cfg := { P := Tryz.prog, T := tblGet tbl, pf := pfT, ef := efT, tt := ttT, vis := [], n := 92, pm := true, wr := false }
noncomputable def s_spec_WorldOk : List (Nat × LSpec) := [(4, { chg := [(3, .int .i64)], chgL := [], keep := [1] }), (9, { chg := [(4, .int .i64)], chgL := [], keep := [1] }), (14, { chg := [(5, .int .i64)], chgL := [], keep := [1] }), (17, { chg := [(6, .int .i64)], chgL := [], keep := [1, 5] }), (22, { chg := [(7, .int .i64)], chgL := [], keep := [1] })]
def V_spec_WorldOk (w0 : Int) (w1O : Option Addr) (w1L : Nat) (w1C : Nat) (w2O : Option Addr) (w2L : Nat) (w2C : Nat) (w3O : Option Addr) (w3L : Nat) (w3C : Nat) (w : World) (R : Value → World → Prop) : Prop :=
    (∀ b, w.heap.size ≤ b →
    (∃ (l1In : Bool),
    PureX [] Tryz.prog fn_spec_l1In #[.int .i64 w0, .int .i64 0, .int .i64 100000000000000000] w (.bool l1In) ∧
    (∃ (l1In1 : Bool),
    ((!l1In) = false → PureX [] Tryz.prog fn_spec_l1In #[.int .i64 ((w1L : Nat) : Int), .int .i64 1, .int .i64 4] w (.bool l1In1)) ∧
    (∃ (xTreeOk : Bool),
    ((((!l1In) || (!l1In1)) || (((w2L : Nat) : Int) != 12)) = false → PureX [] Tryz.prog fn_spec_TreeOk #[.slice w3O w3L w3C] w (.bool xTreeOk)) ∧
    (∃ (l8Ups : Int),
    (((((!l1In) || (!l1In1)) || (((w2L : Nat) : Int) != 12)) || (!xTreeOk)) = false → PureX [] Tryz.prog fn_spec_l8Ups #[.agg #[.int .i64 w0, .slice w1O w1L w1C, .slice w2O w2L w2C, .slice w3O w3L w3C]] w (.int .i64 l8Ups)) ∧
    ((((((!l1In) || (!l1In1)) || (((w2L : Nat) : Int) != 12)) || (!xTreeOk)) || (l8Ups == 0)) = true →
    R (.bool false) w) ∧
    ((((((!l1In) || (!l1In1)) || (((w2L : Nat) : Int) != 12)) || (!xTreeOk)) || (l8Ups == 0)) = false →
    (∃ (xInv : List Value → Prop) (mu : List Value → Nat), xInv [.int .i64 0] ∧
    ∀ (k : Int), xInv [.int .i64 k] →
    ((decide (k < ((w3L : Nat) : Int))) = true →
    (∃ (l8Grou : Bool),
    PureX [] Tryz.prog fn_spec_l8GroupOk #[.agg #[.int .i64 w0, .slice w1O w1L w1C, .slice w2O w2L w2C, .slice w3O w3L w3C], .int .i64 k] w (.bool l8Grou) ∧
    ((!l8Grou) = true →
    R (.bool false) w) ∧
    ((!l8Grou) = false →
    InR .i64 (k + 1) ∧
    xInv [.int .i64 (k + 1)] ∧ mu [.int .i64 (k + 1)] < mu [.int .i64 k]))) ∧
    ((decide (k < ((w3L : Nat) : Int))) = false →
    (∃ (xInv1 : List Value → Prop) (mu1 : List Value → Nat), xInv1 [.int .i64 0] ∧
    ∀ (t : Int), xInv1 [.int .i64 t] →
    ((decide (t < ((w2L : Nat) : Int))) = true →
    (∃ (l8Task : Bool),
    PureX [] Tryz.prog fn_spec_l8TaskOk #[.agg #[.int .i64 w0, .slice w1O w1L w1C, .slice w2O w2L w2C, .slice w3O w3L w3C], .int .i64 t] w (.bool l8Task) ∧
    ((!l8Task) = true →
    R (.bool false) w) ∧
    ((!l8Task) = false →
    InR .i64 (t + 1) ∧
    xInv1 [.int .i64 (t + 1)] ∧ mu1 [.int .i64 (t + 1)] < mu1 [.int .i64 t]))) ∧
    ((decide (t < ((w2L : Nat) : Int))) = false →
    (∃ (xInv2 : List Value → Prop) (mu2 : List Value → Nat), xInv2 [.int .i64 0] ∧
    ∀ (k1 : Int), xInv2 [.int .i64 k1] →
    ((decide (k1 < ((w3L : Nat) : Int))) = true →
    (∃ (xInv3 : List Value → Prop) (mu3 : List Value → Nat), xInv3 [.int .i64 0] ∧
    ∀ (c : Int), xInv3 [.int .i64 c] →
    Ix w3O w3L k1 ∧
    (∃ (shelvesO : Option Addr) (shelvesL : Nat) (shelvesC : Nat),
    CellsX [] w w3O (Int.toNat k1 * 14 + 13) [.slice shelvesO shelvesL shelvesC] ∧
    ((decide (c < ((shelvesL : Nat) : Int))) = true →
    (∃ (l8Shel : Bool),
    PureX [] Tryz.prog fn_spec_l8ShelfOk #[.agg #[.int .i64 w0, .slice w1O w1L w1C, .slice w2O w2L w2C, .slice w3O w3L w3C], .int .i64 k1, .int .i64 c] w (.bool l8Shel) ∧
    ((!l8Shel) = true →
    R (.bool false) w) ∧
    ((!l8Shel) = false →
    InR .i64 (c + 1) ∧
    xInv3 [.int .i64 (c + 1)] ∧ mu3 [.int .i64 (c + 1)] < mu3 [.int .i64 c]))) ∧
    ((decide (c < ((shelvesL : Nat) : Int))) = false →
    InR .i64 (k1 + 1) ∧
    xInv2 [.int .i64 (k1 + 1)] ∧ mu2 [.int .i64 (k1 + 1)] < mu2 [.int .i64 k1])))) ∧
    ((decide (k1 < ((w3L : Nat) : Int))) = false →
    (∃ (xInv4 : List Value → Prop) (mu4 : List Value → Nat), xInv4 [.int .i64 0] ∧
    ∀ (c1 : Int), xInv4 [.int .i64 c1] →
    ((decide (c1 < ((w1L : Nat) : Int))) = true →
    (∃ (l8CpuO : Bool),
    PureX [] Tryz.prog fn_spec_l8CpuOk #[.agg #[.int .i64 w0, .slice w1O w1L w1C, .slice w2O w2L w2C, .slice w3O w3L w3C], .int .i64 c1] w (.bool l8CpuO) ∧
    ((!l8CpuO) = true →
    R (.bool false) w) ∧
    ((!l8CpuO) = false →
    InR .i64 (c1 + 1) ∧
    xInv4 [.int .i64 (c1 + 1)] ∧ mu4 [.int .i64 (c1 + 1)] < mu4 [.int .i64 c1]))) ∧
    ((decide (c1 < ((w1L : Nat) : Int))) = false →
    R (.bool true) w))))))))))))))
theorem v_spec_WorldOk (w0 : Int) (w1O : Option Addr) (w1L : Nat) (w1C : Nat) (w2O : Option Addr) (w2L : Nat) (w2C : Nat) (w3O : Option Addr) (w3L : Nat) (w3C : Nat) (w : World) (R : Value → World → Prop) : evFn c_spec_WorldOk s_spec_WorldOk [.agg #[.int .i64 w0, .slice w1O w1L w1C, .slice w2O w2L w2C, .slice w3O w3L w3C]] (bodyOf Tryz.f15) Tryz.f15.results.toList w R = V_spec_WorldOk w0 w1O w1L w1C w2O w2L w2C w3O w3L w3C w R := by kernel_rfl
theorem p_spec_WorldOk (w0 : Int) (w1O : Option Addr) (w1L : Nat) (w1C : Nat) (w2O : Option Addr) (w2L : Nat) (w2C : Nat) (w3O : Option Addr) (w3L : Nat) (w3C : Nat) {w : World} {bs : List Nat} {ret : Value} (hvc : ∀ wr0, ExtX bs w wr0 → V_spec_WorldOk w0 w1O w1L w1C w2O w2L w2C w3O w3L w3C wr0 fun v0 _ => v0 = ret) : PureX bs Tryz.prog fn_spec_WorldOk #[.agg #[.int .i64 w0, .slice w1O w1L w1C, .slice w2O w2L w2C, .slice w3O w3L w3C]] w ret :=
  pure_of_ev (C := c_spec_WorldOk) (sps := s_spec_WorldOk) (body := bodyOf Tryz.f15) (env _ _ _ _ _) Tryz.func15 rfl rfl (of_decide_eq_true (by kernel_rfl)) (of_decide_eq_true (by kernel_rfl)) rfl rfl fun wr0 hx0 => by rw [v_spec_WorldOk]; exact hvc wr0 hx0
noncomputable def c_spec_l9Up : Cfg := { P := Tryz.prog, T := tblGet tbl, pf := pfT, ef := efT, tt := ttT, vis := [], n := 19, pm := true, wr := false }
noncomputable def s_spec_l9Up : List (Nat × LSpec) := []
def V_spec_l9Up (w0 : Int) (w1O : Option Addr) (w1L : Nat) (w1C : Nat) (w2O : Option Addr) (w2L : Nat) (w2C : Nat) (w3O : Option Addr) (w3L : Nat) (w3C : Nat) (c : Int) (w : World) (R : Value → World → Prop) : Prop :=
    (∀ b, w.heap.size ≤ b →
    InR .i64 (((w1L : Nat) : Int) - 1) ∧
    (∃ (l1In : Bool),
    PureX [] Tryz.prog fn_spec_l1In #[.int .i64 c, .int .i64 0, .int .i64 (((w1L : Nat) : Int) - 1)] w (.bool l1In) ∧
    (l1In = true → Ix w1O w1L c) ∧
    (∃ (up : Bool),
    (l1In = true → CellsX [] w w1O (Int.toNat c * 5 + 0) [.bool up]) ∧
    R (.bool (l1In && up)) w)))
theorem v_spec_l9Up (w0 : Int) (w1O : Option Addr) (w1L : Nat) (w1C : Nat) (w2O : Option Addr) (w2L : Nat) (w2C : Nat) (w3O : Option Addr) (w3L : Nat) (w3C : Nat) (c : Int) (w : World) (R : Value → World → Prop) : evFn c_spec_l9Up s_spec_l9Up [.agg #[.int .i64 w0, .slice w1O w1L w1C, .slice w2O w2L w2C, .slice w3O w3L w3C], .int .i64 c] (bodyOf Tryz.f16) Tryz.f16.results.toList w R = V_spec_l9Up w0 w1O w1L w1C w2O w2L w2C w3O w3L w3C c w R := by kernel_rfl
theorem p_spec_l9Up (w0 : Int) (w1O : Option Addr) (w1L : Nat) (w1C : Nat) (w2O : Option Addr) (w2L : Nat) (w2C : Nat) (w3O : Option Addr) (w3L : Nat) (w3C : Nat) (c : Int) {w : World} {bs : List Nat} {ret : Value} (hvc : ∀ wr0, ExtX bs w wr0 → V_spec_l9Up w0 w1O w1L w1C w2O w2L w2C w3O w3L w3C c wr0 fun v0 _ => v0 = ret) : PureX bs Tryz.prog fn_spec_l9Up #[.agg #[.int .i64 w0, .slice w1O w1L w1C, .slice w2O w2L w2C, .slice w3O w3L w3C], .int .i64 c] w ret :=
  pure_of_ev (C := c_spec_l9Up) (sps := s_spec_l9Up) (body := bodyOf Tryz.f16) (env _ _ _ _ _) Tryz.func16 rfl rfl (of_decide_eq_true (by kernel_rfl)) (of_decide_eq_true (by kernel_rfl)) rfl rfl fun wr0 hx0 => by rw [v_spec_l9Up]; exact hvc wr0 hx0
noncomputable def c_spec_DomainLevels : Cfg := { P := Tryz.prog, T := tblGet tbl, pf := pfT, ef := efT, tt := ttT, vis := [], n := 15, pm := true, wr := false }
noncomputable def s_spec_DomainLevels : List (Nat × LSpec) := [(4, { chg := [(3, .int .i64)], chgL := [], keep := [0] })]
def V_spec_DomainLevels (cpus : Int) (w : World) (R : Value → World → Prop) : Prop :=
    (∃ (l1In : Bool),
    PureX [] Tryz.prog fn_spec_l1In #[.int .i64 cpus, .int .i64 1, .int .i64 4] w (.bool l1In) ∧
    ((!l1In) = true →
    R (.int .i64 0) w) ∧
    ((!l1In) = false →
    (∃ (xInv : List Value → Prop) (mu : List Value → Nat), xInv [.int .i64 0] ∧
    ∀ (n : Int), xInv [.int .i64 n] →
    InR .u64 n ∧
    (0 ≤ n ∧ InR .i64 (1 * 2 ^ (min (Int.toNat n) 64))) ∧
    ((decide (1 * 2 ^ (min (Int.toNat n) 64) < cpus)) = true →
    InR .i64 (n + 1) ∧
    xInv [.int .i64 (n + 1)] ∧ mu [.int .i64 (n + 1)] < mu [.int .i64 n]) ∧
    ((decide (1 * 2 ^ (min (Int.toNat n) 64) < cpus)) = false →
    R (.int .i64 n) w))))
theorem v_spec_DomainLevels (cpus : Int) (w : World) (R : Value → World → Prop) : evFn c_spec_DomainLevels s_spec_DomainLevels [.int .i64 cpus] (bodyOf Tryz.f18) Tryz.f18.results.toList w R = V_spec_DomainLevels cpus w R := by kernel_rfl
theorem p_spec_DomainLevels (cpus : Int) {w : World} {bs : List Nat} {ret : Value} (hvc : ∀ wr0, ExtX bs w wr0 → V_spec_DomainLevels cpus wr0 fun v0 _ => v0 = ret) : PureX bs Tryz.prog fn_spec_DomainLevels #[.int .i64 cpus] w ret :=
  pure_of_ev (C := c_spec_DomainLevels) (sps := s_spec_DomainLevels) (body := bodyOf Tryz.f18) (env _ _ _ _ _) Tryz.func18 rfl rfl (of_decide_eq_true (by kernel_rfl)) (of_decide_eq_true (by kernel_rfl)) rfl rfl fun wr0 hx0 => by rw [v_spec_DomainLevels]; exact hvc wr0 hx0
noncomputable def c_spec_l12Load : Cfg := { P := Tryz.prog, T := tblGet tbl, pf := pfT, ef := efT, tt := ttT, vis := [], n := 46, pm := true, wr := false }
noncomputable def s_spec_l12Load : List (Nat × LSpec) := [(3, { chg := [(5, .int .i64), (6, .int .i64)], chgL := [], keep := [1, 2] })]
def V_spec_l12Load (w0 : Int) (w1O : Option Addr) (w1L : Nat) (w1C : Nat) (w2O : Option Addr) (w2L : Nat) (w2C : Nat) (w3O : Option Addr) (w3L : Nat) (w3C : Nat) (c : Int) (w : World) (R : Value → World → Prop) : Prop :=
    (∀ b, w.heap.size ≤ b →
    (∃ (xInv : List Value → Prop) (mu : List Value → Nat), xInv [.int .i64 0, .int .i64 0] ∧
    ∀ (n : Int) (t : Int), xInv [.int .i64 n, .int .i64 t] →
    ((decide (t < ((w2L : Nat) : Int))) = true →
    Ix w2O w2L t ∧
    (∃ (state : Int),
    CellsX [] w w2O (Int.toNat t * 9 + 0) [.int .i64 state] ∧
    ((state == 1) = true → Ix w2O w2L t) ∧
    (∃ (cpu : Int),
    ((state == 1) = true → CellsX [] w w2O (Int.toNat t * 9 + 2) [.int .i64 cpu]) ∧
    (∃ (l8InLi : Bool),
    (((state == 1) && (cpu == c)) = true → PureX [] Tryz.prog fn_spec_l8InLine #[.agg #[.int .i64 w0, .slice w1O w1L w1C, .slice w2O w2L w2C, .slice w3O w3L w3C], .int .i64 t] w (.bool l8InLi)) ∧
    ((((state == 1) && (cpu == c)) && l8InLi) = true →
    Ix w2O w2L t ∧
    (∃ (nice : Int),
    CellsX [] w w2O (Int.toNat t * 9 + 3) [.int .i64 nice] ∧
    (∃ (xWeight : Int),
    PureX [] Tryz.prog fn_spec_WeightOf #[.int .i64 nice] w (.int .i64 xWeight) ∧
    InR .i64 (n + xWeight) ∧
    InR .i64 (t + 1) ∧
    xInv [.int .i64 (n + xWeight), .int .i64 (t + 1)] ∧ mu [.int .i64 (n + xWeight), .int .i64 (t + 1)] < mu [.int .i64 n, .int .i64 t]))) ∧
    ((((state == 1) && (cpu == c)) && l8InLi) = false →
    InR .i64 (t + 1) ∧
    xInv [.int .i64 n, .int .i64 (t + 1)] ∧ mu [.int .i64 n, .int .i64 (t + 1)] < mu [.int .i64 n, .int .i64 t]))))) ∧
    ((decide (t < ((w2L : Nat) : Int))) = false →
    R (.int .i64 n) w)))
theorem v_spec_l12Load (w0 : Int) (w1O : Option Addr) (w1L : Nat) (w1C : Nat) (w2O : Option Addr) (w2L : Nat) (w2C : Nat) (w3O : Option Addr) (w3L : Nat) (w3C : Nat) (c : Int) (w : World) (R : Value → World → Prop) : evFn c_spec_l12Load s_spec_l12Load [.agg #[.int .i64 w0, .slice w1O w1L w1C, .slice w2O w2L w2C, .slice w3O w3L w3C], .int .i64 c] (bodyOf Tryz.f43) Tryz.f43.results.toList w R = V_spec_l12Load w0 w1O w1L w1C w2O w2L w2C w3O w3L w3C c w R := by kernel_rfl
theorem p_spec_l12Load (w0 : Int) (w1O : Option Addr) (w1L : Nat) (w1C : Nat) (w2O : Option Addr) (w2L : Nat) (w2C : Nat) (w3O : Option Addr) (w3L : Nat) (w3C : Nat) (c : Int) {w : World} {bs : List Nat} {ret : Value} (hvc : ∀ wr0, ExtX bs w wr0 → V_spec_l12Load w0 w1O w1L w1C w2O w2L w2C w3O w3L w3C c wr0 fun v0 _ => v0 = ret) : PureX bs Tryz.prog fn_spec_l12Load #[.agg #[.int .i64 w0, .slice w1O w1L w1C, .slice w2O w2L w2C, .slice w3O w3L w3C], .int .i64 c] w ret :=
  pure_of_ev (C := c_spec_l12Load) (sps := s_spec_l12Load) (body := bodyOf Tryz.f43) (env _ _ _ _ _) Tryz.func43 rfl rfl (of_decide_eq_true (by kernel_rfl)) (of_decide_eq_true (by kernel_rfl)) rfl rfl fun wr0 hx0 => by rw [v_spec_l12Load]; exact hvc wr0 hx0
noncomputable def c_spec_l9Groups : Cfg := { P := Tryz.prog, T := tblGet tbl, pf := pfT, ef := efT, tt := ttT, vis := [14], n := 28, pm := false, wr := false }
noncomputable def s_spec_l9Groups : List (Nat × LSpec) := [(3, { chg := [(5, .int .i64), (6, .slice)], chgL := [], keep := [2] })]
def V_spec_l9Groups (w0 : Int) (w1O : Option Addr) (w1L : Nat) (w1C : Nat) (w2O : Option Addr) (w2L : Nat) (w2C : Nat) (w3O : Option Addr) (w3L : Nat) (w3C : Nat) (t : Int) (w : World) (R : Value → World → Prop) : Prop :=
    (∀ b, w.heap.size ≤ b →
    Ix w2O w2L t ∧
    (∃ (group : Int),
    CellsX [] w w2O (Int.toNat t * 9 + 1) [.int .i64 group] ∧
    (∀ b1 wb, ExtX [] w wb → w.heap.size ≤ b1 → wb.heap[b1]? = some (Obj.cells ([.int .i64 group] : List Value).toArray ty_int (0, 0)) → b1 ∉ ([b] : List Nat) →
    (∃ (xInv : List Value → World → Prop) (mu : List Value → World → Nat), (∀ wr, ExtX [b] wb wr → (∀ bq ∈ ([b] : List Nat), bq < wr.heap.size) → xInv [.int .i64 group, .slice (some (Addr.mk b1 0 none)) 1 1] wr) ∧
    ∀ (g : Int) (outO : Option Addr) (outL : Nat) (outC : Nat) wv, (∀ bq ∈ ([b] : List Nat), bq < wv.heap.size) → xInv [.int .i64 g, .slice outO outL outC] wv →
    ((g != 0) = true →
    Ix w3O w3L g ∧
    (∃ (parent : Int),
    CellsX [b] wv w3O (Int.toNat g * 14 + 1) [.int .i64 parent] ∧
    (∀ b2, wv.heap.size ≤ b2 →
    (∀ wr1, ExtX [b] wv wr1 → (∀ bq ∈ ([b, b2] : List Nat), bq < wr1.heap.size) → wr1.heap[b2]? = some (Obj.cells ([.int .i64 parent] : List Value).toArray ty_int (0, 0)) →
    (∃ (apO : Option Addr) (apL : Nat) (apC : Nat),
    ∃ wv1, (builtin .append #[ty_sl_int, ty_sl_int] ty_sl_int #[false, false] #[.slice outO outL outC, .slice (some (Addr.mk b2 0 none)) 1 1]).run Tryz.prog wr1 = .ok (.value (.slice apO apL apC)) wv1 ∧ Kept [b, b2] wr1 wv1 ∧
    (∀ wr2, ExtX [b, b2] wv1 wr2 → (∀ bq ∈ ([b, b2] : List Nat), bq < wr2.heap.size) → xInv [.int .i64 parent, .slice apO apL apC] wr2 ∧ mu [.int .i64 parent, .slice apO apL apC] wr2 < mu [.int .i64 g, .slice outO outL outC] wv)))))) ∧
    ((g != 0) = false →
    (∀ wr3, ExtX [b] wv wr3 → R (.slice outO outL outC) wr3))))))
theorem v_spec_l9Groups (w0 : Int) (w1O : Option Addr) (w1L : Nat) (w1C : Nat) (w2O : Option Addr) (w2L : Nat) (w2C : Nat) (w3O : Option Addr) (w3L : Nat) (w3C : Nat) (t : Int) (w : World) (R : Value → World → Prop) : evFn c_spec_l9Groups s_spec_l9Groups [.agg #[.int .i64 w0, .slice w1O w1L w1C, .slice w2O w2L w2C, .slice w3O w3L w3C], .int .i64 t] (bodyOf Tryz.f82) Tryz.f82.results.toList w R = V_spec_l9Groups w0 w1O w1L w1C w2O w2L w2C w3O w3L w3C t w R := by kernel_rfl
theorem e_spec_l9Groups (w0 : Int) (w1O : Option Addr) (w1L : Nat) (w1C : Nat) (w2O : Option Addr) (w2L : Nat) (w2C : Nat) (w3O : Option Addr) (w3L : Nat) (w3C : Nat) (t : Int) {w : World} {R : Value → World → Prop} (hvc : V_spec_l9Groups w0 w1O w1L w1C w2O w2L w2C w3O w3L w3C t w R) : Calls Tryz.prog fn_spec_l9Groups #[.agg #[.int .i64 w0, .slice w1O w1L w1C, .slice w2O w2L w2C, .slice w3O w3L w3C], .int .i64 t] w fun e0 wr0 => ∃ v0, e0 = .returned v0 ∧ R v0 wr0 :=
  eff_of_ev (C := c_spec_l9Groups) (sps := s_spec_l9Groups) (body := bodyOf Tryz.f82) (env _ _ _ _ _) Tryz.func82 rfl rfl (of_decide_eq_true (by kernel_rfl)) (of_decide_eq_true (by kernel_rfl)) rfl rfl (by rw [v_spec_l9Groups]; exact hvc)
noncomputable def c_spec_l12Could : Cfg := { P := Tryz.prog, T := tblGet tbl, pf := pfT, ef := efT, tt := ttT, vis := [], n := 68, pm := false, wr := false }
noncomputable def s_spec_l12Could : List (Nat × LSpec) := [(6, { chg := [(9, .int .i64)], chgL := [], keep := [2, 3, 8] })]
def V_spec_l12Could (w0 : Int) (w1O : Option Addr) (w1L : Nat) (w1C : Nat) (w2O : Option Addr) (w2L : Nat) (w2C : Nat) (w3O : Option Addr) (w3L : Nat) (w3C : Nat) (t : Int) (c : Int) (w : World) (R : Value → World → Prop) : Prop :=
    (∀ b, w.heap.size ≤ b →
    Ix w2O w2L t ∧
    (∃ (x0 : Int) (x1 : Int) (x2 : Int) (x3 : Int) (x4 : Int) (x5 : Int) (x6 : Int) (x7 : Int) (x8 : Int),
    CellsX [] w w2O (Int.toNat t * 9) [.int .i64 x0, .int .i64 x1, .int .i64 x2, .int .i64 x3, .int .i64 x4, .int .i64 x5, .int .i64 x6, .int .i64 x7, .int .i64 x8] ∧
    (∀ b1, w.heap.size ≤ b1 →
    (((x0 != 1) || (x2 == c)) = false → Ix w1O w1L x2) ∧
    (∃ (cur : Int),
    (((x0 != 1) || (x2 == c)) = false → CellsX [] w w1O (Int.toNat x2 * 5 + 1) [.int .i64 cur]) ∧
    (∃ (l8InLi : Bool),
    ((((x0 != 1) || (x2 == c)) || (cur == t)) = false → PureX [] Tryz.prog fn_spec_l8InLine #[.agg #[.int .i64 w0, .slice w1O w1L w1C, .slice w2O w2L w2C, .slice w3O w3L w3C], .int .i64 t] w (.bool l8InLi)) ∧
    (∃ (l8Wher : Int),
    (((((x0 != 1) || (x2 == c)) || (cur == t)) || (!l8InLi)) = false → PureX [] Tryz.prog fn_spec_l8Where #[.agg #[.int .i64 w0, .slice w1O w1L w1C, .slice w2O w2L w2C, .slice w3O w3L w3C], .int .i64 x1, .int .i64 x4] w (.int .i64 l8Wher)) ∧
    (∃ (xMaskHa : Bool),
    (((((x0 != 1) || (x2 == c)) || (cur == t)) || (!l8InLi)) = false → PureX [] Tryz.prog fn_spec_MaskHas #[.int .i64 l8Wher, .int .i64 c] w (.bool xMaskHa)) ∧
    ((((((x0 != 1) || (x2 == c)) || (cur == t)) || (!l8InLi)) || (!xMaskHa)) = true →
    (∀ wr, ExtX [] w wr → R (.bool false) wr)) ∧
    ((((((x0 != 1) || (x2 == c)) || (cur == t)) || (!l8InLi)) || (!xMaskHa)) = false →
    (∀ wr1, ExtX [] w wr1 → (∀ bq ∈ ([b, b1] : List Nat), bq < wr1.heap.size) →
    Calls Tryz.prog fn_spec_l9Groups #[.agg #[.int .i64 w0, .slice w1O w1L w1C, .slice w2O w2L w2C, .slice w3O w3L w3C], .int .i64 t] wr1 fun e wv =>
    (∃ (l9GrouO : Option Addr) (l9GrouL : Nat) (l9GrouC : Nat),
    e = .returned (.slice l9GrouO l9GrouL l9GrouC) ∧ Kept [b, b1] wr1 wv ∧
    (∃ (xInv : List Value → World → Prop) (mu : List Value → World → Nat), (∀ wr2, ExtX [b, b1] wv wr2 → (∀ bq ∈ ([b, b1] : List Nat), bq < wr2.heap.size) → xInv [.int .i64 0] wr2) ∧
    ∀ (i : Int) wv1, (∀ bq ∈ ([b, b1] : List Nat), bq < wv1.heap.size) → xInv [.int .i64 i] wv1 →
    ((decide (i < ((l9GrouL : Nat) : Int))) = true →
    Ix l9GrouO l9GrouL i ∧
    (∃ (x : Int),
    CellsX [b, b1] wv1 l9GrouO (Int.toNat i * 1) [.int .i64 x] ∧
    (∃ (l8Dry : Bool),
    PureX [b, b1] Tryz.prog fn_spec_l8Dry #[.agg #[.int .i64 w0, .slice w1O w1L w1C, .slice w2O w2L w2C, .slice w3O w3L w3C], .int .i64 x, .int .i64 c] wv1 (.bool l8Dry) ∧
    (l8Dry = true →
    (∀ wr3, ExtX [b, b1] wv1 wr3 → R (.bool false) wr3)) ∧
    (l8Dry = false →
    InR .i64 (i + 1) ∧
    (∀ wr4, ExtX [b, b1] wv1 wr4 → (∀ bq ∈ ([b, b1] : List Nat), bq < wr4.heap.size) → xInv [.int .i64 (i + 1)] wr4 ∧ mu [.int .i64 (i + 1)] wr4 < mu [.int .i64 i] wv1))))) ∧
    ((decide (i < ((l9GrouL : Nat) : Int))) = false →
    (∀ wr5, ExtX [b, b1] wv1 wr5 → R (.bool true) wr5)))))))))))))
theorem v_spec_l12Could (w0 : Int) (w1O : Option Addr) (w1L : Nat) (w1C : Nat) (w2O : Option Addr) (w2L : Nat) (w2C : Nat) (w3O : Option Addr) (w3L : Nat) (w3C : Nat) (t : Int) (c : Int) (w : World) (R : Value → World → Prop) : evFn c_spec_l12Could s_spec_l12Could [.agg #[.int .i64 w0, .slice w1O w1L w1C, .slice w2O w2L w2C, .slice w3O w3L w3C], .int .i64 t, .int .i64 c] (bodyOf Tryz.f44) Tryz.f44.results.toList w R = V_spec_l12Could w0 w1O w1L w1C w2O w2L w2C w3O w3L w3C t c w R := by kernel_rfl
theorem e_spec_l12Could (w0 : Int) (w1O : Option Addr) (w1L : Nat) (w1C : Nat) (w2O : Option Addr) (w2L : Nat) (w2C : Nat) (w3O : Option Addr) (w3L : Nat) (w3C : Nat) (t : Int) (c : Int) {w : World} {R : Value → World → Prop} (hvc : V_spec_l12Could w0 w1O w1L w1C w2O w2L w2C w3O w3L w3C t c w R) : Calls Tryz.prog fn_spec_l12Could #[.agg #[.int .i64 w0, .slice w1O w1L w1C, .slice w2O w2L w2C, .slice w3O w3L w3C], .int .i64 t, .int .i64 c] w fun e0 wr0 => ∃ v0, e0 = .returned v0 ∧ R v0 wr0 :=
  eff_of_ev (C := c_spec_l12Could) (sps := s_spec_l12Could) (body := bodyOf Tryz.f44) (env _ _ _ _ _) Tryz.func44 rfl rfl (of_decide_eq_true (by kernel_rfl)) (of_decide_eq_true (by kernel_rfl)) rfl rfl (by rw [v_spec_l12Could]; exact hvc)
noncomputable def c_spec_l12Busiest : Cfg := { P := Tryz.prog, T := tblGet tbl, pf := pfT, ef := efT, tt := ttT, vis := [], n := 62, pm := true, wr := false }
noncomputable def s_spec_l12Busiest : List (Nat × LSpec) := [(3, { chg := [(7, .int .i64), (8, .int .i64)], chgL := [], keep := [1, 2, 3] }), (7, { chg := [(7, .int .i64), (9, .int .i64)], chgL := [], keep := [1, 2, 3, 8] })]
def V_spec_l12Busiest (w0 : Int) (w1O : Option Addr) (w1L : Nat) (w1C : Nat) (w2O : Option Addr) (w2L : Nat) (w2C : Nat) (w3O : Option Addr) (w3L : Nat) (w3C : Nat) (m : Int) (c : Int) (w : World) (R : Value → World → Prop) : Prop :=
    (∀ b, w.heap.size ≤ b →
    (∃ (xInv : List Value → Prop) (mu : List Value → Nat), xInv [.int .i64 (-1), .int .i64 0] ∧
    ∀ (best : Int) (b1 : Int), xInv [.int .i64 best, .int .i64 b1] →
    ((decide (b1 < ((w1L : Nat) : Int))) = true →
    (∃ (xMaskHa : Bool),
    ((b1 == c) = false → PureX [] Tryz.prog fn_spec_MaskHas #[.int .i64 m, .int .i64 b1] w (.bool xMaskHa)) ∧
    (∃ (l12Loa : Int),
    ((decide (best ≥ 0)) = true → (((b1 == c) || (!xMaskHa)) = false → PureX [] Tryz.prog fn_spec_l12Load #[.agg #[.int .i64 w0, .slice w1O w1L w1C, .slice w2O w2L w2C, .slice w3O w3L w3C], .int .i64 b1] w (.int .i64 l12Loa))) ∧
    (∃ (l12Loa1 : Int),
    ((decide (best ≥ 0)) = true → (((b1 == c) || (!xMaskHa)) = false → PureX [] Tryz.prog fn_spec_l12Load #[.agg #[.int .i64 w0, .slice w1O w1L w1C, .slice w2O w2L w2C, .slice w3O w3L w3C], .int .i64 best] w (.int .i64 l12Loa1))) ∧
    ((((b1 == c) || (!xMaskHa)) || ((decide (best ≥ 0)) && (decide (l12Loa ≤ l12Loa1)))) = true →
    InR .i64 (b1 + 1) ∧
    xInv [.int .i64 best, .int .i64 (b1 + 1)] ∧ mu [.int .i64 best, .int .i64 (b1 + 1)] < mu [.int .i64 best, .int .i64 b1]) ∧
    ((((b1 == c) || (!xMaskHa)) || ((decide (best ≥ 0)) && (decide (l12Loa ≤ l12Loa1)))) = false →
    (∃ (xInv1 : List Value → Prop) (mu1 : List Value → Nat), xInv1 [.int .i64 best, .int .i64 0] ∧
    ∀ (best1 : Int) (t : Int), xInv1 [.int .i64 best1, .int .i64 t] →
    ((decide (t < ((w2L : Nat) : Int))) = true →
    Ix w2O w2L t ∧
    (∃ (cpu : Int),
    CellsX [] w w2O (Int.toNat t * 9 + 2) [.int .i64 cpu] ∧
    (∃ (l12Cou : Bool),
    ((cpu == b1) = true → PureX [] Tryz.prog fn_spec_l12Could #[.agg #[.int .i64 w0, .slice w1O w1L w1C, .slice w2O w2L w2C, .slice w3O w3L w3C], .int .i64 t, .int .i64 c] w (.bool l12Cou)) ∧
    (((cpu == b1) && l12Cou) = true →
    InR .i64 (t + 1) ∧
    xInv1 [.int .i64 b1, .int .i64 (t + 1)] ∧ mu1 [.int .i64 b1, .int .i64 (t + 1)] < mu1 [.int .i64 best1, .int .i64 t]) ∧
    (((cpu == b1) && l12Cou) = false →
    InR .i64 (t + 1) ∧
    xInv1 [.int .i64 best1, .int .i64 (t + 1)] ∧ mu1 [.int .i64 best1, .int .i64 (t + 1)] < mu1 [.int .i64 best1, .int .i64 t])))) ∧
    ((decide (t < ((w2L : Nat) : Int))) = false →
    InR .i64 (b1 + 1) ∧
    xInv [.int .i64 best1, .int .i64 (b1 + 1)] ∧ mu [.int .i64 best1, .int .i64 (b1 + 1)] < mu [.int .i64 best, .int .i64 b1]))))))) ∧
    ((decide (b1 < ((w1L : Nat) : Int))) = false →
    R (.int .i64 best) w)))
theorem v_spec_l12Busiest (w0 : Int) (w1O : Option Addr) (w1L : Nat) (w1C : Nat) (w2O : Option Addr) (w2L : Nat) (w2C : Nat) (w3O : Option Addr) (w3L : Nat) (w3C : Nat) (m : Int) (c : Int) (w : World) (R : Value → World → Prop) : evFn c_spec_l12Busiest s_spec_l12Busiest [.agg #[.int .i64 w0, .slice w1O w1L w1C, .slice w2O w2L w2C, .slice w3O w3L w3C], .int .i64 m, .int .i64 c] (bodyOf Tryz.f19) Tryz.f19.results.toList w R = V_spec_l12Busiest w0 w1O w1L w1C w2O w2L w2C w3O w3L w3C m c w R := by kernel_rfl
theorem p_spec_l12Busiest (w0 : Int) (w1O : Option Addr) (w1L : Nat) (w1C : Nat) (w2O : Option Addr) (w2L : Nat) (w2C : Nat) (w3O : Option Addr) (w3L : Nat) (w3C : Nat) (m : Int) (c : Int) {w : World} {bs : List Nat} {ret : Value} (hvc : ∀ wr0, ExtX bs w wr0 → V_spec_l12Busiest w0 w1O w1L w1C w2O w2L w2C w3O w3L w3C m c wr0 fun v0 _ => v0 = ret) : PureX bs Tryz.prog fn_spec_l12Busiest #[.agg #[.int .i64 w0, .slice w1O w1L w1C, .slice w2O w2L w2C, .slice w3O w3L w3C], .int .i64 m, .int .i64 c] w ret :=
  pure_of_ev (C := c_spec_l12Busiest) (sps := s_spec_l12Busiest) (body := bodyOf Tryz.f19) (env _ _ _ _ _) Tryz.func19 rfl rfl (of_decide_eq_true (by kernel_rfl)) (of_decide_eq_true (by kernel_rfl)) rfl rfl fun wr0 hx0 => by rw [v_spec_l12Busiest]; exact hvc wr0 hx0
noncomputable def c_spec_DomainSpan : Cfg := { P := Tryz.prog, T := tblGet tbl, pf := pfT, ef := efT, tt := ttT, vis := [], n := 49, pm := true, wr := false }
noncomputable def s_spec_DomainSpan : List (Nat × LSpec) := [(5, { chg := [(7, .int .i64), (8, .int .i64)], chgL := [], keep := [0, 1, 2] })]
def V_spec_DomainSpan (cpus : Int) (cpu : Int) (level : Int) (w : World) (R : Value → World → Prop) : Prop :=
    (∃ (l1In : Bool),
    PureX [] Tryz.prog fn_spec_l1In #[.int .i64 cpus, .int .i64 1, .int .i64 4] w (.bool l1In) ∧
    ((!l1In) = false → InR .i64 (cpus - 1)) ∧
    (∃ (l1In1 : Bool),
    ((!l1In) = false → PureX [] Tryz.prog fn_spec_l1In #[.int .i64 cpu, .int .i64 0, .int .i64 (cpus - 1)] w (.bool l1In1)) ∧
    (∃ (xDomain : Int),
    (((!l1In) || (!l1In1)) = false → PureX [] Tryz.prog fn_spec_DomainLevels #[.int .i64 cpus] w (.int .i64 xDomain)) ∧
    (((!l1In) || (!l1In1)) = false → InR .i64 (xDomain - 1)) ∧
    (∃ (l1In2 : Bool),
    (((!l1In) || (!l1In1)) = false → PureX [] Tryz.prog fn_spec_l1In #[.int .i64 level, .int .i64 0, .int .i64 (xDomain - 1)] w (.bool l1In2)) ∧
    ((((!l1In) || (!l1In1)) || (!l1In2)) = true →
    R (.int .i64 0) w) ∧
    ((((!l1In) || (!l1In1)) || (!l1In2)) = false →
    (∃ (xInv : List Value → Prop) (mu : List Value → Nat), xInv [.int .i64 0, .int .i64 0] ∧
    ∀ (m : Int) (c : Int), xInv [.int .i64 m, .int .i64 c] →
    ((decide (c < cpus)) = true →
    InR .i64 (level + 1) ∧
    InR .u64 (level + 1) ∧
    0 ≤ level + 1 ∧
    InR .i64 (level + 1) ∧
    InR .u64 (level + 1) ∧
    0 ≤ level + 1 ∧
    (((Int.fdiv c (2 ^ (min (Int.toNat (level + 1)) 64))) == (Int.fdiv cpu (2 ^ (min (Int.toNat (level + 1)) 64)))) = true →
    InR .u64 c ∧
    (0 ≤ c ∧ InR .i64 (1 * 2 ^ (min (Int.toNat c) 64))) ∧
    InR .i64 (m + (1 * 2 ^ (min (Int.toNat c) 64))) ∧
    InR .i64 (c + 1) ∧
    xInv [.int .i64 (m + (1 * 2 ^ (min (Int.toNat c) 64))), .int .i64 (c + 1)] ∧ mu [.int .i64 (m + (1 * 2 ^ (min (Int.toNat c) 64))), .int .i64 (c + 1)] < mu [.int .i64 m, .int .i64 c]) ∧
    (((Int.fdiv c (2 ^ (min (Int.toNat (level + 1)) 64))) == (Int.fdiv cpu (2 ^ (min (Int.toNat (level + 1)) 64)))) = false →
    InR .i64 (c + 1) ∧
    xInv [.int .i64 m, .int .i64 (c + 1)] ∧ mu [.int .i64 m, .int .i64 (c + 1)] < mu [.int .i64 m, .int .i64 c])) ∧
    ((decide (c < cpus)) = false →
    R (.int .i64 m) w)))))))
theorem v_spec_DomainSpan (cpus : Int) (cpu : Int) (level : Int) (w : World) (R : Value → World → Prop) : evFn c_spec_DomainSpan s_spec_DomainSpan [.int .i64 cpus, .int .i64 cpu, .int .i64 level] (bodyOf Tryz.f20) Tryz.f20.results.toList w R = V_spec_DomainSpan cpus cpu level w R := by kernel_rfl
theorem p_spec_DomainSpan (cpus : Int) (cpu : Int) (level : Int) {w : World} {bs : List Nat} {ret : Value} (hvc : ∀ wr0, ExtX bs w wr0 → V_spec_DomainSpan cpus cpu level wr0 fun v0 _ => v0 = ret) : PureX bs Tryz.prog fn_spec_DomainSpan #[.int .i64 cpus, .int .i64 cpu, .int .i64 level] w ret :=
  pure_of_ev (C := c_spec_DomainSpan) (sps := s_spec_DomainSpan) (body := bodyOf Tryz.f20) (env _ _ _ _ _) Tryz.func20 rfl rfl (of_decide_eq_true (by kernel_rfl)) (of_decide_eq_true (by kernel_rfl)) rfl rfl fun wr0 hx0 => by rw [v_spec_DomainSpan]; exact hvc wr0 hx0
noncomputable def c_laws_toCpu : Cfg := { P := Tryz.prog, T := tblGet tbl, pf := pfT, ef := efT, tt := ttT, vis := [], n := 20, pm := true, wr := false }
noncomputable def s_laws_toCpu : List (Nat × LSpec) := []
def V_laws_toCpu (a0 : Bool) (a1 : Int) (a2 : Int) (a3 : Int) (a4 : Int) (w : World) (R : Value → World → Prop) : Prop :=
    (∀ b, w.heap.size ≤ b →
    (∀ b1, w.heap.size ≤ b1 →
    (∀ b2, w.heap.size ≤ b2 →
    R (.agg #[.bool a0, .int .i64 a1, .int .i64 a2, .int .i64 a3, .int .i64 a4]) w)))
theorem v_laws_toCpu (a0 : Bool) (a1 : Int) (a2 : Int) (a3 : Int) (a4 : Int) (w : World) (R : Value → World → Prop) : evFn c_laws_toCpu s_laws_toCpu [.agg #[.bool a0, .int .i64 a1, .int .i64 a2, .int .i64 a3, .int .i64 a4]] (bodyOf Tryz.f45) Tryz.f45.results.toList w R = V_laws_toCpu a0 a1 a2 a3 a4 w R := by kernel_rfl
theorem p_laws_toCpu (a0 : Bool) (a1 : Int) (a2 : Int) (a3 : Int) (a4 : Int) {w : World} {bs : List Nat} {ret : Value} (hvc : ∀ wr0, ExtX bs w wr0 → V_laws_toCpu a0 a1 a2 a3 a4 wr0 fun v0 _ => v0 = ret) : PureX bs Tryz.prog fn_laws_toCpu #[.agg #[.bool a0, .int .i64 a1, .int .i64 a2, .int .i64 a3, .int .i64 a4]] w ret :=
  pure_of_ev (C := c_laws_toCpu) (sps := s_laws_toCpu) (body := bodyOf Tryz.f45) (env _ _ _ _ _) Tryz.func45 rfl rfl (of_decide_eq_true (by kernel_rfl)) (of_decide_eq_true (by kernel_rfl)) rfl rfl fun wr0 hx0 => by rw [v_laws_toCpu]; exact hvc wr0 hx0
noncomputable def c_laws_toCpuS : Cfg := { P := Tryz.prog, T := tblGet tbl, pf := pfT, ef := efT, tt := ttT, vis := [], n := 23, pm := false, wr := false }
noncomputable def s_laws_toCpuS : List (Nat × LSpec) := [(3, { chg := [(4, .int .i64)], chgL := [], keep := [0, 3] })]
def V_laws_toCpuS (aO : Option Addr) (aL : Nat) (aC : Nat) (w : World) (R : Value → World → Prop) : Prop :=
    (∀ wr, ExtX [] w wr → (∀ bq ∈ ([] : List Nat), bq < wr.heap.size) →
    (∃ (mkO : Option Addr) (mkL : Nat) (mkC : Nat),
    ∃ wv, ((Instr.makeSlice ty_sl_impl_Cpu (.int .i64 ((aL : Nat) : Int)) (.int .i64 ((aL : Nat) : Int))) : Sem Value).run Tryz.prog wr = .ok (.slice mkO mkL mkC) wv ∧ Kept [] wr wv ∧
    (∃ (xInv : List Value → World → Prop) (mu : List Value → World → Nat), (∀ wr1, ExtX [] wv wr1 → (∀ bq ∈ ([] : List Nat), bq < wr1.heap.size) → xInv [.int .i64 0] wr1) ∧
    ∀ (i : Int) wv1, (∀ bq ∈ ([] : List Nat), bq < wv1.heap.size) → xInv [.int .i64 i] wv1 →
    ((decide (i < ((aL : Nat) : Int))) = true →
    Ix aO aL i ∧
    (∃ (x0 : Bool) (x1 : Int) (x2 : Int) (x3 : Int) (x4 : Int),
    CellsX [] wv1 aO (Int.toNat i * 5) [.bool x0, .int .i64 x1, .int .i64 x2, .int .i64 x3, .int .i64 x4] ∧
    (∃ (toCpu : Bool) (toCpu1 : Int) (toCpu2 : Int) (toCpu3 : Int) (toCpu4 : Int),
    PureX [] Tryz.prog fn_laws_toCpu #[.agg #[.bool x0, .int .i64 x1, .int .i64 x2, .int .i64 x3, .int .i64 x4]] wv1 (.agg #[.bool toCpu, .int .i64 toCpu1, .int .i64 toCpu2, .int .i64 toCpu3, .int .i64 toCpu4]) ∧
    Ix mkO mkL i ∧
    WrX [] wv1 mkO (Int.toNat i * 5) 5 ∧
    InR .i64 (i + 1) ∧
    (∀ wr2, ExtX [] (sto wv1 mkO (Int.toNat i * 5) [.bool toCpu, .int .i64 toCpu1, .int .i64 toCpu2, .int .i64 toCpu3, .int .i64 toCpu4]) wr2 → (∀ bq ∈ ([] : List Nat), bq < wr2.heap.size) → xInv [.int .i64 (i + 1)] wr2 ∧ mu [.int .i64 (i + 1)] wr2 < mu [.int .i64 i] wv1)))) ∧
    ((decide (i < ((aL : Nat) : Int))) = false →
    (∀ wr3, ExtX [] wv1 wr3 → R (.slice mkO mkL mkC) wr3)))))
theorem v_laws_toCpuS (aO : Option Addr) (aL : Nat) (aC : Nat) (w : World) (R : Value → World → Prop) : evFn c_laws_toCpuS s_laws_toCpuS [.slice aO aL aC] (bodyOf Tryz.f21) Tryz.f21.results.toList w R = V_laws_toCpuS aO aL aC w R := by kernel_rfl
theorem e_laws_toCpuS (aO : Option Addr) (aL : Nat) (aC : Nat) {w : World} {R : Value → World → Prop} (hvc : V_laws_toCpuS aO aL aC w R) : Calls Tryz.prog fn_laws_toCpuS #[.slice aO aL aC] w fun e0 wr0 => ∃ v0, e0 = .returned v0 ∧ R v0 wr0 :=
  eff_of_ev (C := c_laws_toCpuS) (sps := s_laws_toCpuS) (body := bodyOf Tryz.f21) (env _ _ _ _ _) Tryz.func21 rfl rfl (of_decide_eq_true (by kernel_rfl)) (of_decide_eq_true (by kernel_rfl)) rfl rfl (by rw [v_laws_toCpuS]; exact hvc)
noncomputable def c_laws_toTask : Cfg := { P := Tryz.prog, T := tblGet tbl, pf := pfT, ef := efT, tt := ttT, vis := [], n := 32, pm := true, wr := false }
noncomputable def s_laws_toTask : List (Nat × LSpec) := []
def V_laws_toTask (a0 : Int) (a1 : Int) (a2 : Int) (a3 : Int) (a4 : Int) (a5 : Int) (a6 : Int) (a7 : Int) (a8 : Int) (w : World) (R : Value → World → Prop) : Prop :=
    (∀ b, w.heap.size ≤ b →
    (∀ b1, w.heap.size ≤ b1 →
    (∀ b2, w.heap.size ≤ b2 →
    R (.agg #[.int .i64 a0, .int .i64 a1, .int .i64 a2, .int .i64 a3, .int .i64 a4, .int .i64 a5, .int .i64 a6, .int .i64 a7, .int .i64 a8]) w)))
theorem v_laws_toTask (a0 : Int) (a1 : Int) (a2 : Int) (a3 : Int) (a4 : Int) (a5 : Int) (a6 : Int) (a7 : Int) (a8 : Int) (w : World) (R : Value → World → Prop) : evFn c_laws_toTask s_laws_toTask [.agg #[.int .i64 a0, .int .i64 a1, .int .i64 a2, .int .i64 a3, .int .i64 a4, .int .i64 a5, .int .i64 a6, .int .i64 a7, .int .i64 a8]] (bodyOf Tryz.f46) Tryz.f46.results.toList w R = V_laws_toTask a0 a1 a2 a3 a4 a5 a6 a7 a8 w R := by kernel_rfl
theorem p_laws_toTask (a0 : Int) (a1 : Int) (a2 : Int) (a3 : Int) (a4 : Int) (a5 : Int) (a6 : Int) (a7 : Int) (a8 : Int) {w : World} {bs : List Nat} {ret : Value} (hvc : ∀ wr0, ExtX bs w wr0 → V_laws_toTask a0 a1 a2 a3 a4 a5 a6 a7 a8 wr0 fun v0 _ => v0 = ret) : PureX bs Tryz.prog fn_laws_toTask #[.agg #[.int .i64 a0, .int .i64 a1, .int .i64 a2, .int .i64 a3, .int .i64 a4, .int .i64 a5, .int .i64 a6, .int .i64 a7, .int .i64 a8]] w ret :=
  pure_of_ev (C := c_laws_toTask) (sps := s_laws_toTask) (body := bodyOf Tryz.f46) (env _ _ _ _ _) Tryz.func46 rfl rfl (of_decide_eq_true (by kernel_rfl)) (of_decide_eq_true (by kernel_rfl)) rfl rfl fun wr0 hx0 => by rw [v_laws_toTask]; exact hvc wr0 hx0
noncomputable def c_laws_toTaskS : Cfg := { P := Tryz.prog, T := tblGet tbl, pf := pfT, ef := efT, tt := ttT, vis := [], n := 23, pm := false, wr := false }
noncomputable def s_laws_toTaskS : List (Nat × LSpec) := [(3, { chg := [(4, .int .i64)], chgL := [], keep := [0, 3] })]
def V_laws_toTaskS (aO : Option Addr) (aL : Nat) (aC : Nat) (w : World) (R : Value → World → Prop) : Prop :=
    (∀ wr, ExtX [] w wr → (∀ bq ∈ ([] : List Nat), bq < wr.heap.size) →
    (∃ (mkO : Option Addr) (mkL : Nat) (mkC : Nat),
    ∃ wv, ((Instr.makeSlice ty_sl_impl_Task (.int .i64 ((aL : Nat) : Int)) (.int .i64 ((aL : Nat) : Int))) : Sem Value).run Tryz.prog wr = .ok (.slice mkO mkL mkC) wv ∧ Kept [] wr wv ∧
    (∃ (xInv : List Value → World → Prop) (mu : List Value → World → Nat), (∀ wr1, ExtX [] wv wr1 → (∀ bq ∈ ([] : List Nat), bq < wr1.heap.size) → xInv [.int .i64 0] wr1) ∧
    ∀ (i : Int) wv1, (∀ bq ∈ ([] : List Nat), bq < wv1.heap.size) → xInv [.int .i64 i] wv1 →
    ((decide (i < ((aL : Nat) : Int))) = true →
    Ix aO aL i ∧
    (∃ (x0 : Int) (x1 : Int) (x2 : Int) (x3 : Int) (x4 : Int) (x5 : Int) (x6 : Int) (x7 : Int) (x8 : Int),
    CellsX [] wv1 aO (Int.toNat i * 9) [.int .i64 x0, .int .i64 x1, .int .i64 x2, .int .i64 x3, .int .i64 x4, .int .i64 x5, .int .i64 x6, .int .i64 x7, .int .i64 x8] ∧
    (∃ (toTask : Int) (toTask1 : Int) (toTask2 : Int) (toTask3 : Int) (toTask4 : Int) (toTask5 : Int) (toTask6 : Int) (toTask7 : Int) (toTask8 : Int),
    PureX [] Tryz.prog fn_laws_toTask #[.agg #[.int .i64 x0, .int .i64 x1, .int .i64 x2, .int .i64 x3, .int .i64 x4, .int .i64 x5, .int .i64 x6, .int .i64 x7, .int .i64 x8]] wv1 (.agg #[.int .i64 toTask, .int .i64 toTask1, .int .i64 toTask2, .int .i64 toTask3, .int .i64 toTask4, .int .i64 toTask5, .int .i64 toTask6, .int .i64 toTask7, .int .i64 toTask8]) ∧
    Ix mkO mkL i ∧
    WrX [] wv1 mkO (Int.toNat i * 9) 9 ∧
    InR .i64 (i + 1) ∧
    (∀ wr2, ExtX [] (sto wv1 mkO (Int.toNat i * 9) [.int .i64 toTask, .int .i64 toTask1, .int .i64 toTask2, .int .i64 toTask3, .int .i64 toTask4, .int .i64 toTask5, .int .i64 toTask6, .int .i64 toTask7, .int .i64 toTask8]) wr2 → (∀ bq ∈ ([] : List Nat), bq < wr2.heap.size) → xInv [.int .i64 (i + 1)] wr2 ∧ mu [.int .i64 (i + 1)] wr2 < mu [.int .i64 i] wv1)))) ∧
    ((decide (i < ((aL : Nat) : Int))) = false →
    (∀ wr3, ExtX [] wv1 wr3 → R (.slice mkO mkL mkC) wr3)))))
theorem v_laws_toTaskS (aO : Option Addr) (aL : Nat) (aC : Nat) (w : World) (R : Value → World → Prop) : evFn c_laws_toTaskS s_laws_toTaskS [.slice aO aL aC] (bodyOf Tryz.f22) Tryz.f22.results.toList w R = V_laws_toTaskS aO aL aC w R := by kernel_rfl
theorem e_laws_toTaskS (aO : Option Addr) (aL : Nat) (aC : Nat) {w : World} {R : Value → World → Prop} (hvc : V_laws_toTaskS aO aL aC w R) : Calls Tryz.prog fn_laws_toTaskS #[.slice aO aL aC] w fun e0 wr0 => ∃ v0, e0 = .returned v0 ∧ R v0 wr0 :=
  eff_of_ev (C := c_laws_toTaskS) (sps := s_laws_toTaskS) (body := bodyOf Tryz.f22) (env _ _ _ _ _) Tryz.func22 rfl rfl (of_decide_eq_true (by kernel_rfl)) (of_decide_eq_true (by kernel_rfl)) rfl rfl (by rw [v_laws_toTaskS]; exact hvc)
noncomputable def c_laws_toIntS : Cfg := { P := Tryz.prog, T := tblGet tbl, pf := pfT, ef := efT, tt := ttT, vis := [], n := 22, pm := false, wr := false }
noncomputable def s_laws_toIntS : List (Nat × LSpec) := [(3, { chg := [(4, .int .i64)], chgL := [], keep := [0, 3] })]
def V_laws_toIntS (aO : Option Addr) (aL : Nat) (aC : Nat) (w : World) (R : Value → World → Prop) : Prop :=
    (∀ wr, ExtX [] w wr → (∀ bq ∈ ([] : List Nat), bq < wr.heap.size) →
    (∃ (mkO : Option Addr) (mkL : Nat) (mkC : Nat),
    ∃ wv, ((Instr.makeSlice ty_sl_int (.int .i64 ((aL : Nat) : Int)) (.int .i64 ((aL : Nat) : Int))) : Sem Value).run Tryz.prog wr = .ok (.slice mkO mkL mkC) wv ∧ Kept [] wr wv ∧
    (∃ (xInv : List Value → World → Prop) (mu : List Value → World → Nat), (∀ wr1, ExtX [] wv wr1 → (∀ bq ∈ ([] : List Nat), bq < wr1.heap.size) → xInv [.int .i64 0] wr1) ∧
    ∀ (i : Int) wv1, (∀ bq ∈ ([] : List Nat), bq < wv1.heap.size) → xInv [.int .i64 i] wv1 →
    ((decide (i < ((aL : Nat) : Int))) = true →
    Ix aO aL i ∧
    (∃ (x : Int),
    CellsX [] wv1 aO (Int.toNat i * 1) [.int .i64 x] ∧
    Ix mkO mkL i ∧
    WrX [] wv1 mkO (Int.toNat i * 1) 1 ∧
    InR .i64 (i + 1) ∧
    (∀ wr2, ExtX [] (sto wv1 mkO (Int.toNat i * 1) [.int .i64 x]) wr2 → (∀ bq ∈ ([] : List Nat), bq < wr2.heap.size) → xInv [.int .i64 (i + 1)] wr2 ∧ mu [.int .i64 (i + 1)] wr2 < mu [.int .i64 i] wv1))) ∧
    ((decide (i < ((aL : Nat) : Int))) = false →
    (∀ wr3, ExtX [] wv1 wr3 → R (.slice mkO mkL mkC) wr3)))))
theorem v_laws_toIntS (aO : Option Addr) (aL : Nat) (aC : Nat) (w : World) (R : Value → World → Prop) : evFn c_laws_toIntS s_laws_toIntS [.slice aO aL aC] (bodyOf Tryz.f120) Tryz.f120.results.toList w R = V_laws_toIntS aO aL aC w R := by kernel_rfl
theorem e_laws_toIntS (aO : Option Addr) (aL : Nat) (aC : Nat) {w : World} {R : Value → World → Prop} (hvc : V_laws_toIntS aO aL aC w R) : Calls Tryz.prog fn_laws_toIntS #[.slice aO aL aC] w fun e0 wr0 => ∃ v0, e0 = .returned v0 ∧ R v0 wr0 :=
  eff_of_ev (C := c_laws_toIntS) (sps := s_laws_toIntS) (body := bodyOf Tryz.f120) (env _ _ _ _ _) Tryz.func120 rfl rfl (of_decide_eq_true (by kernel_rfl)) (of_decide_eq_true (by kernel_rfl)) rfl rfl (by rw [v_laws_toIntS]; exact hvc)
noncomputable def c_laws_toBoolS : Cfg := { P := Tryz.prog, T := tblGet tbl, pf := pfT, ef := efT, tt := ttT, vis := [], n := 22, pm := false, wr := false }
noncomputable def s_laws_toBoolS : List (Nat × LSpec) := [(3, { chg := [(4, .int .i64)], chgL := [], keep := [0, 3] })]
def V_laws_toBoolS (aO : Option Addr) (aL : Nat) (aC : Nat) (w : World) (R : Value → World → Prop) : Prop :=
    (∀ wr, ExtX [] w wr → (∀ bq ∈ ([] : List Nat), bq < wr.heap.size) →
    (∃ (mkO : Option Addr) (mkL : Nat) (mkC : Nat),
    ∃ wv, ((Instr.makeSlice ty_sl_bool (.int .i64 ((aL : Nat) : Int)) (.int .i64 ((aL : Nat) : Int))) : Sem Value).run Tryz.prog wr = .ok (.slice mkO mkL mkC) wv ∧ Kept [] wr wv ∧
    (∃ (xInv : List Value → World → Prop) (mu : List Value → World → Nat), (∀ wr1, ExtX [] wv wr1 → (∀ bq ∈ ([] : List Nat), bq < wr1.heap.size) → xInv [.int .i64 0] wr1) ∧
    ∀ (i : Int) wv1, (∀ bq ∈ ([] : List Nat), bq < wv1.heap.size) → xInv [.int .i64 i] wv1 →
    ((decide (i < ((aL : Nat) : Int))) = true →
    Ix aO aL i ∧
    (∃ (x : Bool),
    CellsX [] wv1 aO (Int.toNat i * 1) [.bool x] ∧
    Ix mkO mkL i ∧
    WrX [] wv1 mkO (Int.toNat i * 1) 1 ∧
    InR .i64 (i + 1) ∧
    (∀ wr2, ExtX [] (sto wv1 mkO (Int.toNat i * 1) [.bool x]) wr2 → (∀ bq ∈ ([] : List Nat), bq < wr2.heap.size) → xInv [.int .i64 (i + 1)] wr2 ∧ mu [.int .i64 (i + 1)] wr2 < mu [.int .i64 i] wv1))) ∧
    ((decide (i < ((aL : Nat) : Int))) = false →
    (∀ wr3, ExtX [] wv1 wr3 → R (.slice mkO mkL mkC) wr3)))))
theorem v_laws_toBoolS (aO : Option Addr) (aL : Nat) (aC : Nat) (w : World) (R : Value → World → Prop) : evFn c_laws_toBoolS s_laws_toBoolS [.slice aO aL aC] (bodyOf Tryz.f121) Tryz.f121.results.toList w R = V_laws_toBoolS aO aL aC w R := by kernel_rfl
end Go.Proofs.YtnofpcbjpcoghaaGreat
