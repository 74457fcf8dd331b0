/- Arguments that can be read as data: their cells, by the type's shape. -/
import Derived.Test.YthojnihahmlboaaGreatOwn
import Derived.Test.YthojnihahmlboaaGreatTab
import Derived.ChangeArms
namespace Go.Proofs.YthojnihahmlboaaGreat
open Go.RowKit Go.ChangeShapes
set_option linter.unusedVariables false
set_option linter.unusedSimpArgs false

section
variable {H : Type} {en : TypeId × Value → H} {P : Program} {w : World} {base : Nat} {spare : Nat → Bool} {held : Bool} {fuel : Nat} {t : TypeId} {cs : List Value} {x : DataW H × List MemPlace}

def structFs (P : Program) (t : TypeId) : Array Field := match P.underlying t with
  | some (.struct fs) => fs
  | _ => #[]
theorem tr_struct {l : List (TypeId × Nat)} (hu : P.underlying t = some (.struct (structFs P t))) (hl : (structFs P t).toList.map (fun f => (f.type, f.offset)) = l)
    (h : DataW.trod en P w base spare held fuel t cs = some x) : cs.length = P.cellsOf t ∧ ∀ p ∈ l, ∃ n y, DataW.trod en P w base spare held n p.1 ((cs.drop p.2).take (P.cellsOf p.1)) = some y := by
  obtain ⟨xs, n, _, _, hlen, hxs, hf⟩ := DataW.trod_struct hu h
  refine ⟨hlen, fun p hp => ?_⟩
  rw [← hl] at hp
  obtain ⟨f, hfm, rfl⟩ := List.mem_map.1 hp
  obtain ⟨i, hi⟩ := List.getElem?_of_mem hfm
  have hi' : (structFs P t)[i]? = some f := by simpa using hi
  have hlt : i < xs.length := by
    have := (Array.getElem?_eq_some_iff.1 hi').1
    omega
  refine ⟨n, xs[i], ?_⟩
  have := hf i f hi'
  rw [List.getElem?_eq_getElem hlt] at this
  exact this
theorem tr_slice {e : TypeId} (hu : P.underlying t = some (.slice e)) (h : DataW.trod en P w base spare held fuel t cs = some x) :
    ∃ (o : Option Addr) (len cap : Nat), cs = [.slice o len cap] ∧ len ≤ cap ∧ cap ≤ maxLen ∧ ∀ i, i < len → ∃ a n y ec, o = some a ∧ w.cells? base (a.add (i * P.cellsOf e)) (P.cellsOf e) = some ec ∧ DataW.trod en P w base spare held n e ec = some y := by
  rcases DataW.trod_slice hu h with ⟨rfl, _⟩ | ⟨a, len, cap, elems, rest, n, _, rfl, _, _, hl, hm, hlen, hel, _, _⟩
  · exact ⟨none, 0, 0, rfl, Nat.le_refl _, Nat.zero_le _, fun i hi => absurd hi (Nat.not_lt_zero i)⟩
  · refine ⟨some a, len, cap, rfl, hl, hm, fun i hi => ?_⟩
    have h1 := hel i hi
    rw [List.getElem?_eq_getElem (by omega), Option.bind_eq_some_iff] at h1
    obtain ⟨ec, h2, h3⟩ := h1
    exact ⟨a, n, _, ec, rfl, h2, h3⟩
theorem list_of {α : Type} [Inhabited α] {R : Nat → α → Prop} : ∀ (n : Nat), (∀ i, i < n → ∃ a, R i a) → ∃ l : List α, l.length = n ∧ ∀ i, i < n → R i (l.getD i default)
  | 0, _ => ⟨[], rfl, fun i hi => absurd hi (Nat.not_lt_zero i)⟩
  | n + 1, h => by
    obtain ⟨l, hl, hr⟩ := list_of n fun i hi => h i (by omega)
    obtain ⟨a, ha⟩ := h n (by omega)
    refine ⟨l ++ [a], by simp [hl], fun i hi => ?_⟩
    by_cases hin : i < n
    · have := hr i hin
      rw [List.getD_eq_getElem?_getD] at this ⊢
      rwa [List.getElem?_append_left (by omega)]
    · have : i = n := by omega
      subst this
      rw [List.getD_eq_getElem?_getD, List.getElem?_append_right (by omega), hl]
      simpa using ha
theorem rd_of {α : Type} [Inhabited α] {enc : α → List Value} {Q : α → Prop} {z : Nat} {e : TypeId} (hu : P.underlying t = some (.slice e)) (hz : P.cellsOf e = z)
    (each : ∀ ec n y, DataW.trod en P w base spare held n e ec = some y → ∃ a : α, ec = enc a ∧ Q a) (h : DataW.trod en P w base spare held fuel t cs = some x) :
    ∃ (o : Option Addr) (cap : Nat) (l : List α), cs = [.slice o l.length cap] ∧ l.length ≤ cap ∧ cap ≤ maxLen ∧ Rd enc z [] w o l ∧ ∀ i : Int, 0 ≤ i → i < (l.length : Int) → Q (gi l i) := by
  obtain ⟨o, len, cap, rfl, h1, h2, h3⟩ := tr_slice hu h
  rw [hz] at h3
  obtain ⟨l, hl, hr⟩ := list_of (R := fun i a => CellsX [] w o (i * z) (enc a) ∧ Q a) len fun i hi => by
    obtain ⟨ad, n, y, ec, ho, hc, ht⟩ := h3 i hi
    obtain ⟨a, rfl, hq⟩ := each ec n y ht
    refine ⟨a, cellsX_mk fun j v hj => ?_, hq⟩
    obtain ⟨_, hlen, hcell⟩ := World.cells?_some hc
    have hjl : j < z := by
      have := (List.getElem?_eq_some_iff.1 hj).1
      omega
    refine ⟨ad, ho, by simp, ?_⟩
    have := hcell j hjl
    rw [add_add'] at this
    rw [this]; exact hj
  subst hl
  refine ⟨o, cap, l, rfl, h1, h2, fun i h0 hi => ?_, fun i h0 hi => ?_⟩
  · exact (hr i.toNat (by omega)).1
  · exact (hr i.toNat (by omega)).2
theorem wf_i64 {n : Int} (h : (Lit.int .i64 n).wf = true) : InR .i64 n := by
  simpa [Lit.wf, IntKind.min, IntKind.max, IntKind.signed, IntKind.bits, InR] using h
theorem tr_i {t : TypeId} (hu : P.underlying t = some (.int .i64)) (h : DataW.trod en P w base spare held fuel t cs = some x) : ∃ n : Int, cs = [.int .i64 n] ∧ InR .i64 n := by
  obtain ⟨n, h1, _, h2⟩ := DataW.trod_int hu h
  exact ⟨n, h1, wf_i64 h2⟩
theorem tr_b {t : TypeId} (hu : P.underlying t = some .bool) (h : DataW.trod en P w base spare held fuel t cs = some x) : ∃ b : Bool, cs = [.bool b] := by
  obtain ⟨b, h1, _⟩ := DataW.trod_bool hu h
  exact ⟨b, h1⟩
theorem tr_s {t : TypeId} (hu : P.underlying t = some .string) (h : DataW.trod en P w base spare held fuel t cs = some x) : ∃ s : ByteArray, cs = [.string s] ∧ s.size ≤ maxLen := by
  obtain ⟨s, h1, _, h2⟩ := DataW.trod_string hu h
  exact ⟨s, h1, h2⟩
theorem agg_of {v : Value} {n : Nat} (h : v.cells.toList.length = n) (hn : n ≠ 1) : v = .agg v.cells := by
  cases v with
  | agg cs => rfl
  | _ => simp [Value.cells] at h; omega
end
theorem len1 {l : List Value} (h : l.length = 1) : ∃ a, l = [a] := by
  match l, h with
  | [a], _ => exact ⟨a, rfl⟩
theorem len3 {l : List Value} (h : l.length = 3) : ∃ a0 a1 a2, l = [a0, a1, a2] := by
  match l, h with
  | [a0, a1, a2], _ => exact ⟨a0, a1, a2, rfl⟩
theorem len4 {l : List Value} (h : l.length = 4) : ∃ a0 a1 a2 a3, l = [a0, a1, a2, a3] := by
  match l, h with
  | [a0, a1, a2, a3], _ => exact ⟨a0, a1, a2, a3, rfl⟩
theorem len5 {l : List Value} (h : l.length = 5) : ∃ a0 a1 a2 a3 a4, l = [a0, a1, a2, a3, a4] := by
  match l, h with
  | [a0, a1, a2, a3, a4], _ => exact ⟨a0, a1, a2, a3, a4, rfl⟩
theorem len9 {l : List Value} (h : l.length = 9) : ∃ a0 a1 a2 a3 a4 a5 a6 a7 a8, l = [a0, a1, a2, a3, a4, a5, a6, a7, a8] := by
  match l, h with
  | [a0, a1, a2, a3, a4, a5, a6, a7, a8], _ => exact ⟨a0, a1, a2, a3, a4, a5, a6, a7, a8, rfl⟩
theorem len14 {l : List Value} (h : l.length = 14) : ∃ a0 a1 a2 a3 a4 a5 a6 a7 a8 a9 a10 a11 a12 a13, l = [a0, a1, a2, a3, a4, a5, a6, a7, a8, a9, a10, a11, a12, a13] := by
  match l, h with
  | [a0, a1, a2, a3, a4, a5, a6, a7, a8, a9, a10, a11, a12, a13], _ => exact ⟨a0, a1, a2, a3, a4, a5, a6, a7, a8, a9, a10, a11, a12, a13, rfl⟩
theorem u_int : Tryz.prog.underlying ty_int = some (.int .i64) := by kernel_rfl
theorem u_bool : Tryz.prog.underlying ty_bool = some .bool := by kernel_rfl
theorem c_int : Tryz.prog.cellsOf ty_int = 1 := by kernel_rfl
theorem c_bool : Tryz.prog.cellsOf ty_bool = 1 := by kernel_rfl
theorem u_sl_int : Tryz.prog.underlying ty_sl_int = some (.slice ty_int) := by kernel_rfl
theorem u_sl_bool : Tryz.prog.underlying ty_sl_bool = some (.slice ty_bool) := by kernel_rfl
theorem c_sl_int : Tryz.prog.cellsOf ty_sl_int = 1 := by kernel_rfl
theorem c_sl_bool : Tryz.prog.cellsOf ty_sl_bool = 1 := by kernel_rfl
theorem elt_Int : Elt Tryz.prog encI 1 ty_int 8 (0 : Int) := elt_of (by kernel_rfl) fun _ => rfl
theorem elt_Bool : Elt Tryz.prog encB 1 ty_bool 1 (false : Bool) := elt_of (by kernel_rfl) fun _ => rfl
end Go.Proofs.YthojnihahmlboaaGreat
