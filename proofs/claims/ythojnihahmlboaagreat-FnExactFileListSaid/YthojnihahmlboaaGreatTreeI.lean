/- The tree of groups as the program builds it: nodes with pointers, a map of names. -/
import Derived.Test.YthojnihahmlboaaGreatTreeN
import Derived.Test.YthojnihahmlboaaGreatEqv
namespace Go.Proofs.YthojnihahmlboaaGreat
open Go.RowKit
set_option linter.unusedVariables false
set_option linter.unusedSimpArgs false
set_option maxRecDepth 10000

/-! ### The map of names -/
theorem flat_nodeKey : FlatT Tryz.prog ty_impl_nodeKey := ⟨by kernel_rfl, by kernel_rfl, by kernel_rfl⟩
def keyV (p : Int) (n : ByteArray) : Value := .agg #[.int .i64 p, .string n]
theorem fe_nodeKey (p q : Int) (n m : ByteArray) : flatE Tryz.prog (Tryz.prog.fieldsOf ty_impl_nodeKey).toList 0 [.int .i64 p, .string n] [.int .i64 q, .string m] = some ((p == q) && (strEq n m && true)) := by kernel_rfl
theorem run_keyEq (p q : Int) (n m : ByteArray) (w : World) : (Op.equal ty_impl_nodeKey (keyV p n) (keyV q m)).run Tryz.prog w = .ok (decide (p = q ∧ n = m)) w := by
  have := run_equal_of flat_nodeKey (fe_nodeKey p q n m) w
  have e : ((p == q) && (strEq n m && true)) = decide (p = q ∧ n = m) := by
    rw [strEq_eq, Bool.and_true]
    by_cases h1 : p = q <;> by_cases h2 : n = m <;> simp [h1, h2]
  rw [e] at this
  exact this
theorem run_find (p : Int) (n : ByteArray) (w : World) : ∀ (es : List MapEntry) (i : Nat), (∀ e ∈ es, ∃ q m v, e.key = keyV q m ∧ e.val = .int .i64 v) →
    (∃ (j : Nat) (v : Int), (Instr.findAsking ty_impl_nodeKey (keyV p n) es i).run Tryz.prog w = .ok (some (j, .int .i64 v)) w ∧ ∃ e ∈ es, e.key = keyV p n) ∨
    ((Instr.findAsking ty_impl_nodeKey (keyV p n) es i).run Tryz.prog w = .ok none w ∧ ∀ e ∈ es, e.key ≠ keyV p n)
  | [], i, _ => .inr ⟨by simp [Instr.findAsking], fun e he => by cases he⟩
  | e :: r, i, h => by
    obtain ⟨q, m, v, hk, hv⟩ := h e (List.mem_cons_self ..)
    by_cases hq : p = q ∧ n = m
    · refine .inl ⟨i, v, ?_, e, List.mem_cons_self .., by rw [hk, hq.1, hq.2]⟩
      simp only [Instr.findAsking, hk, Sem.run_bind, run_keyEq, decide_eq_true hq, Result.andThen_ok, if_true, Sem.run_pure, hv]
    · have hstep : (Instr.findAsking ty_impl_nodeKey (keyV p n) (e :: r) i).run Tryz.prog w = (Instr.findAsking ty_impl_nodeKey (keyV p n) r (i + 1)).run Tryz.prog w := by
        simp only [Instr.findAsking, hk, Sem.run_bind, run_keyEq, decide_eq_false hq, Result.andThen_ok, Bool.false_eq_true, if_false]
      have hne : e.key ≠ keyV p n := fun e' => by
        rw [hk] at e'
        simp only [keyV, Value.agg.injEq, List.toArray_inj, Array.mk.injEq, List.cons.injEq, Value.int.injEq, true_and, Value.string.injEq, and_true] at e'
        exact hq ⟨e'.1.symm, e'.2.symm⟩
      rcases run_find p n w r (i + 1) (fun x hx => h x (List.mem_cons_of_mem _ hx)) with ⟨j, v', h1, x, hx, h2⟩ | ⟨h1, h2⟩
      · exact .inl ⟨j, v', by rw [hstep]; exact h1, x, List.mem_cons_of_mem _ hx, h2⟩
      · exact .inr ⟨by rw [hstep]; exact h1, fun x hx => by
          rcases List.mem_cons.1 hx with rfl | hx
          · exact hne
          · exact h2 x hx⟩
theorem run_findKey (p : Int) (n : ByteArray) (w : World) (es : List MapEntry) (h : ∀ e ∈ es, ∃ q m v, e.key = keyV q m ∧ e.val = .int .i64 v) :
    (∃ (j : Nat) (v : Int), (Instr.findKey ty_impl_nodeKey (keyV p n) es).run Tryz.prog w = .ok (some (j, .int .i64 v)) w ∧ ∃ e ∈ es, e.key = keyV p n) ∨
    ((Instr.findKey ty_impl_nodeKey (keyV p n) es).run Tryz.prog w = .ok none w ∧ ∀ e ∈ es, e.key ≠ keyV p n) := by
  cases es with
  | nil => exact .inr ⟨by simp [Instr.findKey, run_underlying flat_nodeKey.u, Instr.findNow], fun e he => by cases he⟩
  | cons e r =>
    have hs : (Instr.findKey ty_impl_nodeKey (keyV p n) (e :: r)).run Tryz.prog w = (Instr.findAsking ty_impl_nodeKey (keyV p n) (e :: r) 0).run Tryz.prog w := by
      simp [Instr.findKey, run_underlying flat_nodeKey.u, Instr.findNow, Instr.sameNow]
    rw [hs]
    exact run_find p n w (e :: r) 0 h
theorem fields_nodeKey : ∃ a b : Field, (Tryz.prog.fieldsOf ty_impl_nodeKey).toList = [a, b] ∧ a.type = ty_int ∧ a.offset = 0 ∧ b.type = ty_string ∧ b.offset = 1 := ⟨(Tryz.prog.fieldsOf ty_impl_nodeKey)[0]!, (Tryz.prog.fieldsOf ty_impl_nodeKey)[1]!, by kernel_rfl, by kernel_rfl, by kernel_rfl, by kernel_rfl, by kernel_rfl⟩
theorem run_checkKey (em : Bool) (p : Int) (n : ByteArray) (w : World) : (Instr.checkKey em 10000 ty_impl_nodeKey (keyV p n)).run Tryz.prog w = .ok () w := by
  obtain ⟨a, b, hl, a1, a2, b1, b2⟩ := fields_nodeKey
  have p1 : (part ty_int #[.int .i64 p, .string n] 0).run Tryz.prog w = .ok (.int .i64 p) w := by simp [part, run_isAgg' u_int, isAggD]
  have p2 : (part ty_string #[.int .i64 p, .string n] 1).run Tryz.prog w = .ok (.string n) w := by simp [part, run_isAgg' u_string, isAggD]
  have c1 : ∀ d : Nat, (Instr.checkKey em (d + 1) ty_int (.int .i64 p)).run Tryz.prog w = .ok () w := fun d => by simp [Instr.checkKey, run_underlying u_int]
  have c2 : ∀ d : Nat, (Instr.checkKey em (d + 1) ty_string (.string n)).run Tryz.prog w = .ok () w := fun d => by simp [Instr.checkKey, run_underlying u_string]
  have key : ∀ d : Nat, (Instr.checkKey em (d + 1 + 1) ty_impl_nodeKey (keyV p n)).run Tryz.prog w = .ok () w := fun d => by
    rw [Instr.checkKey]
    simp only [keyV, Sem.run_bind, run_underlying flat_nodeKey.u, Result.andThen_ok]
    rw [← Array.forIn_toList, hl]
    by_cases ha : a.name ≠ "_" <;> by_cases hb : b.name ≠ "_" <;> simp [ha, hb, a1, a2, b1, b2, p1, p2, c1, c2]
  exact key 9998
theorem u_nodeMap : Tryz.prog.underlying ty_map_impl_nodeKey_int = some (.map ty_impl_nodeKey ty_int) := by kernel_rfl
theorem z_int (w : World) : (zeroValue ty_int).run Tryz.prog w = .ok (.int .i64 0) w := by
  have h : (match Tryz.prog.info? ty_int with | some i => i.zero | none => none) = some (.int .i64 0) := by kernel_rfl
  cases hi : Tryz.prog.info? ty_int with
  | none => rw [hi] at h; cases h
  | some i =>
    rw [hi] at h
    simp only at h
    simp [zeroValue, run_typeInfo' hi, h]
/-- The map's entries: keys and numbers. -/
def MapAt (w : World) (b : Nat) (es : Array MapEntry) : Prop := (∃ c, w.heap[b]? = some (.map es c)) ∧ ∀ e ∈ es.toList, ∃ q m v, e.key = keyV q m ∧ e.val = .int .i64 v
theorem run_look {w : World} {b : Nat} {es : Array MapEntry} (h : MapAt w b es) (p : Int) (n : ByteArray) :
    ∃ (v : Int) (ok : Bool), (Instr.lookup ty_map_impl_nodeKey_int (.map (some b)) (keyV p n) true).run Tryz.prog w = .ok (.tuple #[.int .i64 v, .bool ok]) w ∧ (ok = true ↔ ∃ e ∈ es.toList, e.key = keyV p n) := by
  obtain ⟨⟨c, hc⟩, hes⟩ := h
  have hg : (getObj b).run Tryz.prog w = .ok (.map es c) w := by simp [getObj, Sem.run, hc]
  rcases run_findKey p n w es.toList hes with ⟨j, v, h1, h2⟩ | ⟨h1, h2⟩
  · exact ⟨v, true, by simp [Instr.lookup, run_underlying u_nodeMap, hg, run_checkKey, h1], by simpa using h2⟩
  · exact ⟨0, false, by simp [Instr.lookup, run_underlying u_nodeMap, hg, run_checkKey, h1, z_int], ⟨fun h => (by cases h), fun ⟨e, he, hk⟩ => absurd hk (h2 e he)⟩⟩
theorem run_upd {w : World} {b : Nat} {es : Array MapEntry} (h : MapAt w b es) {p : Int} {n : ByteArray} (hno : ∀ e ∈ es.toList, e.key ≠ keyV p n) (v : Int) :
    ∃ w' c, ((do Instr.mapUpdate ty_map_impl_nodeKey_int (.map (some b)) (keyV p n) (.int .i64 v); pure undef) : Sem Value).run Tryz.prog w = .ok undef w' ∧ ExtX [b] w w' ∧ MapAt w' b (es.push { key := keyV p n, val := .int .i64 v, born := c }) := by
  obtain ⟨⟨c, hc⟩, hes⟩ := h
  have hg : (getObj b).run Tryz.prog w = .ok (.map es c) w := by simp [getObj, Sem.run, hc]
  have hfk : (Instr.findKey ty_impl_nodeKey (keyV p n) es.toList).run Tryz.prog w = .ok none w := by
    rcases run_findKey p n w es.toList hes with ⟨j, v, _, e, he, hk⟩ | ⟨h1, _⟩
    · exact absurd hk (hno e he)
    · exact h1
  have hs : (setObj b (.map (es.push { key := keyV p n, val := .int .i64 v, born := c }) (c + 1))).run Tryz.prog w = .ok () { w with heap := w.heap.setIfInBounds b (.map (es.push { key := keyV p n, val := .int .i64 v, born := c }) (c + 1)) } := by
    simp [setObj, Sem.run, hc]
  have hlt := blk_lt hc
  refine ⟨{ w with heap := w.heap.setIfInBounds b (.map (es.push { key := keyV p n, val := .int .i64 v, born := c }) (c + 1)) }, c, by simp [Instr.mapUpdate, run_underlying u_nodeMap, hg, run_checkKey, hfk, hs], ⟨rfl, rfl, rfl, by simp, fun k _ hk => ?_⟩, ⟨c + 1, by simp [hlt]⟩, fun e he => ?_⟩
  · have : b ≠ k := fun e => hk (by simp [e])
    show (w.heap.setIfInBounds b _)[k]? = _
    rw [Array.getElem?_setIfInBounds_ne this]
  · rw [Array.toList_push, List.mem_append] at he
    rcases he with he | he
    · exact hes e he
    · rw [List.mem_singleton] at he
      subst he
      exact ⟨p, n, v, rfl, rfl⟩
theorem MapAt.ext {w w' : World} {b : Nat} {es : Array MapEntry} {bs : List Nat} (h : MapAt w b es) (hx : ExtX bs w w') (hb : b ∉ bs) : MapAt w' b es := by
  obtain ⟨⟨c, hc⟩, hes⟩ := h
  exact ⟨⟨c, blk_ext hc hx hb⟩, hes⟩

/-! ### Nodes -/
def encQ (p : Option Addr) : List Value := [.pointer p]
theorem encQ_c (x : Option Addr) : ∃ v r, encQ x = v :: r := ⟨_, _, rfl⟩
theorem elt_Node : Elt Tryz.prog encQ 1 ty_p_impl_node 8 none := elt_of (by kernel_rfl) fun _ => rfl
theorem u_sl_node : Tryz.prog.underlying ty_sl_p_impl_node = some (.slice ty_p_impl_node) := by kernel_rfl
def NodeAt (w : World) (b : Nat) (g : Int) (n : ByteArray) (up : Option Addr) : Prop := w.heap[b]? = some (.cells ([.int .i64 g, .string n, .pointer up] : List Value).toArray ty_impl_node (0, 0))
theorem NodeAt.ext {w w' : World} {b : Nat} {g : Int} {n : ByteArray} {up : Option Addr} {bs : List Nat} (h : NodeAt w b g n up) (hx : ExtX bs w w') (hb : b ∉ bs) : NodeAt w' b g n up := blk_ext h hx hb
theorem NodeAt.cells {w : World} {b : Nat} {g : Int} {n : ByteArray} {up : Option Addr} (h : NodeAt w b g n up) {bs : List Nat} (hb : b ∉ bs) : CellsX bs w (some ⟨b, 0, none⟩) 0 [.int .i64 g, .string n, .pointer up] :=
  cellsX_blk h hb fun j v hj => by rw [Nat.zero_add, Nat.zero_add]; exact hj
/-- The parent's node; the root has none. -/
def upOf (gs : List Grp) (nb : Int → Nat) (x : Int) : Option Addr := if x = 0 then none else some ⟨nb (gi gs x).parent, 0, none⟩
/-- All nodes, tied to their parents. -/
structure Ns (bs : List Nat) (w : World) (gs : List Grp) (nb : Int → Nat) : Prop where
  node : ∀ x : Int, usedD gs x = true → CellsX bs w (some ⟨nb x, 0, none⟩) 0 [.int .i64 x, .string (gi gs x).name, .pointer (upOf gs nb x)]
  par : ∀ x : Int, x ≠ 0 → usedD gs x = true → usedD gs (gi gs x).parent = true
theorem Ns.ext {bs : List Nat} {w w' : World} {gs : List Grp} {nb : Int → Nat} (h : Ns bs w gs nb) (hx : ExtX bs w w') : Ns bs w' gs nb := ⟨fun x hu => (h.node x hu).ext hx, h.par⟩
theorem Ns.less {bs cs : List Nat} {w : World} {gs : List Grp} {nb : Int → Nat} (h : Ns bs w gs nb) (hs : ∀ x ∈ cs, x ∈ bs) : Ns cs w gs nb := ⟨fun x hu => (h.node x hu).less hs, h.par⟩
def ndep (gs : List Grp) (f : Nat) (x : Int) (s : Int) : Int := if dep f gs x < 0 then -1 else s + dep f gs x
theorem k_depth {gs : List Grp} {nb : Int → Nat} {w : World} {bs : List Nat} (h : Ns bs w gs nb) {x : Int} (hu : usedD gs x = true) : PureX bs Tryz.prog fn_impl_node_depth #[.pointer (some ⟨nb x, 0, none⟩)] w (.int .i64 (ndep gs 3 x 0)) :=
  p_impl_node_depth (some ⟨nb x, 0, none⟩) fun wr hx => by
    have h := (h.ext hx).less (cs := []) (by simp)
    refine ⟨fun vs => (∃ (y : Int) (s : Nat), usedD gs y = true ∧ s ≤ 4 ∧ vs = [.pointer (some ⟨nb y, 0, none⟩), .int .i64 (s : Int)] ∧ (s ≤ 3 → ndep gs (3 - s) y s = ndep gs 3 x 0) ∧ (s = 4 → ndep gs 3 x 0 = -1)) ∨ ∃ s : Nat, s ≤ 4 ∧ vs = [.pointer none, .int .i64 (s : Int)] ∧ ndep gs 3 x 0 = -1, fun vs => (5 - ctrAt 1 vs).toNat, .inl ⟨x, 0, hu, by omega, rfl, fun _ => rfl, fun h => by omega⟩, ?_⟩
    rintro n1 st (⟨y, s, hy, hs, he, h1, h2⟩ | ⟨s, hs, he, h1⟩)
    · simp only [List.cons.injEq, Value.int.injEq, Value.pointer.injEq, true_and, and_true] at he
      obtain ⟨rfl, rfl⟩ := he
      refine ⟨fun hc => ?_, fun hc => ?_⟩
      · have hs3 : s ≤ 3 := by
          simp only [Option.isNone_some, Bool.not_false, Bool.true_and, decide_eq_true_eq] at hc
          omega
        have hn := h.node y hy
        refine ⟨rfl, y, hn.get 0 _ rfl, fun hz => ?_, fun hz => ?_⟩
        · have hz : y = 0 := by simpa using hz
          rw [← h1 hs3]
          subst hz
          unfold ndep
          rw [dep_root, if_neg (by omega), Int.add_zero]
        · have hz : y ≠ 0 := by simpa using hz
          have hm : upOf gs nb y = some ⟨nb (gi gs y).parent, 0, none⟩ := by unfold upOf; rw [if_neg hz]
          refine ⟨⟨by omega, by omega⟩, rfl, _, by have := hn.get 2 _ rfl; exact this, .inl ⟨(gi gs y).parent, s + 1, h.par y hz hy, by omega, by rw [hm]; simp, fun hs' => ?_, fun hs' => ?_⟩, ?_⟩
          · rw [← h1 hs3]
            have e : 3 - s = (3 - (s + 1)) + 1 := by omega
            rw [e]
            unfold ndep
            simp only [dep, if_neg hz]
            by_cases hd : dep (3 - (s + 1)) gs (gi gs y).parent < 0
            · rw [if_pos hd, if_pos hd, if_pos (by omega)]
            · rw [if_neg hd, if_neg hd, if_neg (by omega)]; omega
          · rw [← h1 hs3]
            have e : 3 - s = 0 := by omega
            rw [e]
            unfold ndep
            simp only [dep, if_neg hz]
            rfl
          · show (5 - ((s : Int) + 1)).toNat < (5 - (s : Int)).toNat
            omega
      · have hs4 : s = 4 := by
          simp only [Option.isNone_some, Bool.not_false, Bool.true_and, decide_eq_false_iff_not] at hc
          omega
        rw [h2 hs4]
    · simp only [List.cons.injEq, Value.int.injEq, Value.pointer.injEq, true_and, and_true] at he
      obtain ⟨rfl, rfl⟩ := he
      refine ⟨fun hc => by simp at hc, fun _ => by rw [h1]⟩
section
variable {gs : List Grp} {ms : Nat → MG} {o : Option Addr} {c : Nat} {w : World} {bs : List Nat}
theorem k_impl_groupUsed {g : Int} (h : RdG bs w o gs ms) (hl : gs.length ≤ maxLen) : PureX bs Tryz.prog fn_impl_groupUsed #[.slice o gs.length c, .int .i64 g] w (.bool (usedD gs g)) :=
  p_impl_groupUsed o gs.length c g fun wr hx => by
    have h := (h.ext hx).less (cs := []) (by simp)
    have := maxLen_le
    have e : inB g 0 ((gs.length : Int) - 1) = (decide (g ≥ 0) && decide (g < (gs.length : Int))) := by
      unfold inB
      congr 1
      exact decide_eq_decide.2 (by omega)
    refine ⟨⟨by omega, by omega⟩, _, k_impl_inRange, fun q => ?_, (gi gs g).used, fun q => ?_, by rw [e]; rfl⟩
    · have q := inB_t.1 q
      exact h.ix (by omega) (by omega)
    · have q := inB_t.1 q
      exact h.used (by omega) (by omega)
theorem pl_none {pl : List (Option Addr)} {i : Int} (h : gi pl i = none) : gi pl i = none := h
theorem k_nodes (h : RdG [] w o gs ms) (hl : gs.length ≤ maxLen) :
    Calls Tryz.prog fn_impl_nodes #[.slice o gs.length c] w fun e w' => ∃ (o' : Option Addr) (L C : Nat) (ok : Bool), e = .returned (.tuple #[.slice o' L C, .bool ok]) ∧ ok = treeB gs ∧ ExtX [] w w' ∧
      (ok = false → L = 0) ∧ (ok = true → L = 8 ∧ ∃ (pl : List (Option Addr)) (nb : Int → Nat), pl.length = 8 ∧ Rd encQ 1 [] w' o' pl ∧ (∀ g : Int, 0 ≤ g → g < 8 → gi pl g = if (gi gs g).used then some ⟨nb g, 0, none⟩ else none) ∧ Ns [] w' gs nb) := by
  refine (e_impl_nodes o gs.length c (R := fun v w' => ∃ (o' : Option Addr) (L C : Nat) (ok : Bool), v = .tuple #[.slice o' L C, .bool ok] ∧ ok = treeB gs ∧ ExtX [] w w' ∧
      (ok = false → L = 0) ∧ (ok = true → L = 8 ∧ ∃ (pl : List (Option Addr)) (nb : Int → Nat), pl.length = 8 ∧ Rd encQ 1 [] w' o' pl ∧ (∀ g : Int, 0 ≤ g → g < 8 → gi pl g = if (gi gs g).used then some ⟨nb g, 0, none⟩ else none) ∧ Ns [] w' gs nb)) ?_).mono fun e w' ⟨v, he, o', L, C, ok, hv, hr⟩ => ⟨o', L, C, ok, by rw [he, hv], hr⟩
  have bad : ∀ w', ExtX [] w w' → ¬ TreeP gs → ∃ (o' : Option Addr) (L C : Nat) (ok : Bool), Value.tuple #[.slice none 0 0, .bool false] = .tuple #[.slice o' L C, .bool ok] ∧ ok = treeB gs ∧ ExtX [] w w' ∧
      (ok = false → L = 0) ∧ (ok = true → L = 8 ∧ ∃ (pl : List (Option Addr)) (nb : Int → Nat), pl.length = 8 ∧ Rd encQ 1 [] w' o' pl ∧ (∀ g : Int, 0 ≤ g → g < 8 → gi pl g = if (gi gs g).used then some ⟨nb g, 0, none⟩ else none) ∧ Ns [] w' gs nb) := fun w' hx hno =>
    ⟨none, 0, 0, false, rfl, (treeB_no hno).symm, hx, fun _ => rfl, fun h => by cases h⟩
  have l8 : ((((gs.length : Nat) : Int) != 8) = false) → gs.length = 8 := fun q => by have := (bne_eq_false_iff_eq).1 q; omega
  have i0 : ∀ q : (((gs.length : Nat) : Int) != 8) = false, (0 : Int) < (gs.length : Int) := fun q => by have := l8 q; omega
  refine ⟨fun q => h.ix (Int.le_refl _) (i0 q), (gi gs 0).used, fun q => h.used (Int.le_refl _) (i0 q), fun q => ?_, (gi gs 0).parent, fun q => ?_, fun q => ?_, (gi gs 0).name, fun q => ?_, fun q => ?_, fun q => ?_⟩
  · simp only [Bool.or_eq_false_iff] at q; exact h.ix (Int.le_refl _) (i0 q.1)
  · simp only [Bool.or_eq_false_iff] at q; exact h.parent (Int.le_refl _) (i0 q.1)
  · simp only [Bool.or_eq_false_iff] at q; exact h.ix (Int.le_refl _) (i0 q.1.1)
  · simp only [Bool.or_eq_false_iff] at q; exact h.name (Int.le_refl _) (i0 q.1.1)
  · intro w1 hx1
    refine bad w1 hx1 fun ht => ?_
    have e : ((gs.length : Nat) : Int) = 8 := by have := ht.len; omega
    rw [e, ht.ru, ht.rp, ht.rn, strEq_eq] at q
    simp at q
  simp only [Bool.or_eq_false_iff, Bool.not_eq_false', bne_eq_false_iff_eq, strEq_iff] at q
  obtain ⟨⟨⟨q1, ru⟩, rp⟩, rn⟩ := q
  have hl8 : gs.length = 8 := by omega
  intro wr hx _
  refine ⟨some ⟨wr.heap.size, 0, none⟩, 8, 8, wr.alloc (.cells ((List.replicate 8 none).flatMap encQ).toArray ty_p_impl_node), run_mk elt_Node u_sl_node 8 (by decide) (by simp [maxLen]) wr, kept_nil, ?_⟩
  have hO0 := own_made (enc := encQ) elt_Node.len ty_p_impl_node 8 none wr
  have hX0 : ExtX [] wr (wr.alloc (.cells ((List.replicate 8 none).flatMap encQ).toArray ty_p_impl_node)) := ext_alloc wr _
  generalize wr.alloc (.cells ((List.replicate 8 (none : Option Addr)).flatMap encQ).toArray ty_p_impl_node) = wv at hO0 hX0
  -- first: a node for each group
  refine loop1w 8 0 rfl (fun k w1 => k ≤ 8 ∧ ExtX [] wr w1 ∧ ∃ (pl : List (Option Addr)) (nb : Int → Nat), pl.length = 8 ∧ Own encQ 1 ty_p_impl_node wr.heap.size w1 (some ⟨wr.heap.size, 0, none⟩) 8 pl ∧
      (∀ g : Int, 0 ≤ g → g < 8 → gi pl g = if g < (k : Int) ∧ (gi gs g).used = true then some ⟨nb g, 0, none⟩ else none) ∧
      (∀ g : Int, 0 ≤ g → g < (k : Int) → (gi gs g).used = true → wr.heap.size ≤ nb g ∧ NodeAt w1 (nb g) g (gi gs g).name none) ∧
      (∀ g g' : Int, 0 ≤ g → g < (k : Int) → 0 ≤ g' → g' < (k : Int) → (gi gs g).used = true → (gi gs g').used = true → nb g = nb g' → g = g')) (fun w1 hx1 _ => ⟨Nat.zero_le _, hX0.trans hx1, List.replicate 8 none, fun _ => 0, rfl, hO0.ext0 hx1, fun g h0 h1 => ?_, fun g h0 h1 => by omega, fun g g' h0 h1 => by omega⟩) fun k w1 _ ⟨hk, hX, pl, nb, hpl, hO, hP, hN, hinj⟩ => ⟨fun hlt => ?_, fun hge => ?_⟩
  · rw [if_neg (fun hc => by omega)]
    exact List.eq_of_mem_replicate (gi_mem h0 (by simpa using h1))
  · have hlt := of_decide_eq_true hlt
    have hr := (h.ext hx).ext hX
    have hk0 : (0 : Int) ≤ (k : Int) := by omega
    refine ⟨hr.ix hk0 hlt, _, hr.used hk0 hlt, fun hu => ⟨hr.ix hk0 hlt, _, hr.name hk0 hlt, fun b wb hxb hb hhb _ => ?_⟩, fun hu => ⟨⟨by omega, by omega⟩, fun w2 hx2 _ => loop1w_next (by omega) ⟨by omega, hX.trans hx2, pl, nb, hpl, hO.ext0 hx2, fun g h0 h1 => ?_, fun g h0 h1 hg => ?_, fun g g' h0 h1 h0' h1' hg hg' => ?_⟩⟩⟩
    · have hOb := hO.ext0 hxb
      have hkl : (k : Int) < (pl.length : Int) := by rw [hpl]; omega
      have hix := hOb.ix hk0 hkl
      rw [hpl] at hix
      refine ⟨hix, hOb.wr elt_Node.len (by simp) hk0 hkl (j := 0) (n := 1) (by omega), ⟨by omega, by omega⟩, fun w2 hx2 _ => loop1w_next (by omega) ⟨by omega, ?_, pl.set k (some ⟨b, 0, none⟩), fun g => if g = (k : Int) then b else nb g, by rw [List.length_set]; exact hpl, ?_, fun g h0 h1 => ?_, fun g h0 h1 hg => ?_, fun g g' h0 h1 h0' h1' hg hg' he => ?_⟩⟩
      · exact (hOb.stoB _ _ (hX.trans hxb) (Nat.le_refl _)).trans hx2
      · exact (hOb.sto elt_Node.len (i := (k : Int)) hk0 hkl (j := 0) (vs := [.pointer (some ⟨b, 0, none⟩)]) (x := some ⟨b, 0, none⟩) rfl (by simp)).ext0 hx2
      · have := gi_set pl (some ⟨b, 0, none⟩) (i := (k : Int)) (j := g) hk0 hkl h0
        rw [Int.toNat_natCast] at this
        rw [this]
        by_cases hgk : (k : Int) = g
        · subst hgk
          rw [if_pos rfl, if_pos ⟨by omega, hu⟩]
          dsimp only
          rw [if_pos rfl]
        · rw [if_neg hgk, hP g h0 h1]
          dsimp only
          rw [show (if g = (k : Int) then b else nb g) = nb g from if_neg (fun e => hgk e.symm)]
          by_cases hlt2 : g < (k : Int)
          · by_cases hgu : (gi gs g).used = true
            · rw [if_pos ⟨hlt2, hgu⟩, if_pos ⟨by omega, hgu⟩]
            · rw [if_neg (fun hc => hgu hc.2), if_neg (fun hc => hgu hc.2)]
          · rw [if_neg (fun hc => hlt2 hc.1), if_neg (fun hc => by omega)]
      · have hsz : ExtX (blkOf (some ⟨wr.heap.size, 0, none⟩)) wb (sto wb (some ⟨wr.heap.size, 0, none⟩) (Int.toNat (k : Int) * 1) [.pointer (some ⟨b, 0, none⟩)]) := hOb.stoX _ _
        have hne : ∀ q, NodeAt wb q g (gi gs g).name none → q ∉ blkOf (some (⟨wr.heap.size, 0, none⟩ : Addr)) := fun q hq hm => by
          simp only [blkOf, List.mem_singleton] at hm
          subst hm
          rcases hOb with ⟨hc, _⟩ | ⟨b', sp, he, _, h2, _⟩
          · cases hc
          · simp only [Option.some.injEq, Addr.mk.injEq, and_true] at he
            subst he
            unfold NodeAt at hq
            rw [h2] at hq
            simp only [Option.some.injEq, Obj.cells.injEq] at hq
            exact absurd hq.2.1 (by decide)
        dsimp only
        by_cases hgk : g = (k : Int)
        · subst hgk
          rw [if_pos rfl]
          have hq : NodeAt wb b (k : Int) (gi gs (k : Int)).name none := hhb
          exact ⟨Nat.le_trans hX.size hb, ((hq.ext hsz (hne b hq)).ext hx2 (by simp))⟩
        · rw [if_neg hgk]
          obtain ⟨n1, n2⟩ := hN g h0 (by omega) hg
          have n3 := n2.ext hxb (by simp)
          exact ⟨n1, (n3.ext hsz (hne _ n3)).ext hx2 (by simp)⟩
      · have fresh : ∀ q : Int, 0 ≤ q → q < (k : Int) → (gi gs q).used = true → nb q ≠ b := fun q a1 a2 a3 e => by
          have := blk_lt (hN q a1 a2 a3).2
          omega
        dsimp only at he
        by_cases hgk : g = (k : Int)
        · by_cases hgk' : g' = (k : Int)
          · rw [hgk, hgk']
          · rw [if_pos hgk, if_neg hgk'] at he
            exact absurd he.symm (fresh g' h0' (by omega) hg')
        · by_cases hgk' : g' = (k : Int)
          · rw [if_neg hgk, if_pos hgk'] at he
            exact absurd he (fresh g h0 (by omega) hg)
          · rw [if_neg hgk, if_neg hgk'] at he
            exact hinj g g' h0 (by omega) h0' (by omega) hg hg' he
    · rw [hP g h0 h1]
      by_cases hgk : g = (k : Int)
      · subst hgk
        rw [if_neg (fun hc => by omega), if_neg (fun hc => by rw [hu] at hc; exact absurd hc.2 (by decide))]
      · by_cases hlt2 : g < (k : Int)
        · by_cases hgu : (gi gs g).used = true
          · rw [if_pos ⟨hlt2, hgu⟩, if_pos ⟨by omega, hgu⟩]
          · rw [if_neg (fun hc => hgu hc.2), if_neg (fun hc => hgu hc.2)]
        · rw [if_neg (fun hc => hlt2 hc.1), if_neg (fun hc => by omega)]
    · by_cases hgk : g = (k : Int)
      · subst hgk; rw [hu] at hg; cases hg
      · obtain ⟨n1, n2⟩ := hN g h0 (by omega) hg
        exact ⟨n1, n2.ext hx2 (by simp)⟩
    · have e1 : g ≠ (k : Int) := fun e => by subst e; rw [hu] at hg; cases hg
      have e2 : g' ≠ (k : Int) := fun e => by subst e; rw [hu] at hg'; cases hg'
      exact hinj g g' h0 (by omega) h0' (by omega) hg hg'
  · have hge := of_decide_eq_false hge
    have hk8 : k = 8 := by omega
    subst hk8
    intro w2 hx2 _
    refine ⟨.map (some w2.heap.size), w2.alloc (.map #[] 0), by simp [Instr.makeMap], kept_nil, ?_⟩
    have hM0 : MapAt (w2.alloc (.map #[] 0)) w2.heap.size #[] := ⟨⟨0, Array.getElem?_push_size ..⟩, fun e he => by cases he⟩
    have hX2 : ExtX [] wr (w2.alloc (.map #[] 0)) := (hX.trans hx2).trans (ext_alloc w2 _)
    have hO2 := (hO.ext0 hx2).ext0 (ext_alloc w2 (.map #[] 0))
    have hN2 : ∀ g : Int, 0 ≤ g → g < 8 → (gi gs g).used = true → wr.heap.size ≤ nb g ∧ NodeAt (w2.alloc (.map #[] 0)) (nb g) g (gi gs g).name none := fun g h0 h1 hg =>
      ⟨(hN g h0 (by omega) hg).1, ((hN g h0 (by omega) hg).2.ext hx2 (by simp)).ext (ext_alloc w2 _) (by simp)⟩
    have hP2 : ∀ g : Int, 0 ≤ g → g < 8 → gi pl g = if (gi gs g).used = true then some ⟨nb g, 0, none⟩ else none := fun g h0 h1 => by
      rw [hP g h0 h1]
      by_cases hgu : (gi gs g).used = true
      · rw [if_pos ⟨by omega, hgu⟩, if_pos hgu]
      · rw [if_neg (fun hc => hgu hc.2), if_neg hgu]
    have hinj2 : ∀ g g' : Int, 0 ≤ g → g < 8 → 0 ≤ g' → g' < 8 → (gi gs g).used = true → (gi gs g').used = true → nb g = nb g' → g = g' := fun g g' a b c d => hinj g g' a (by omega) c (by omega)
    have hmb : wr.heap.size ≤ w2.heap.size := (hX.trans hx2).size
    generalize w2.heap.size = mb at hM0 hmb
    generalize w2.alloc (.map #[] 0) = w3 at hM0 hX2 hO2 hN2
    clear hX hO hN hP hinj
    -- second: parents, names
    refine loop1w 8 1 rfl (fun k w1 => 1 ≤ k ∧ k ≤ 8 ∧ ExtX [] wr w1 ∧ Own encQ 1 ty_p_impl_node wr.heap.size w1 (some ⟨wr.heap.size, 0, none⟩) 8 pl ∧
        (∀ g : Int, 0 ≤ g → g < 8 → (gi gs g).used = true → NodeAt w1 (nb g) g (gi gs g).name (if g < (k : Int) then upOf gs nb g else none)) ∧
        (∃ es, MapAt w1 mb es ∧ (∀ e ∈ es.toList, ∃ g : Int, 1 ≤ g ∧ g < (k : Int) ∧ (gi gs g).used = true ∧ e.key = keyV (gi gs g).parent (gi gs g).name) ∧ ∀ g : Int, 1 ≤ g → g < (k : Int) → (gi gs g).used = true → ∃ e ∈ es.toList, e.key = keyV (gi gs g).parent (gi gs g).name) ∧
        (∀ g : Int, 1 ≤ g → g < (k : Int) → (gi gs g).used = true → nameOk (gi gs g).name = true ∧ usedD gs (gi gs g).parent = true ∧ ∀ h : Int, 1 ≤ h → h < g → (gi gs h).used = true → ¬ ((gi gs h).parent = (gi gs g).parent ∧ (gi gs h).name = (gi gs g).name)))
      (fun w4 hx4 _ => ⟨Nat.le_refl _, by omega, hX2.trans hx4, hO2.ext0 hx4, fun g h0 h1 hg => ?_, ⟨#[], hM0.ext hx4 (by simp), (fun e he => by cases he), fun g h1 h2 => by omega⟩, fun g h1 h2 => by omega⟩) fun k w4 _ ⟨hk1, hk, hX, hO, hN, ⟨es, hM, hE1, hE2⟩, hT⟩ => ⟨fun hlt => ?_, fun hge => ?_⟩
    · have := (hN2 g h0 h1 hg).2.ext hx4 (by simp)
      by_cases hg1 : g < ((1 : Nat) : Int)
      · rw [if_pos hg1]
        have : g = 0 := by omega
        subst this
        exact this
      · rw [if_neg hg1]; exact this
    · have hlt := of_decide_eq_true hlt
      have hr := (h.ext hx).ext hX
      have hk0 : (0 : Int) ≤ (k : Int) := by omega
      have hkl : (k : Int) < (pl.length : Int) := by omega
      have hgl : (k : Int) < (gs.length : Int) := by omega
      have hPl := hO.rd elt_Node.len (bs := []) (by simp)
      have hix := hO.ix hk0 hkl
      rw [hpl] at hix
      have hXw : ExtX [] w w4 := hx.trans hX
      refine ⟨hix, gi pl (k : Int), hPl k hk0 hkl, fun hno => ?_, fun hyes => ?_⟩
      · have hu : ¬ (gi gs (k : Int)).used = true := fun hu => by rw [hP2 k hk0 hlt, if_pos hu] at hno; cases hno
        refine ⟨⟨by omega, by omega⟩, fun w5 hx5 _ => loop1w_next (by omega) ⟨by omega, by omega, hX.trans hx5, hO.ext0 hx5, fun g h0 h1 hg => ?_, ⟨es, hM.ext hx5 (by simp), fun e he => ?_, fun g h1 h2 hg => ?_⟩, fun g h1 h2 hg => ?_⟩⟩
        · have := (hN g h0 h1 hg).ext hx5 (by simp)
          have hgk : g ≠ (k : Int) := fun e => hu (e ▸ hg)
          by_cases hg1 : g < (k : Int)
          · rw [if_pos hg1] at this; rw [if_pos (by omega)]; exact this
          · rw [if_neg hg1] at this; rw [if_neg (by omega)]; exact this
        · obtain ⟨g, a1, a2, a3⟩ := hE1 e he
          exact ⟨g, a1, by omega, a3⟩
        · have hgk : g ≠ (k : Int) := fun e => hu (e ▸ hg)
          exact hE2 g h1 (by omega) hg
        · have hgk : g ≠ (k : Int) := fun e => hu (e ▸ hg)
          exact hT g h1 (by omega) hg
      · have hu : (gi gs (k : Int)).used = true := by
          cases hq : (gi gs (k : Int)).used with
          | true => rfl
          | false => rw [hP2 k hk0 hlt, hq] at hyes; cases hyes
        have hpk : gi pl (k : Int) = some ⟨nb (k : Int), 0, none⟩ := by rw [hP2 k hk0 hlt, if_pos hu]
        refine ⟨hr.ix hk0 hgl, _, hr.name hk0 hgl, _, k_impl_NameOk, fun _ => hr.ix hk0 hgl, (gi gs (k : Int)).parent, fun _ => hr.parent hk0 hgl, usedD gs (gi gs (k : Int)).parent, fun _ => k_impl_groupUsed hr hl, fun q => ?_, fun q => ?_⟩
        · intro w5 hx5
          refine bad w5 (hXw.trans hx5) fun ht => ?_
          rw [ht.nm k (by omega) hlt hu, ht.par k (by omega) hlt hu] at q
          cases q
        · simp only [Bool.or_eq_false_iff, Bool.not_eq_false'] at q
          obtain ⟨qn, qp⟩ := q
          obtain ⟨p0, p1, pu⟩ := usedD_iff.1 qp
          have p8 : (gi gs (k : Int)).parent < 8 := by omega
          have hixp := hO.ix p0 (by omega)
          rw [hpl] at hixp
          have hnk := hN k hk0 hlt hu
          rw [if_neg (by omega)] at hnk
          have hpp : gi pl (gi gs (k : Int)).parent = some ⟨nb (gi gs (k : Int)).parent, 0, none⟩ := by rw [hP2 _ p0 p8, if_pos pu]
          have hnb : nb (k : Int) ∉ blkOf (some (⟨wr.heap.size, 0, none⟩ : Addr)) := fun hm => by
            simp only [blkOf, List.mem_singleton] at hm
            rcases hO with ⟨hc, _⟩ | ⟨b', sp, he, _, h2, _⟩
            · cases hc
            · simp only [Option.some.injEq, Addr.mk.injEq, and_true] at he
              subst he
              unfold NodeAt at hnk
              rw [hm, h2] at hnk
              simp only [Option.some.injEq, Obj.cells.injEq] at hnk
              exact absurd hnk.2.1 (by decide)
          have hWr : WrX [] w4 (some ⟨nb (k : Int), 0, none⟩) (0 + 2) 1 := wrX_blk hnk (by simp) (by show 0 + (0 + 2 + 1) ≤ 3; omega)
          have hsx : ExtX [nb (k : Int)] w4 (sto w4 (some ⟨nb (k : Int), 0, none⟩) (0 + 2) [.pointer (some ⟨nb (gi gs (k : Int)).parent, 0, none⟩)]) := sto_ext fun a ha => by cases ha; simp
          have hbk : wr.heap.size ≤ nb (k : Int) := (hN2 k hk0 hlt hu).1
          have hXs : ExtX [] wr (sto w4 (some ⟨nb (k : Int), 0, none⟩) (0 + 2) [.pointer (some ⟨nb (gi gs (k : Int)).parent, 0, none⟩)]) := hX.fresh hsx fun x hm => .inl (by rw [List.mem_singleton.1 hm]; exact hbk)
          have hrs := (h.ext hx).ext hXs
          have hup : upOf gs nb (k : Int) = some ⟨nb (gi gs (k : Int)).parent, 0, none⟩ := by unfold upOf; rw [if_neg (by omega)]
          have hNs : ∀ g : Int, 0 ≤ g → g < 8 → (gi gs g).used = true → NodeAt (sto w4 (some ⟨nb (k : Int), 0, none⟩) (0 + 2) [.pointer (some ⟨nb (gi gs (k : Int)).parent, 0, none⟩)]) (nb g) g (gi gs g).name (if g < ((k + 1 : Nat) : Int) then upOf gs nb g else none) := fun g h0 h1 hg => by
            by_cases hgk : g = (k : Int)
            · subst hgk
              rw [if_pos (by omega), hup]
              exact sto_blk hnk
            · have hne : nb g ≠ nb (k : Int) := fun e => hgk (hinj2 g k h0 h1 hk0 hlt hg hu e)
              have := (hN g h0 h1 hg).ext hsx (by simpa using hne)
              by_cases hg1 : g < (k : Int)
              · rw [if_pos hg1] at this; rw [if_pos (by omega)]; exact this
              · rw [if_neg hg1] at this; rw [if_neg (by omega)]; exact this
          have hOs : Own encQ 1 ty_p_impl_node wr.heap.size (sto w4 (some ⟨nb (k : Int), 0, none⟩) (0 + 2) [.pointer (some ⟨nb (gi gs (k : Int)).parent, 0, none⟩)]) (some ⟨wr.heap.size, 0, none⟩) 8 pl := hO.ext hsx fun b hm hm' => hnb (by rw [List.mem_singleton.1 hm'] at hm; exact hm)
          have hMs : MapAt (sto w4 (some ⟨nb (k : Int), 0, none⟩) (0 + 2) [.pointer (some ⟨nb (gi gs (k : Int)).parent, 0, none⟩)]) mb es := hM.ext hsx fun hm => by
            rw [List.mem_singleton] at hm
            obtain ⟨⟨cc, hc⟩, _⟩ := hM
            unfold NodeAt at hnk
            rw [← hm, hc] at hnk
            cases hnk
          refine ⟨hix, some ⟨nb (k : Int), 0, none⟩, by rw [← hpk]; exact hPl k hk0 hkl, hr.ix hk0 hgl, _, hr.parent hk0 hgl, hixp, some ⟨nb (gi gs (k : Int)).parent, 0, none⟩, by rw [← hpp]; exact hPl _ p0 (by omega), rfl, hWr, ?_⟩
          generalize sto w4 (some ⟨nb (k : Int), 0, none⟩) (0 + 2) [.pointer (some ⟨nb (gi gs (k : Int)).parent, 0, none⟩)] = w5 at hXs hrs hNs hOs hMs
          refine ⟨hrs.ix hk0 hgl, _, hrs.parent hk0 hgl, hrs.ix hk0 hgl, _, hrs.name hk0 hgl, fun b1 hb1 => ⟨hrs.name hk0 hgl, hrs.parent hk0 hgl, fun w6 hx6 hs6 => ?_⟩⟩
          have hM6 := hMs.ext hx6 (by simp)
          obtain ⟨v, okk, hlook, hok⟩ := run_look hM6 (gi gs (k : Int)).parent (gi gs (k : Int)).name
          have hb1' : ∀ x ∈ [b1], wr.heap.size ≤ x ∨ x ∈ ([] : List Nat) := fun x hm => .inl (by rw [List.mem_singleton.1 hm]; exact Nat.le_trans hXs.size hb1)
          refine ⟨v, okk, w6, hlook, fun _ _ => rfl, fun hdup => ?_, fun hnew w7 hx7 hs7 => ?_⟩
          · intro w7 hx7
            refine bad w7 (hx.trans (((hXs.trans hx6).fresh hx7 hb1'))) fun ht => ?_
            obtain ⟨e, he, hk⟩ := hok.1 hdup
            obtain ⟨g, a1, a2, a3, a4⟩ := hE1 e he
            rw [a4] at hk
            simp only [keyV, Value.agg.injEq, List.toArray_inj, Array.mk.injEq, List.cons.injEq, Value.int.injEq, true_and, Value.string.injEq, and_true] at hk
            exact ht.uniq k g a1 a2 hlt hu a3 hk
          · have hM7 := hM6.ext hx7 (fun hm => by
              rw [List.mem_singleton] at hm
              obtain ⟨⟨cc, hc⟩, _⟩ := hMs
              have := blk_lt hc
              omega)
            have hnok : ¬ ∃ e ∈ es.toList, e.key = keyV (gi gs (k : Int)).parent (gi gs (k : Int)).name := fun hc => by
              have := hok.2 hc
              rw [hnew] at this; cases this
            obtain ⟨w8, cc, hupd, hx8, hM8⟩ := run_upd hM7 (fun e he hk => hnok ⟨e, he, hk⟩) (k : Int)
            have hmx : ∀ x ∈ [mb], wr.heap.size ≤ x ∨ x ∈ ([] : List Nat) := fun x hm => .inl (by rw [List.mem_singleton.1 hm]; exact hmb)
            have hX7 : ExtX [] wr w7 := (hXs.trans hx6).fresh hx7 hb1'
            have hX8 : ExtX [] wr w8 := hX7.fresh hx8 hmx
            refine ⟨w8, hupd, fun x hm => hx8.block x (hs7 x hm) (fun hm' => ?_), ⟨by omega, by omega⟩, fun w9 hx9 hs9 => loop1w_next (by omega) ⟨by omega, by omega, hX8.fresh hx9 hb1', ?_, fun g h0 h1 hg => ?_, ⟨_, hM8.ext hx9 ?_, fun e he => ?_, fun g h1 h2 hg => ?_⟩, fun g h1 h2 hg => ?_⟩⟩
            · rw [List.mem_singleton] at hm hm'
              subst hm'
              obtain ⟨⟨c2, hc⟩, _⟩ := hMs
              have := blk_lt hc
              omega
            · have hnm : ∀ b ∈ blkOf (some (⟨wr.heap.size, 0, none⟩ : Addr)), b ∉ [mb] := fun b hm hm' => by
                simp only [blkOf, List.mem_singleton] at hm hm'
                rcases hOs with ⟨hc, _⟩ | ⟨b', sp, he, _, h2, _⟩
                · cases hc
                · simp only [Option.some.injEq, Addr.mk.injEq, and_true] at he
                  subst he
                  obtain ⟨⟨c2, hc⟩, _⟩ := hMs
                  rw [← hm', hm, h2] at hc
                  cases hc
              have hn1 : ∀ b ∈ blkOf (some (⟨wr.heap.size, 0, none⟩ : Addr)), b ∉ [b1] := fun b hm hm' => by
                have := (hOs.lt b hm).2
                rw [List.mem_singleton] at hm'
                omega
              exact (((hOs.ext0 hx6).ext hx7 hn1).ext hx8 hnm).ext hx9 hn1
            · have hq := hNs g h0 h1 hg
              have hql := blk_lt hq
              have n1 : nb g ∉ [b1] := fun hm => by rw [List.mem_singleton] at hm; omega
              have n2 : nb g ∉ [mb] := fun hm => by
                rw [List.mem_singleton] at hm
                obtain ⟨⟨c2, hc⟩, _⟩ := hMs
                unfold NodeAt at hq
                rw [hm, hc] at hq
                cases hq
              exact (((hq.ext hx6 (by simp)).ext hx7 n1).ext hx8 n2).ext hx9 n1
            · intro hm
              rw [List.mem_singleton] at hm
              obtain ⟨⟨c2, hc⟩, _⟩ := hMs
              have := blk_lt hc
              omega
            · rw [Array.toList_push, List.mem_append] at he
              rcases he with he | he
              · obtain ⟨g, a1, a2, a3⟩ := hE1 e he
                exact ⟨g, a1, by omega, a3⟩
              · rw [List.mem_singleton] at he
                subst he
                exact ⟨k, by omega, by omega, hu, rfl⟩
            · rw [Array.toList_push]
              by_cases hgk : g = (k : Int)
              · subst hgk
                exact ⟨_, List.mem_append_right _ (List.mem_singleton.2 rfl), rfl⟩
              · obtain ⟨e, he, hk⟩ := hE2 g h1 (by omega) hg
                exact ⟨e, List.mem_append_left _ he, hk⟩
            · by_cases hgk : g = (k : Int)
              · subst hgk
                refine ⟨qn, qp, fun q a1 a2 a3 a4 => hnok ?_⟩
                obtain ⟨e, he, hk⟩ := hE2 q a1 a2 a3
                exact ⟨e, he, by rw [hk, a4.1, a4.2]⟩
              · exact hT g h1 (by omega) hg
    · have hge := of_decide_eq_false hge
      have hk8 : k = 8 := by omega
      subst hk8
      have hXw : ExtX [] w w4 := hx.trans hX
      have hNs : Ns [] w4 gs nb := ⟨fun x hu => by
          obtain ⟨a1, a2, a3⟩ := usedD_iff.1 hu
          have := hN x a1 (by omega) a3
          rw [if_pos (by omega)] at this
          exact this.cells (by simp), fun x hz hu => by
          obtain ⟨a1, a2, a3⟩ := usedD_iff.1 hu
          exact (hT x (by omega) (by omega) a3).2.1⟩
      -- third: each leads to the root
      refine loop1w 8 0 rfl (fun j w5 => j ≤ 8 ∧ ExtX [] w4 w5 ∧ ∀ g : Int, 0 ≤ g → g < (j : Int) → (gi gs g).used = true → 0 ≤ dep 3 gs g) (fun w5 hx5 _ => ⟨Nat.zero_le _, hx5, fun g h0 h1 => by omega⟩) fun j w5 _ ⟨hj, hX5, hD⟩ => ⟨fun hlt => ?_, fun hge => ?_⟩
      · have hlt := of_decide_eq_true hlt
        have hj0 : (0 : Int) ≤ (j : Int) := by omega
        have hjl : (j : Int) < (pl.length : Int) := by omega
        have hO5 := hO.ext0 hX5
        have hix := hO5.ix hj0 hjl
        rw [hpl] at hix
        refine ⟨hix, gi pl (j : Int), hO5.rd elt_Node.len (by simp) j hj0 hjl, ndep gs 3 (j : Int) 0, fun hs => ?_, fun hb => ?_, fun hb => ⟨⟨by omega, by omega⟩, fun w6 hx6 _ => loop1w_next (by omega) ⟨by omega, hX5.trans hx6, fun g h0 h1 hg => ?_⟩⟩⟩
        · have hu : (gi gs (j : Int)).used = true := by
            cases hq : (gi gs (j : Int)).used with
            | true => rfl
            | false => rw [hP2 j hj0 hlt, hq] at hs; cases hs
          rw [hP2 j hj0 hlt, if_pos hu]
          exact k_depth (hNs.ext hX5) (usedD_iff.2 ⟨hj0, by omega, hu⟩)
        · intro w6 hx6
          refine bad w6 ((hXw.trans hX5).trans hx6) fun ht => ?_
          simp only [Bool.and_eq_true, decide_eq_true_eq] at hb
          have hu : (gi gs (j : Int)).used = true := by
            cases hq : (gi gs (j : Int)).used with
            | true => rfl
            | false => rw [hP2 j hj0 hlt, hq] at hb; cases hb.1
          have hd : 0 ≤ dep 3 gs (j : Int) := by
            by_cases hj0' : (j : Int) = 0
            · rw [hj0', dep_root]; omega
            · exact ht.dp j (by omega) hlt hu
          have := hb.2
          unfold ndep at this
          rw [if_neg (by omega)] at this
          omega
        · by_cases hgj : g = (j : Int)
          · subst hgj
            have hpj : gi pl (j : Int) = some ⟨nb (j : Int), 0, none⟩ := by rw [hP2 j hj0 hlt, if_pos hg]
            rw [hpj] at hb
            simp only [Option.isNone_some, Bool.not_false, Bool.true_and, decide_eq_false_iff_not] at hb
            unfold ndep at hb
            have := dep_range gs 3 (j : Int)
            split at hb <;> omega
          · exact hD g h0 (by omega) hg
      · have hge := of_decide_eq_false hge
        have hj8 : j = 8 := by omega
        subst hj8
        have ht : TreeP gs := ⟨hl8, ru, rp, rn, fun g h1 h2 hg => (hT g h1 h2 hg).1, fun g h1 h2 hg => (hT g h1 h2 hg).2.1, fun g h1 h2 hg => hD g (by omega) h2 hg, fun g q a1 a2 a3 a4 a5 => (hT g (by omega) a3 a4).2.2 q a1 a2 a5⟩
        intro w6 hx6
        refine ⟨some ⟨wr.heap.size, 0, none⟩, 8, 8, true, rfl, (treeB_iff.2 ht).symm, (hXw.trans hX5).trans hx6, fun h => (by cases h), fun _ => ⟨rfl, pl, nb, hpl, ?_, hP2, (hNs.ext hX5).ext hx6⟩⟩
        exact ((hO.ext0 hX5).ext0 hx6).rd elt_Node.len (by simp)
theorem k_impl_TreeOk {bs : List Nat} (h : RdG bs w o gs ms) (hl : gs.length ≤ maxLen) : PureX bs Tryz.prog fn_impl_TreeOk #[.slice o gs.length c] w (.bool (treeB gs)) := by
  refine pureX_of fun wr hx => e_impl_TreeOk o gs.length c (R := fun v w' => v = .bool (treeB gs) ∧ ExtX [] wr w') ?_
  have h := (h.ext hx).less (cs := []) (by simp)
  intro w1 hx1 _
  refine (k_nodes (h.ext hx1) hl).mono fun e w2 ⟨o', L, C, ok, he, hok, hx2, _⟩ => ⟨_, _, _, _, he, kept_nil, fun w3 hx3 => ⟨by rw [hok], (hx1.trans hx2).trans hx3⟩⟩
theorem k_impl_inside {g h : Int} (hr : RdG bs w o gs ms) (ht : TreeP gs) (hu : usedD gs h = true) : PureX bs Tryz.prog fn_impl_inside #[.slice o gs.length c, .int .i64 g, .int .i64 h] w (.bool (insD 3 gs g h)) :=
  p_impl_inside o gs.length c g h fun wr hx => by
    have hr := (hr.ext hx).less (cs := []) (by simp)
    refine ⟨fun vs => ∃ x : Int, vs = [.int .i64 x] ∧ usedD gs x = true ∧ insD 3 gs g x = insD 3 gs g h, fun vs => (dep 3 gs (ctrAt 0 vs)).toNat, ⟨h, rfl, hu, rfl⟩, ?_⟩
    rintro x ⟨x', he, hu, hI⟩
    simp only [List.cons.injEq, Value.int.injEq, true_and, and_true] at he
    subst he
    refine ⟨fun hne => ⟨fun hz => ?_, fun hz => ?_⟩, fun heq => ?_⟩
    · have hz : x = 0 := by simpa using hz
      subst hz
      have : insD 3 gs g 0 = false := by
        have : ¬ (0 = g) := by simpa using hne
        simp [insD, this]
      rw [← hI, this]
    · have hz : x ≠ 0 := by simpa using hz
      have hne : x ≠ g := by simpa using hne
      obtain ⟨hp, a, b, d, e, e2, hd⟩ := climb ht hu hz
      refine ⟨hr.ix a b, _, hr.parent a b, ⟨_, rfl, hp, by rw [← insD_step ht hu hz hne]; exact hI⟩, ?_⟩
      show (dep 3 gs (gi gs x).parent).toNat < (dep 3 gs x).toNat
      omega
    · have heq : x = g := by simpa using heq
      subst heq
      rw [← hI]
      simp [insD]
end
end Go.Proofs.YthojnihahmlboaaGreat
