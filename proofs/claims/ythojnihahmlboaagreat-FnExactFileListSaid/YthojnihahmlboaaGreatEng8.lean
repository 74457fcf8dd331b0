/- The engine, part 8: 'evE' is sound. -/
import Derived.Test.YthojnihahmlboaaGreatEng7
namespace Go.Proofs.YthojnihahmlboaaGreat
open Go.RowKit
set_option linter.unusedVariables false

theorem zeroCells_of {P : Program} {T : TypeId → Option Ty} (hT : TOk P T) {t : TypeId} {ty : Ty} (ht : T t = some ty) (hno : ty.ks.contains .other = false) :
    ∃ i z, P.info? t = some i ∧ i.zero = some z ∧ z.cells = (ty.ks.map zv).toArray := by
  obtain ⟨i, z, hi, hz, _, hks⟩ := (hT.facts ht).info
  refine ⟨i, z, hi, hz, ?_⟩
  have h0 : ∀ (l : List Value), (l.map ckOf).contains .other = false → (l.map ckOf).map zv = l := by
    intro l
    induction l with
    | nil => intro _; rfl
    | cons x r ih =>
      intro hc
      simp only [List.map_cons, List.contains_cons, Bool.or_eq_false_iff] at hc
      have hx : ckOf x ≠ .other := by intro e; rw [e] at hc; simp at hc
      simp only [List.map_cons, ih hc.2, ← ckOf_zv hx]
  have h1 := h0 z.cells.toList (by rw [hks]; exact hno)
  rw [hks] at h1
  rw [h1, Array.toArray_toList]

theorem EV.den_mono {S S' : St} (h : SameLoc S S') : ∀ {e : EV} {u : Value}, EV.den S e u → EV.den S' e u
  | .v _, _, h' => h'
  | .el _ _, _, h' => h'
  | .loc _ _, _, ⟨b, hb, h'⟩ => ⟨b, h _ _ hb, h'⟩
  | .ls _ _, _, ⟨b, hb, h'⟩ => ⟨b, h _ _ hb, h'⟩
  | .le _ _ _, _, ⟨b, hb, h'⟩ => ⟨b, h _ _ hb, h'⟩
  | .no, _, h' => h'
  | .kb _, _, h' => h'
theorem FitD.mono {n : Nat} {S S' : St} {ops : Array Oper} {D : Nat → Prop} {a : Act} (h : FitD n S ops D a) (hl : SameLoc S S') (hF : S'.F = S.F) (hr : S'.r = S.r) : FitD n S' ops D a :=
  ⟨⟨h.fit.size, fun i s hs => by
    rw [hF] at hs
    have := h.fit.fits i s hs
    cases s with
    | un x => exact EV.den_mono hl this
    | gd r pc x =>
      intro hrr
      rw [hr] at hrr
      have h1 := this hrr
      exact ⟨fun hp => EV.den_mono hl (h1.1 hp), h1.2⟩⟩, fun i pc x hx => by rw [hF, hr] at hx; exact h.dn i pc x hx, fun i r pc x hx => by rw [hF] at hx; rw [hr]; exact h.st i r pc x hx⟩

/-! ### What stores leave in a block -/
def setL (cs : List Value) : Nat → List Value → List Value
  | _, [] => cs
  | k, v :: r => setL (cs.set k v) (k + 1) r
theorem setL_eq : ∀ (vs cs : List Value) (k : Nat), k + vs.length ≤ cs.length → setL cs k vs = cs.take k ++ vs ++ cs.drop (k + vs.length)
  | [], cs, k, _ => by simp [setL]
  | v :: r, cs, k, h => by
    simp only [setL, List.length_cons] at *
    rw [setL_eq r (cs.set k v) (k + 1) (by simp; omega)]
    have hk : k < cs.length := by omega
    rw [List.take_succ_eq_append_getElem (by simpa using hk), List.getElem_set_self, List.take_set_of_le (Nat.le_refl _), List.drop_set_of_lt (by omega)]
    simp [Nat.add_assoc, Nat.add_comm 1]
theorem stoL_cells : ∀ (vs : List Value) (w : World) (b k n : Nat) (cs : List Value) (t : TypeId) (fz : Nat × Nat), w.heap[b]? = some (.cells cs.toArray t fz) →
    (stoL w ⟨b, k, none⟩ n vs).heap[b]? = some (.cells (setL cs (k + n) vs).toArray t fz)
  | [], _, _, _, _, _, _, _, h => h
  | v :: r, w, b, k, n, cs, t, fz, h => by
    simp only [stoL, setL]
    refine stoL_cells r _ b k (n + 1) (cs.set (k + n) v) t fz ?_
    rw [Addr.add_lit]
    simp only [World.setCell, Array.getElem?_modify, if_true, h, Option.map_some, Option.isSome_none, Bool.false_eq_true, if_false]
    simp

structure Goes (C : Cfg) (S : St) (w : World) (o : Oper) (a : Act) (K : St → World → Prop) (N : Act → World → Prop) : Prop where
  go : ∀ (S1 : St) (w' wr' : World) (e : EV) (v : Value), FrS S S1 → S1.F = S.F → S1.r = S.r → WfS S1 → WRel S1 w' wr' → (C.pm = true → w' = w ∧ S1.old = S.old) → EV.den S1 e v → (∀ x, o.dst = some x → x < C.n ∧ x < 4000) → K (S1.putF o.dst (.un e)) w' → N (a.put o.dst v) wr'

theorem newBlk_sound {C : Cfg} {S : St} {w : World} {o : Oper} {a : Act} {K : St → World → Prop} {N : Act → World → Prop} (hN : Goes C S w o a K N) {wr : World} (hw : WRel S w wr)
    (hwf : WfS S) {t : TypeId} {cells : List Value} {e : Nat → EV} (h : newBlk C S w o.dst t cells e K) {v : Value}
    (hv : EV.den { S with L := S.L ++ [(t, cells)], B := S.B ++ [wr.heap.size] } (e S.L.length) v) : N (a.put o.dst v) (wr.alloc (.cells cells.toArray t)) := by
  obtain ⟨h1, h2⟩ := putS_out (h wr.heap.size hw.ext.size)
  refine hN.go { S with L := S.L ++ [(t, cells)], B := S.B ++ [wr.heap.size] } w _ (e S.L.length) v ⟨fun id b hb => ?_, fun id t' cs hc => ⟨cs, ?_⟩, fun id hi => ⟨hi, ?_⟩⟩ rfl rfl ⟨by simp; have := hwf.old; omega, fun id hi => by have := hwf.lk id hi; simp; omega⟩ (hw.push hwf.old t cells) (fun _ => ⟨rfl, rfl⟩) hv h2 h1
  · show (S.B ++ [wr.heap.size])[id]? = some b
    rw [List.getElem?_append_left (List.getElem?_eq_some_iff.1 hb).1]; exact hb
  · show (S.L ++ [(t, cells)])[id]? = some (t', cs)
    rw [List.getElem?_append_left (List.getElem?_eq_some_iff.1 hc).1]; exact hc
  · exact List.getElem?_append_left (hwf.lk id hi)
theorem newVis_sound {C : Cfg} {S : St} {w : World} {o : Oper} {a : Act} {K : St → World → Prop} {N : Act → World → Prop} (hN : Goes C S w o a K N) {wr : World} (hw : WRel S w wr)
    (hwf : WfS S) {t : TypeId} {cells : List Value} {e : Nat → EV} (h : newVis C S w o.dst t cells e K) {v : Value}
    (hv : EV.den S.aged (e wr.heap.size) v) : N (a.put o.dst v) (wr.alloc (.cells cells.toArray t)) := by
  have hlt := hw.lt
  unfold newVis at h
  have hpm : C.pm = false := by
    cases hp : C.pm with
    | false => rfl
    | true => rw [hp] at h; exact h.elim
  rw [hpm] at h
  simp only [cond_false] at h
  obtain ⟨h1, h2⟩ := putS_out (h wr.heap.size (wr.alloc (.cells cells.toArray t)) (hw.ext.alloc _) hw.ext.size (heap_alloc_new wr _) (fun hb => by have := hlt _ hb; omega))
  exact hN.go S.aged _ _ _ v ⟨fun _ _ h => h, fun _ _ cs h => ⟨cs, h⟩, fun id hi => ⟨hi, rfl⟩⟩ rfl rfl hwf.aged (hw.age fun b hb => Below.heap_alloc wr _ b (hlt b hb)) (fun hp => by rw [hpm] at hp; cases hp) hv h2 h1

theorem catCells_spec {z : Nat} (hz : 0 < z) : ∀ {ps : List (Nat × Operand)} {k : Nat} {vs cells : List Value}, catCells z ps k vs = some cells → ps.length = vs.length ∧ cells.length = vs.length * z ∧
    ∀ (pre : List Value), pre.length = k * z → ∀ (init : List Value), init.length = vs.length * z →
      Instr.fill (fun i => some (i * z, z)) (pre ++ init).toArray ((ps.map (·.1)).zip vs) = some (pre ++ cells).toArray
  | [], k, [], cells, h => by
    simp only [catCells, Option.some.injEq] at h; subst h
    refine ⟨rfl, by simp, fun pre _ init hi => ?_⟩
    have : init = [] := List.eq_nil_of_length_eq_zero (by simpa using hi)
    subst this
    simp [Instr.fill]
  | (i, x) :: ps, k, v :: vs, cells, h => by
    simp only [catCells] at h
    cases hb : (Nat.beq i k && Nat.beq v.cells.toList.length z) with
    | false => rw [hb] at h; cases h
    | true =>
      rw [hb] at h
      simp only [cond_true] at h
      simp only [Bool.and_eq_true] at hb
      have e1 : i = k := Nat.eq_of_beq_eq_true hb.1
      have e2 : v.cells.toList.length = z := Nat.eq_of_beq_eq_true hb.2
      subst e1
      split at h
      · rename_i l hl
        simp only [Option.some.injEq] at h; subst h
        obtain ⟨h1, h2, h3⟩ := catCells_spec hz hl
        refine ⟨by simp [h1], by simp [h2, e2, Nat.add_mul]; omega, fun pre hp init hi => ?_⟩
        have hsz : v.cells.size = z := by simpa using e2
        have hvl : (v :: vs).length * z = z + vs.length * z := by simp [Nat.add_mul, Nat.add_comm]
        rw [hvl] at hi
        have hc : (decide (v.cells.size ≠ z) || decide (i * z + v.cells.size > (pre ++ init).toArray.size)) = false := by
          simp only [hsz, List.size_toArray, List.length_append, hp, hi]
          simp
        simp only [List.map_cons, List.zip_cons_cons, Instr.fill]
        rw [hc]
        simp only [Bool.false_eq_true, if_false]
        have hfold : ∀ (l : List Value) (j : Nat) (arr : List Value), (l.zipIdx j).foldl (fun cs (c, j) => cs.setIfInBounds (i * z + j) c) arr.toArray = (setL arr (i * z + j) l).toArray := by
          intro l
          induction l with
          | nil => intro j arr; rfl
          | cons c l ih =>
            intro j arr
            simp only [List.zipIdx_cons, List.foldl_cons, setL]
            rw [show (arr.toArray.setIfInBounds (i * z + j) c) = (arr.set (i * z + j) c).toArray by simp]
            exact ih (j + 1) _
        have hz2 : (v.cells.zipIdx.foldl (fun cs (c, j) => cs.setIfInBounds (i * z + j) c) (pre ++ init).toArray) = (pre ++ v.cells.toList ++ init.drop z).toArray := by
          rw [← Array.foldl_toList, Array.toList_zipIdx]
          rw [hfold v.cells.toList 0 (pre ++ init), setL_eq _ _ _ (by simp [hp, hi, hsz])]
          have t1 : (pre ++ init).take (i * z) = pre := by rw [← hp]; exact List.take_left
          have t2 : (pre ++ init).drop (i * z + z) = init.drop z := by rw [← hp, List.drop_append]; simp
          simp only [Nat.add_zero, e2, t1, t2]
        rw [hz2]
        have := h3 (pre ++ v.cells.toList) (by simp [hp, hsz, Nat.add_mul]) (init.drop z) (by simp [hi])
        simpa using this
      · cases h
  | [], _, _ :: _, _, h => by simp [catCells] at h
  | (_, _) :: _, _, [], _, h => by simp [catCells] at h

theorem run_newVar {P : Program} (t : TypeId) (v : Value) (w : World) : (newVar t v).run P w = .ok ⟨w.heap.size, 0, none⟩ (w.alloc (.cells v.cells t)) := by
  simp [newVar, newRow]

theorem WRel.storeLoc {S : St} {w wr : World} (h : WRel S w wr) {id b off : Nat} {t : TypeId} {cs vs : List Value} (hl : S.L[id]? = some (t, cs)) (hb : S.B[id]? = some b) (hlen : off + vs.length ≤ cs.length) (hold : S.old ≤ S.B.length) :
    WRel { S with L := S.L.set id (t, cs.take off ++ vs ++ cs.drop (off + vs.length)) } w (stoL wr ⟨b, off, none⟩ 0 vs) := by
  obtain ⟨b', hb', hh⟩ := h.loc id t cs hl
  rw [hb] at hb'; cases hb'
  have hid : id < S.L.length := (List.getElem?_eq_some_iff.1 hl).1
  have hmem : b ∈ S.bs ∨ w.heap.size ≤ b := by
    by_cases ho : S.old ≤ id
    · exact .inr (h.fresh id b ho hb)
    · refine .inl ?_
      have : (S.B.take S.old)[id]? = some b := by rw [List.getElem?_take, if_pos (by omega)]; exact hb
      exact List.mem_of_getElem? this
  obtain ⟨r1, r2, r3⟩ := stoL_rest vs wr ⟨b, off, none⟩ 0
  refine ⟨⟨r1.trans h.ext.os, r2.trans h.ext.tape, r3.trans h.ext.output, by rw [stoL_size]; exact h.ext.size, fun k hk hnb => ?_⟩, fun id' t' cs' hl' => ?_, by simp [h.len], h.dist, h.fresh⟩
  · refine (stoL_block vs wr ⟨b, off, none⟩ 0 k ?_).trans (h.ext.block k hk hnb)
    rintro rfl
    rcases hmem with hm | hm
    · exact hnb hm
    · exact Nat.lt_irrefl _ (Nat.lt_of_lt_of_le hk hm)
  · by_cases he : id = id'
    · subst he
      simp only [List.getElem?_set_self hid, Option.some.injEq, Prod.mk.injEq] at hl'
      obtain ⟨rfl, rfl⟩ := hl'
      refine ⟨b, hb, ?_⟩
      rw [stoL_cells vs wr b off 0 cs _ _ hh, Nat.add_zero, setL_eq _ _ _ hlen]
    · have hl2 : S.L[id']? = some (t', cs') := by rw [← hl']; exact (List.getElem?_set_ne he).symm
      obtain ⟨b2, hb2, hh2⟩ := h.loc id' t' cs' hl2
      refine ⟨b2, hb2, ?_⟩
      rw [stoL_block vs wr ⟨b, off, none⟩ 0 b2 (by
        show b2 ≠ b
        rintro rfl
        exact he (h.ndup hb hb2))]
      exact hh2

theorem WRel.storeOut {S : St} {w wr : World} (h : WRel S w wr) {a : Addr} {n : Nat} {vs : List Value} (hb : a.block ∉ S.bs) (hlt : a.block < w.heap.size) : WRel S (stoL w a n vs) (stoL wr a n vs) := by
  obtain ⟨r1, r2, r3⟩ := stoL_rest vs wr a n
  obtain ⟨q1, q2, q3⟩ := stoL_rest vs w a n
  refine ⟨⟨by rw [r1, q1]; exact h.ext.os, by rw [r2, q2]; exact h.ext.tape, by rw [r3, q3]; exact h.ext.output, by rw [stoL_size, stoL_size]; exact h.ext.size, fun k hk hnb => ?_⟩, fun id t cs hl => ?_, h.len, h.dist, fun id b ho hid => by rw [stoL_size]; exact h.fresh id b ho hid⟩
  · rw [stoL_size] at hk
    have he := h.ext.block k hk hnb
    by_cases hka : k = a.block
    · subst hka; exact stoL_same vs wr w a n he
    · rw [stoL_block vs wr a n k hka, stoL_block vs w a n k hka]; exact he
  · obtain ⟨b, hid, hh⟩ := h.loc id t cs hl
    refine ⟨b, hid, ?_⟩
    rw [stoL_block vs wr a n b]
    · exact hh
    · rintro rfl
      by_cases ho : S.old ≤ id
      · have := h.fresh id _ ho hid; omega
      · refine hb (List.mem_of_getElem? (i := id) ?_)
        show (S.B.take S.old)[id]? = _
        rw [List.getElem?_take, if_pos (by omega)]; exact hid

theorem WrX.run {P : Program} {S : St} {w wr : World} (h : WRel S w wr) {ob : Option Addr} {n : Nat} {vs : List Value} (hx : WrX S.bs w ob n vs.length) (hpos : 0 < vs.length) (h1 : oneCells vs = true) {a : Addr} (ho : ob = some a) :
    (storeCells (a.add n) vs 0).run P wr = .ok () (stoL wr (a.add n) 0 vs) ∧ a.block ∉ S.bs ∧ a.block < w.heap.size := by
  obtain ⟨a', ha, hb, hc⟩ := hx
  rw [ho] at ha; cases ha
  obtain ⟨⟨u, hu⟩, _⟩ := hc n (Nat.le_refl _) (by omega)
  have hlt : a.block < w.heap.size := by have := World.block_lt_of_cell? w _ hu; rwa [add_block] at this
  refine ⟨run_storeCells' vs wr (a.add n) 0 (oneCells_spec h1) fun j _ hj => ?_, hb, hlt⟩
  obtain ⟨⟨u', hu'⟩, hf'⟩ := hc (n + j) (by omega) (by omega)
  have he := h.ext.block a.block hlt hb
  rw [add_add']
  refine ⟨⟨u', ?_⟩, ?_⟩
  · rw [← hu']; exact World.cell?_of_block (w := w) (by rw [add_block]; exact he)
  · rw [← hf']; exact frozen?_of_block (by rw [add_block]; exact he)
theorem stoL_shift : ∀ (vs : List Value) (w : World) (a : Addr) (n k : Nat), stoL w (a.add n) k vs = stoL w a (n + k) vs
  | [], _, _, _, _ => rfl
  | v :: r, w, a, n, k => by
    simp only [stoL, add_add']
    exact stoL_shift r _ a n (k + 1)
end Go.Proofs.YthojnihahmlboaaGreat
