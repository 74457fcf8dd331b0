/- The program's heap of entries: its top is who is ready with the least v. -/
import Derived.Test.YthihcdljmddgfaaQueS
namespace Go.Proofs.Ythihcdljmddgfaa
open Go.RowKit
set_option linter.unusedVariables false
set_option maxRecDepth 10000

def bfB (es : List Ent) (a b : Int) : Bool := decide ((gi es a).v < (gi es b).v) || ((gi es a).v == (gi es b).v && decide (a < b))
theorem bfB_t {es : List Ent} {a b : Int} : bfB es a b = true ↔ (gi es a).v < (gi es b).v ∨ ((gi es a).v = (gi es b).v ∧ a < b) := by simp [bfB]
theorem bfB_f {es : List Ent} {a b : Int} : bfB es a b = false ↔ ¬ ((gi es a).v < (gi es b).v ∨ ((gi es a).v = (gi es b).v ∧ a < b)) := by rw [← bfB_t]; simp
def cloQ (b : Nat) : Value := .func (.func fn_impl_queueFirst_1) #[] #[.pointer (some ⟨b, 0, none⟩)]
theorem k_less {b : Nat} {q : Que} {o : Option Addr} {c : Nat} {w : World} {bs : List Nat} {x y : Int} {t : TypeId} (hq : w.heap[b]? = some (.cells (encQ q o c).toArray t (0, 0))) (hb : b ∉ bs) (hr : RdE bs w o q.es) (hx0 : 0 ≤ x) (hx : x < (q.es.length : Int)) (hy0 : 0 ≤ y) (hy : y < (q.es.length : Int)) :
    PureX bs Try.prog fn_impl_queueFirst_1 #[.int .i64 x, .int .i64 y, .pointer (some ⟨b, 0, none⟩)] w (.bool (bfB q.es x y)) :=
  p_impl_queueFirst_1 x y _ fun wr hxx => by
    have hq := blk_ext hq hxx hb
    have hr := (hr.ext hxx).less (cs := []) (by simp)
    have hc : CellsX [] wr (some ⟨b, 0, none⟩) 3 [.slice o q.es.length c] := cellX_blk hq (by simp) (k0 := 0) (k := 3) rfl
    exact ⟨rfl, _, _, _, hc, hr.ix encE_c hx0 hx, _, (hr x hx0 hx).2.1, rfl, _, _, _, hc, hr.ix encE_c hy0 hy, _, (hr y hy0 hy).2.1, rfl⟩
theorem tdiv2 {k : Nat} (h : 0 < k) : Int.tdiv ((k : Int) - 1) 2 = (((k - 1) / 2 : Nat) : Int) := by
  rw [Int.tdiv_eq_ediv_of_nonneg (by omega)]
  omega
theorem k_push {b b1 base : Nat} {q : Que} {eo : Option Addr} {ec : Nat} {w : World} {o : Option Addr} {cap : Nat} {l : List Int} {x : Int} {tq : TypeId} (hq : w.heap[b]? = some (.cells (encQ q eo ec).toArray tq (0, 0)))
    (hp : w.heap[b1]? = some (.cells [.slice o l.length cap, cloQ b].toArray ty_impl_pile_int (0, 0))) (hO : Own encI 1 ty_int base w o cap l) (hr : RdE (b1 :: blkOf o) w eo q.es) (hbb : b ≠ b1) (hbo : b ∉ blkOf o) (h1o : b1 ∉ blkOf o) (hbase : base ≤ w.heap.size)
    (hv : ∀ y ∈ l, 0 ≤ y ∧ y < (q.es.length : Int)) (hx0 : 0 ≤ x) (hx : x < (q.es.length : Int)) (hmin : ∀ y ∈ l, bfB q.es y (gi l 0) = false) (hlen : l.length ≤ 1000000) :
    Calls Try.prog fn_impl_pile_int_push #[.pointer (some ⟨b1, 0, none⟩), .int .i64 x] w fun e w' => e = .returned (.tuple #[]) ∧ ∃ o' cap' m, w'.heap[b1]? = some (.cells [.slice o' m.length cap', cloQ b].toArray ty_impl_pile_int (0, 0)) ∧ Own encI 1 ty_int base w' o' cap' m ∧
      (∀ y ∈ m, y ∈ l ∨ y = x) ∧ m.length = l.length + 1 ∧ (∀ y ∈ m, bfB q.es y (gi m 0) = false) ∧ gi m 0 = (if l = [] ∨ bfB q.es x (gi l 0) = true then x else gi l 0) ∧ ExtX (b1 :: blkOf o) w w' ∧ (∀ z ∈ blkOf o', z ∈ blkOf o ∨ w.heap.size ≤ z) := by
  refine (e_impl_pile_int_push (some ⟨b1, 0, none⟩) x (R := fun v w' => v = .tuple #[] ∧ ∃ o' cap' m, w'.heap[b1]? = some (.cells [.slice o' m.length cap', cloQ b].toArray ty_impl_pile_int (0, 0)) ∧ Own encI 1 ty_int base w' o' cap' m ∧
      (∀ y ∈ m, y ∈ l ∨ y = x) ∧ m.length = l.length + 1 ∧ (∀ y ∈ m, bfB q.es y (gi m 0) = false) ∧ gi m 0 = (if l = [] ∨ bfB q.es x (gi l 0) = true then x else gi l 0) ∧ ExtX (b1 :: blkOf o) w w' ∧ (∀ z ∈ blkOf o', z ∈ blkOf o ∨ w.heap.size ≤ z)) ?_).mono fun e w' ⟨v, he, hv, h1⟩ => ⟨by rw [he, hv], h1⟩
  have hm9 := maxLen_big
  refine ⟨rfl, o, l.length, cap, cellX_blk hp (by simp) (k0 := 0) (k := 0) rfl, fun bt hbt wr hxr hs hcell => ?_⟩
  have hb1lt := blk_lt hp
  have hblt := blk_lt hq
  have hOr := hO.ext0 hxr
  obtain ⟨o2, c2, w2, hrun, hO2, hx2, ho2⟩ := run_app1 elt_Int u_sl_int hOr (x := x) hcell (oneI _) (by omega) (by omega) ty_sl_int #[false, false] (Nat.le_trans hbase hxr.size)
  have hbt1 : bt < wr.heap.size := hs bt (by simp)
  have hbto : bt ∉ blkOf o := fun hm => by have := (hO.lt bt hm).2; omega
  have ho2b : ∀ z ∈ blkOf o2, z ∈ blkOf o ∨ wr.heap.size ≤ z := fun z hz => by
    rcases ho2 with rfl | rfl
    · exact .inl hz
    · have : z = wr.heap.size := by simpa [blkOf] using hz
      exact .inr (by omega)
  have h1o2 : b1 ∉ blkOf o2 := fun hm => by
    have := hxr.size
    rcases ho2b _ hm with h | h
    · exact h1o h
    · omega
  have hbo2 : b ∉ blkOf o2 := fun hm => by
    have := hxr.size
    rcases ho2b _ hm with h | h
    · exact hbo h
    · omega
  have hbto2 : bt ∉ blkOf o2 := fun hm => by
    rcases ho2b _ hm with h | h
    · exact hbto h
    · omega
  have hbt_1 : bt ≠ b1 := by omega
  have hbt_b : bt ≠ b := by omega
  have hp2 : w2.heap[b1]? = some (.cells [.slice o l.length cap, cloQ b].toArray ty_impl_pile_int (0, 0)) := blk_ext (blk_ext hp hxr (by simp)) hx2 h1o
  have hW0 : ExtX (b1 :: blkOf o) w w2 := hxr.of_nil.trans (hx2.mono fun z hz => List.mem_cons_of_mem _ hz)
  have hp3 : (sto w2 (some ⟨b1, 0, none⟩) (0 + 0) [.slice o2 (l ++ [x]).length c2]).heap[b1]? = some (.cells [.slice o2 (l ++ [x]).length c2, cloQ b].toArray ty_impl_pile_int (0, 0)) := by
    have := sto_blk (k := 0) (n := 0 + 0) (vs := [.slice o2 (l ++ [x]).length c2]) hp2
    exact this
  have hx3 : ExtX [b1] w2 (sto w2 (some ⟨b1, 0, none⟩) (0 + 0) [.slice o2 (l ++ [x]).length c2]) := sto_ext fun a ha => by cases ha; simp
  refine ⟨o2, (l ++ [x]).length, c2, w2, hrun, fun z hz => ?_, rfl, wrX_blk (k0 := 0) hp2 (by simpa using fun e => hbt_1 e.symm) (by simp), rfl, o2, (l ++ [x]).length, c2, cellX_blk hp3 (by simpa using fun e => hbt_1 e.symm) (k0 := 0) (k := 0) rfl, ⟨by omega, by simp; omega⟩, ?_⟩
  · have hze : z = bt := by simpa using hz
    subst hze
    exact hx2.block z hbt1 hbto
  have hO3 : Own encI 1 ty_int base (sto w2 (some ⟨b1, 0, none⟩) (0 + 0) [.slice o2 (l ++ [x]).length c2]) o2 c2 (l ++ [x]) := hO2.ext hx3 fun z hz hm => by
    have : z = b1 := by simpa using hm
    subst this; exact h1o2 hz
  have hW3 : ExtX (b1 :: blkOf o) w (sto w2 (some ⟨b1, 0, none⟩) (0 + 0) [.slice o2 (l ++ [x]).length c2]) := hW0.trans (hx3.mono fun z hz => by
    have : z = b1 := by simpa using hz
    subst this; simp)
  generalize hw3 : sto w2 (some ⟨b1, 0, none⟩) (0 + 0) [.slice o2 (l ++ [x]).length c2] = w3 at *
  have dn : ∀ z ∈ blkOf o2, z ∉ [bt] := fun z hz hm => by
    have : z = bt := by simpa using hm
    subst this; exact hbto2 hz
  have res : ∀ {wA wB : World}, ExtX (b1 :: blkOf o) w wA → ExtX [bt] wA wB → ExtX (b1 :: blkOf o) w wB := fun {wA wB} h1 h2 => h1.fresh h2 fun z hz => by
    have : z = bt := by simpa using hz
    subst this; exact .inl hbt
  have hb2blk : ∀ z ∈ blkOf o2, z ∈ blkOf o ∨ w.heap.size ≤ z := fun z hz => by
    have := hxr.size
    rcases ho2b z hz with h | h
    · exact .inl h
    · exact .inr (by omega)
  have stW : ∀ {wA : World} {n : Nat} {vs : List Value} {cc : Nat} {mm : List Int}, Own encI 1 ty_int base wA o2 cc mm → ExtX (b1 :: blkOf o) w wA → ExtX (b1 :: blkOf o) w (sto wA o2 n vs) := fun {wA n vs cc mm} h1 h2 => h2.fresh (h1.stoX n vs) fun z hz => by
    rcases hb2blk z hz with h | h
    · exact .inr (List.mem_cons_of_mem _ h)
    · exact .inl h
  have llen : (l ++ [x]).length = l.length + 1 := by simp
  refine ⟨fun vs w4 => ∃ (k : Nat) (m : List Int), vs = [.int .i64 (k : Int)] ∧ k < m.length ∧ m.length = l.length + 1 ∧ w4.heap[b1]? = some (.cells [.slice o2 m.length c2, cloQ b].toArray ty_impl_pile_int (0, 0)) ∧ Own encI 1 ty_int base w4 o2 c2 m ∧ gi m (k : Int) = x ∧
      (∀ j : Nat, j < m.length → j ≠ k → gi m (j : Int) ∈ l) ∧ (0 < k → l ≠ [] ∧ gi m 0 = gi l 0) ∧ (k = 0 → l = [] ∨ bfB q.es x (gi l 0) = true) ∧ ExtX (b1 :: blkOf o) w w4, fun vs _ => (ctrAt 0 vs).toNat, fun w4 hx4 _ => ⟨l.length, l ++ [x], by simp, by simp, llen, blk_ext hp3 hx4 (by simpa using fun e => hbt_1 e.symm), hO3.ext hx4 dn, ?_, fun j hj hjk => ?_, fun hk => ?_, fun hk => .inl (List.eq_nil_of_length_eq_zero hk), res hW3 hx4⟩, ?_⟩
  · rw [gi_lt (by simp)]; simp
  · rw [llen] at hj
    rw [gi_lt (by rw [llen]; exact hj), List.getElem_append_left (by omega)]
    exact List.getElem_mem _
  · refine ⟨fun e => by rw [e] at hk; simp at hk, ?_⟩
    have h0 : (0 : Int) = ((0 : Nat) : Int) := rfl
    rw [h0, gi_lt (by simp), gi_lt hk, List.getElem_append_left hk]
  rintro at1 w4 hs4 ⟨k, m, he, hkm, hml, hpm, hOm, hgk, hoth, hpos, hzero, hX4⟩
  simp only [List.cons.injEq, Value.int.injEq, true_and, and_true] at he
  subst he
  have hb1n : b1 ∉ [bt] := by simpa using fun e => hbt_1 e.symm
  have hmem : ∀ y ∈ m, y ∈ l ∨ y = x := fun y hy => by
    obtain ⟨j, hj, rfl⟩ := List.getElem_of_mem hy
    rw [← gi_lt hj]
    by_cases hjk : j = k
    · subst hjk; exact .inr hgk
    · exact .inl (hoth j hj hjk)
  have hin : ∀ y ∈ m, 0 ≤ y ∧ y < (q.es.length : Int) := fun y hy => by
    rcases hmem y hy with h | h
    · exact hv y h
    · rw [h]; exact ⟨hx0, hx⟩
  refine ⟨fun hgt => ?_, fun hle wr5 hx5 => ?_⟩
  · have hgt := of_decide_eq_true hgt
    have hk : 0 < k := by omega
    rw [tdiv2 hk]
    have hup : (k - 1) / 2 < k := by omega
    have hupm : (k - 1) / 2 < m.length := by omega
    have hkI : (k : Int) < (m.length : Int) := by omega
    have huI : ((((k - 1) / 2 : Nat)) : Int) < (m.length : Int) := by omega
    have hrm : RdI [bt] w4 o2 m := hOm.rd elt_Int.len dn
    have hc0 : CellsX [bt] w4 (some ⟨b1, 0, none⟩) (0 + 0) [.slice o2 m.length c2] := cellX_blk hpm hb1n (k0 := 0) (k := 0) rfl
    have hc1 : CellsX [bt] w4 (some ⟨b1, 0, none⟩) (0 + 1) [cloQ b] := cellX_blk hpm hb1n (k0 := 0) (k := 1) rfl
    refine ⟨⟨by omega, by omega⟩, ⟨by decide, ⟨by omega, by omega⟩⟩, rfl, _, _, _, hc1, rfl, _, _, _, hc0, hOm.ix (by omega) hkI, _, hrm _ (by omega) hkI, rfl, _, _, _, hc0, hOm.ix (by omega) huI, _, hrm _ (by omega) huI, fun wr5 hx5 hs5 => ⟨_, _, rfl, ?_⟩⟩
    have hX5 := res hX4 hx5
    have hq5 : wr5.heap[b]? = some (.cells (encQ q eo ec).toArray tq (0, 0)) := blk_ext hq hX5 (by simp only [List.mem_cons, not_or]; exact ⟨hbb, hbo⟩)
    have hr5 := (hr.ext hX5).less (cs := []) (by simp)
    obtain ⟨gu0, gu1⟩ := hin _ (gi_mem (l := m) (i := (((k - 1) / 2 : Nat) : Int)) (by omega) huI)
    rw [hgk]
    refine (k_less hq5 (by simp) hr5 hx0 hx gu0 gu1 wr5 (ExtX.refl _ _)).mono fun e w6 ⟨he, hy⟩ => ⟨_, he, kept_of hy hs5, fun hno wr7 hx7 => ?_, fun hyes => ?_⟩
    · have hno : bfB q.es x (gi m (((k - 1) / 2 : Nat) : Int)) = false := by simpa using hno
      obtain ⟨hlne, hm0⟩ := hpos hk
      have hul : gi m (((k - 1) / 2 : Nat) : Int) ∈ l := hoth _ hupm (by omega)
      have h3 := bfB_f.1 (hmin _ hul)
      have h4 := bfB_f.1 hno
      have h5 : bfB q.es x (gi l 0) = false := bfB_f.2 (by omega)
      have hOm6 := ((hOm.ext hx5 dn).ext0 hy).ext hx7 dn
      refine ⟨rfl, o2, c2, m, blk_ext (blk_ext (blk_ext hpm hx5 hb1n) hy (by simp)) hx7 hb1n, hOm6, hmem, hml, fun y hy' => ?_, ?_, res (hX5.trans hy.of_nil) hx7, hb2blk⟩
      · rw [hm0]
        rcases hmem y hy' with h | h
        · exact hmin y h
        · rw [h]; exact h5
      · rw [hm0, if_neg]
        rintro (h | h)
        · exact hlne h
        · rw [h5] at h; cases h
    · have hyes : bfB q.es x (gi m (((k - 1) / 2 : Nat) : Int)) = true := by simpa using hyes
      have hp6 := blk_ext (blk_ext hpm hx5 hb1n) hy (by simp)
      have hO6 := (hOm.ext hx5 dn).ext0 hy
      have hX6 := hX5.trans (hy.of_nil (bs := b1 :: blkOf o))
      have hr6 : RdI [bt] w6 o2 m := hO6.rd elt_Int.len dn
      have hd0 : CellsX [bt] w6 (some ⟨b1, 0, none⟩) (0 + 0) [.slice o2 m.length c2] := cellX_blk hp6 hb1n (k0 := 0) (k := 0) rfl
      have e1 := hO6.sto elt_Int.len (i := (k : Int)) (by omega) hkI (j := 0) (vs := [.int .i64 (gi m (((k - 1) / 2 : Nat) : Int))]) (x := gi m (((k - 1) / 2 : Nat) : Int)) rfl (by simp)
      have hl1 : (m.set k (gi m (((k - 1) / 2 : Nat) : Int))).length = m.length := List.length_set
      rw [Int.toNat_natCast] at e1
      have huI' : ((((k - 1) / 2 : Nat)) : Int) < ((m.set k (gi m (((k - 1) / 2 : Nat) : Int))).length : Int) := by rw [hl1]; exact huI
      have e2 := e1.sto elt_Int.len (i := (((k - 1) / 2 : Nat) : Int)) (by omega) huI' (j := 0) (vs := [.int .i64 x]) (x := x) rfl (by simp)
      rw [Int.toNat_natCast] at e2
      refine ⟨rfl, _, _, _, hd0, rfl, _, _, _, hd0, rfl, _, _, _, hd0, hOm.ix (by omega) huI, _, hr6 _ (by omega) huI, rfl, _, _, _, hd0, hOm.ix (by omega) hkI, x, by have := hr6 _ (by omega) hkI; rwa [hgk] at this, hOm.ix (by omega) hkI, hO6.wr elt_Int.len dn (by omega) hkI (j := 0) (by decide), hOm.ix (by omega) huI, e1.wr elt_Int.len dn (by omega) huI' (j := 0) (by decide), fun wr7 hx7 hs7 => ⟨⟨(k - 1) / 2, (m.set k (gi m (((k - 1) / 2 : Nat) : Int))).set ((k - 1) / 2) x, rfl, ?_, ?_, ?_, ?_, ?_, fun j hj hjk => ?_, fun hk2 => ?_, fun hk2 => ?_, ?_⟩, ?_⟩⟩
      · simp only [List.length_set]; exact hupm
      · simp only [List.length_set]; exact hml
      · have s1 := blk_ext (blk_ext hp6 (hO6.stoX (Int.toNat (k : Int) * 1) [.int .i64 (gi m (((k - 1) / 2 : Nat) : Int))]) h1o2) (e1.stoX (Int.toNat (((k - 1) / 2 : Nat) : Int) * 1) [.int .i64 x]) h1o2
        simp only [List.length_set]
        exact blk_ext s1 hx7 hb1n
      · exact e2.ext hx7 dn
      · rw [gi_lt (by simp only [List.length_set]; exact hupm)]; simp
      · simp only [List.length_set] at hj
        rw [gi_lt (by simp only [List.length_set]; exact hj), List.getElem_set_ne (by omega), List.getElem_set]
        split
        · exact hoth _ hupm (by omega)
        · rename_i hne
          have := hoth j hj (fun e => hne e.symm)
          rwa [gi_lt hj] at this
      · obtain ⟨a1, a2⟩ := hpos hk
        refine ⟨a1, ?_⟩
        have h0 : (0 : Int) = ((0 : Nat) : Int) := rfl
        rw [h0, gi_lt (by simp only [List.length_set]; omega), List.getElem_set_ne (by omega), List.getElem_set_ne (by omega), ← gi_lt (by omega)]
        exact a2
      · obtain ⟨a1, a2⟩ := hpos hk
        rw [hk2] at hyes
        exact .inr (by rw [← a2]; exact hyes)
      · exact res (stW e1 (stW hO6 hX6)) hx7
      · simp only [ctrAt, List.getElem?_cons_zero]
        omega
  · have hle := of_decide_eq_false hle
    have hk0 : k = 0 := by omega
    subst hk0
    have hz := hzero rfl
    have hg0 : gi m 0 = x := hgk
    refine ⟨rfl, o2, c2, m, blk_ext hpm hx5 hb1n, hOm.ext hx5 dn, hmem, hml, fun y hy => ?_, ?_, res hX4 hx5, hb2blk⟩
    · rw [hg0]
      rcases hmem y hy with h | h
      · rcases hz with h2 | h2
        · rw [h2] at h; cases h
        · have h3 := bfB_f.1 (hmin y h)
          have h4 := bfB_t.1 h2
          exact bfB_f.2 (by omega)
      · rw [h]; exact bfB_f.2 (by omega)
    · rw [hg0, if_pos hz]
end Go.Proofs.Ythihcdljmddgfaa
