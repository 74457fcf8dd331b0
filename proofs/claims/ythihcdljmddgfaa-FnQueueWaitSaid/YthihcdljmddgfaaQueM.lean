/- Queues as the program does them: the deeds, through a pointer. -/
import Derived.Test.YthihcdljmddgfaaQueI
namespace Go.Proofs.Ythihcdljmddgfaa
open Go.RowKit
set_option linter.unusedVariables false
set_option maxRecDepth 10000

/-- The block b holds the queue q, whose entries are in memory of their own. -/
structure QAt (b base : Nat) (w : World) (q : Que) (o : Option Addr) (c : Nat) : Prop where
  blk : w.heap[b]? = some (.cells (encQ q o c).toArray ty_impl_Queue (0, 0))
  own : Own encE 4 ty_impl_Entry base w o c q.es
  dj : b ∉ blkOf o
theorem QAt.ext {b base : Nat} {w w' : World} {q : Que} {o : Option Addr} {c : Nat} {bs : List Nat} (h : QAt b base w q o c) (hx : ExtX bs w w') (hb : b ∉ bs) (ho : ∀ x ∈ blkOf o, x ∉ bs) : QAt b base w' q o c :=
  ⟨blk_ext h.blk hx hb, h.own.ext hx ho, h.dj⟩
theorem QAt.ext0 {b base : Nat} {w w' : World} {q : Que} {o : Option Addr} {c : Nat} (h : QAt b base w q o c) (hx : ExtX [] w w') : QAt b base w' q o c := h.ext hx (by simp) (by simp)
theorem QAt.cell {b base : Nat} {w : World} {q : Que} {o : Option Addr} {c : Nat} (h : QAt b base w q o c) {bs : List Nat} (hb : b ∉ bs) {k : Nat} {v : Value} (hk : (encQ q o c)[k]? = some v) : CellX bs w (some ⟨b, 0, none⟩) k v :=
  cellX_blk h.blk hb (k0 := 0) (by rw [Nat.zero_add]; exact hk)
theorem QAt.put {b base : Nat} {w : World} {q q' : Que} {o : Option Addr} {c : Nat} (h : QAt b base w q o c) {n : Nat} {vs : List Value} (hq : setL (encQ q o c) n vs = encQ q' o c) (he : q'.es = q.es) : QAt b base (sto w (some ⟨b, 0, none⟩) n vs) q' o c ∧ ExtX [b] w (sto w (some ⟨b, 0, none⟩) n vs) := by
  have hx : ExtX [b] w (sto w (some ⟨b, 0, none⟩) n vs) := sto_ext fun a ha => by cases ha; simp
  refine ⟨⟨?_, ?_, h.dj⟩, hx⟩
  · rw [sto_blk (k := 0) (n := n) (vs := vs) h.blk, Nat.zero_add, hq]
  · rw [he]
    exact h.own.ext hx fun x hm hm' => by
      have : x = b := by simpa using hm'
      subst this; exact h.dj hm
theorem QAt.wr {b base : Nat} {w : World} {q : Que} {o : Option Addr} {c : Nat} (h : QAt b base w q o c) {bs : List Nat} (hb : b ∉ bs) {n k : Nat} (hk : n + k ≤ 4) : WrX bs w (some ⟨b, 0, none⟩) n k := wrX_blk (k0 := 0) h.blk hb (by simp [encQ]; omega)
/-- The entries change; the queue stands. -/
theorem QAt.es {b base : Nat} {w : World} {q : Que} {o : Option Addr} {c : Nat} (h : QAt b base w q o c) {n : Nat} {vs : List Value} {l : List Ent} (hO : Own encE 4 ty_impl_Entry base (sto w o n vs) o c l) (hl : l.length = q.es.length) : QAt b base (sto w o n vs) { q with es := l } o c := by
  refine ⟨?_, hO, h.dj⟩
  have := blk_ext h.blk (h.own.stoX n vs) h.dj
  rw [this]
  simp [encQ, hl]
theorem k_entryR {b : Nat} {w : World} {q : Que} {o : Option Addr} {c : Nat} {bs : List Nat} {i : Int} {t : TypeId} (h : w.heap[b]? = some (.cells (encQ q o c).toArray t (0, 0))) (hb : b ∉ bs) (hr : RdE bs w o q.es) (hl : q.es.length ≤ 1048576) :
    PureX bs Try.prog fn_impl_Queue_entry #[.pointer (some ⟨b, 0, none⟩), .int .i64 i] w (.pointer (if atQ q i then o.map (·.add (Int.toNat i * 4)) else none)) :=
  p_impl_Queue_entry _ i fun wr hx => by
    have h := blk_ext h hx hb
    have hr := hr.ext hx
    have hc : CellX [] wr (some ⟨b, 0, none⟩) 3 (.slice o q.es.length c) := cellX_blk h (by simp) (k0 := 0) (k := 3) rfl
    refine ⟨rfl, _, _, _, hc, ⟨by omega, by omega⟩, _, k_impl_inRange, fun g => ?_, fun g => ?_⟩
    · rw [if_neg (by unfold atQ; simpa using g)]
    · have ha : atQ q i = true := by unfold atQ; simpa using g
      obtain ⟨a0, a1⟩ := atQ_t.1 ha
      exact ⟨rfl, _, _, _, hc, hr.ix encE_c a0 a1, by rw [if_pos ha]⟩
theorem k_entry {b base : Nat} {w : World} {q : Que} {o : Option Addr} {c : Nat} {bs : List Nat} {i : Int} (h : QAt b base w q o c) (hb : b ∉ bs) (ho : ∀ x ∈ blkOf o, x ∉ bs) (hl : q.es.length ≤ 1048576) :
    PureX bs Try.prog fn_impl_Queue_entry #[.pointer (some ⟨b, 0, none⟩), .int .i64 i] w (.pointer (if atQ q i then o.map (·.add (Int.toNat i * 4)) else none)) :=
  k_entryR h.blk hb (h.own.rd elt_Entry.len ho) hl
theorem k_impl_endSlice {b base : Nat} {w : World} {q : Que} {o : Option Addr} {c : Nat} (h : QAt b base w q o c) :
    Calls Try.prog fn_impl_Queue_endSlice #[.pointer (some ⟨b, 0, none⟩)] w fun e w' => e = .returned (.tuple #[]) ∧ QAt b base w' (endQ q) o c ∧ ExtX [b] w w' := by
  refine (e_impl_Queue_endSlice (some ⟨b, 0, none⟩) (R := fun v w' => v = .tuple #[] ∧ QAt b base w' (endQ q) o c ∧ ExtX [b] w w') ?_).mono fun e w' ⟨v, he, hv, h1⟩ => ⟨by rw [he, hv], h1⟩
  obtain ⟨h1, x1⟩ := h.put (n := 0 + 1) (vs := [.int .i64 (-1)]) (q' := { q with cur := -1 }) rfl rfl
  obtain ⟨h2, x2⟩ := h1.put (n := 0 + 2) (vs := [.int .i64 0]) (q' := endQ q) rfl rfl
  exact ⟨rfl, h.wr (by simp) (by decide), rfl, h1.wr (by simp) (by decide), fun w2 hx2 => ⟨rfl, h2.ext0 hx2, (x1.trans x2).trans hx2.of_nil⟩⟩
theorem some_map {o : Option Addr} {n : Nat} (h : o.isSome = true) : (o.map (·.add n)).isNone = false ∧ (o.map (·.add n)).isSome = true := by
  cases o with
  | none => cases h
  | some a => exact ⟨rfl, rfl⟩
/-- A deed through the pointer: it does what the data say, or refuses. -/
def OpR (b base : Nat) (o : Option Addr) (c : Nat) (r : Option Que) (w : World) (v : Value) (w' : World) : Prop := ∃ q' ok, v = .bool ok ∧ ActR r q' ok ∧ (ok = true → QAt b base w' q' o c) ∧ ExtX (b :: blkOf o) w w'
theorem OpR.no {b base : Nat} {o : Option Addr} {c : Nat} {r : Option Que} {w w' : World} (q : Que) (h : r = none) (hx : ExtX (b :: blkOf o) w w') : OpR b base o c r w (.bool false) w' := ⟨q, false, rfl, .inr ⟨rfl, h⟩, (fun h => by cases h), hx⟩
theorem OpR.yes {b base : Nat} {o : Option Addr} {c : Nat} {r : Option Que} {w w' : World} {q : Que} (h : r = some q) (hq : QAt b base w' q o c) (hx : ExtX (b :: blkOf o) w w') : OpR b base o c r w (.bool true) w' := ⟨q, true, rfl, .inl ⟨rfl, h⟩, fun _ => hq, hx⟩
theorem one_mem {bt b : Nat} {o : Option Addr} {w : World} {base : Nat} {c : Nat} {l : List Ent} (hO : Own encE 4 ty_impl_Entry base w o c l) (hb : b < w.heap.size) (hbt : w.heap.size ≤ bt) : b ∉ [bt] ∧ ∀ x ∈ blkOf o, x ∉ [bt] :=
  ⟨by simp; omega, fun x hx hm => by
    have : x = bt := by simpa using hm
    have := (hO.lt x hx).2
    omega⟩

section
variable {b base : Nat} {w : World} {q : Que} {o : Option Addr} {c : Nat} {op : QOp}
theorem xb {w w' : World} (h : ExtX (blkOf o) w w') : ExtX (b :: blkOf o) w w' := h.mono fun _ hx => List.mem_cons_of_mem _ hx
theorem xb1 {w w' : World} (h : ExtX [b] w w') : ExtX (b :: blkOf o) w w' := h.mono fun x hx => by
  have : x = b := by simpa using hx
  subst this; simp
theorem k_impl_joins (hq : QueOk q) (h : QAt b base w q o c) : Calls Try.prog fn_impl_Queue_joins #[.pointer (some ⟨b, 0, none⟩), .agg (encO op).toArray] w fun e w' => ∃ v, e = .returned v ∧ OpR b base o c (if atQ q op.at' then joinQ q op.at' else none) w v w' := by
  refine e_impl_Queue_joins (some ⟨b, 0, none⟩) op.kind op.at' op.n (R := fun v w' => OpR b base o c (if atQ q op.at' then joinQ q op.at' else none) w v w') ?_
  have hl20 := hq.l2
  have hblt := blk_lt h.blk
  intro bt hbt
  refine ⟨_, k_entry h (by simp) (by simp) (by omega), ?_⟩
  cases ha : atQ q op.at' with
  | false =>
    simp only [Bool.false_eq_true, if_false]
    exact ⟨(fun g => by cases g), false, (fun g => by cases g), fun _ wr hx => OpR.no q rfl hx.of_nil, fun g => by simp at g⟩
  | true =>
    obtain ⟨a0, a1⟩ := atQ_t.1 ha
    simp only [if_true]
    have hr : RdE [] w o q.es := h.own.rd elt_Entry.len (by simp)
    have hc := hr _ a0 a1
    have hs := h.own.ix a0 a1
    obtain ⟨s1, s2⟩ := some_map (n := Int.toNat op.at' * 4) hs.2.2
    have he := hq.es _ a0 a1
    have f1 := hq.f1
    have f2 := hq.f2
    have v1 := he.v1
    have v2 := he.v2
    have lc := lagCut_range ((gi q.es op.at').v - q.floor) (gi q.es op.at').w
    have lm := lagMost_range (gi q.es op.at').w
    rw [s1]
    refine ⟨fun _ => s2, (gi q.es op.at').on, fun _ => cellsX_add.2 hc.1, fun g wr hx => OpR.no q ?_ hx.of_nil, fun g => ⟨rfl, _, h.cell (by simp) (k := 0) rfl, s2, _, cellsX_add.2 hc.2.1, rfl, _, h.cell (by simp) (k := 0) rfl, ⟨by omega, by omega⟩, s2, _, cellsX_add.2 hc.2.2.1, _, k_impl_LagCut, ⟨by omega, by omega⟩, fun g2 wr hx => OpR.no q ?_ hx.of_nil, fun g2 => ?_⟩⟩
    · unfold joinQ; rw [if_pos (by simpa using g)]
    · unfold joinQ; rw [if_neg (by simpa using g), if_pos (of_decide_eq_true g2)]
    · have e0 := h.own.sto elt_Entry.len a0 a1 (j := 0) (vs := [.bool true]) (x := ⟨true, (gi q.es op.at').v, (gi q.es op.at').w, (gi q.es op.at').sum⟩) rfl (by simp)
      have q0 := h.es e0 (by simp)
      have a1' : op.at' < ((q.es.set op.at'.toNat ⟨true, (gi q.es op.at').v, (gi q.es op.at').w, (gi q.es op.at').sum⟩).length : Int) := by simpa using a1
      have gs : gi (q.es.set op.at'.toNat ⟨true, (gi q.es op.at').v, (gi q.es op.at').w, (gi q.es op.at').sum⟩) op.at' = ⟨true, (gi q.es op.at').v, (gi q.es op.at').w, (gi q.es op.at').sum⟩ := by rw [gi_set _ _ a0 a1 a0, if_pos rfl]
      have e1 := e0.sto elt_Entry.len a0 a1' (j := 1) (vs := [.int .i64 (q.floor + lagCut ((gi q.es op.at').v - q.floor) (gi q.es op.at').w)]) (x := ⟨true, q.floor + lagCut ((gi q.es op.at').v - q.floor) (gi q.es op.at').w, (gi q.es op.at').w, (gi q.es op.at').sum⟩) (by rw [gs]; rfl) (by simp)
      have q1 := q0.es e1 (by simp)
      rw [List.set_set] at q1
      refine ⟨s2, wrX_add.2 (h.own.wr elt_Entry.len (by simp) a0 a1 (j := 0) (by decide)), s2, ?_⟩
      rw [sto_add]
      refine ⟨wrX_add.2 (e0.wr elt_Entry.len (by simp) a0 a1' (j := 1) (by decide)), ?_⟩
      rw [sto_add]
      intro wr hx hsz
      have X1 : ExtX (blkOf o) w wr := ((h.own.stoX _ _).trans (e0.stoX _ _)).trans hx.of_nil
      refine (k_impl_endSlice (q1.ext0 hx)).mono fun e w2 ⟨he2, hq2, hx2⟩ => ⟨he2, fun x hm => hx2.block x (hsz x hm) ?_, fun w3 hx3 => OpR.yes (q := endQ { q with es := q.es.set op.at'.toNat ⟨true, q.floor + lagCut ((gi q.es op.at').v - q.floor) (gi q.es op.at').w, (gi q.es op.at').w, (gi q.es op.at').sum⟩ }) ?_ (hq2.ext hx3 (one_mem h.own hblt hbt).1 (one_mem h.own hblt hbt).2) ?_⟩
      · have : x = bt := by simpa using hm
        simp; omega
      · unfold joinQ; rw [if_neg (by simpa using g), if_neg (of_decide_eq_false g2)]
      · exact ((xb X1).trans (xb1 hx2)).fresh hx3 fun x hm => .inl (le_mem1 hm hbt)
theorem k_impl_leaves (hq : QueOk q) (h : QAt b base w q o c) : Calls Try.prog fn_impl_Queue_leaves #[.pointer (some ⟨b, 0, none⟩), .agg (encO op).toArray] w fun e w' => ∃ v, e = .returned v ∧ OpR b base o c (if atQ q op.at' then leaveQ q op.at' else none) w v w' := by
  refine e_impl_Queue_leaves (some ⟨b, 0, none⟩) op.kind op.at' op.n (R := fun v w' => OpR b base o c (if atQ q op.at' then leaveQ q op.at' else none) w v w') ?_
  have hl20 := hq.l2
  have hblt := blk_lt h.blk
  intro bt hbt
  refine ⟨_, k_entry h (by simp) (by simp) (by omega), ?_⟩
  cases ha : atQ q op.at' with
  | false =>
    simp only [Bool.false_eq_true, if_false]
    exact ⟨(fun g => by cases g), false, (fun g => by cases g), fun _ wr hx => OpR.no q rfl hx.of_nil, fun g => by simp at g⟩
  | true =>
    obtain ⟨a0, a1⟩ := atQ_t.1 ha
    simp only [if_true]
    have hr : RdE [] w o q.es := h.own.rd elt_Entry.len (by simp)
    have hc := hr _ a0 a1
    have hs := h.own.ix a0 a1
    obtain ⟨s1, s2⟩ := some_map (n := Int.toNat op.at' * 4) hs.2.2
    rw [s1]
    have e0 := own_on h.own a0 a1 false
    have q0 := h.es e0 (by simp)
    refine ⟨fun _ => s2, (gi q.es op.at').on, fun _ => cellsX_add.2 hc.1, fun g wr hx => OpR.no q ?_ hx.of_nil, fun g => ⟨s2, wrX_add.2 (h.own.wr elt_Entry.len (by simp) a0 a1 (j := 0) (by decide)), rfl, q.cur, ?_⟩⟩
    · unfold leaveQ; rw [if_neg (by simpa using g)]
    rw [sto_add]
    have hon : (gi q.es op.at').on = true := by simpa using g
    refine ⟨q0.cell (by simp) (k := 1) rfl, fun g2 wr hx hsz => ?_, fun g2 wr hx => OpR.yes (q := { q with es := q.es.set op.at'.toNat ⟨false, (gi q.es op.at').v, (gi q.es op.at').w, (gi q.es op.at').sum⟩ }) ?_ (q0.ext0 hx) (xb ((h.own.stoX _ _).trans hx.of_nil))⟩
    · have X1 : ExtX (blkOf o) w wr := (h.own.stoX _ _).trans hx.of_nil
      refine (k_impl_endSlice (q0.ext0 hx)).mono fun e w2 ⟨he2, hq2, hx2⟩ => ⟨he2, fun x hm => hx2.block x (hsz x hm) ?_, fun w3 hx3 => OpR.yes (q := endQ { q with es := q.es.set op.at'.toNat ⟨false, (gi q.es op.at').v, (gi q.es op.at').w, (gi q.es op.at').sum⟩ }) ?_ (hq2.ext hx3 (one_mem h.own hblt hbt).1 (one_mem h.own hblt hbt).2) ?_⟩
      · have : x = bt := by simpa using hm
        simp; omega
      · unfold leaveQ; rw [if_pos hon, if_pos (eq_of_beq g2).symm]
      · exact ((xb X1).trans (xb1 hx2)).fresh hx3 fun x hm => .inl (le_mem1 hm hbt)
    · unfold leaveQ; rw [if_pos hon, if_neg (fun e => by rw [e] at g2; simp at g2)]
theorem k_impl_stays (h : QAt b base w q o c) : Calls Try.prog fn_impl_Queue_stays #[.pointer (some ⟨b, 0, none⟩), .agg (encO op).toArray] w fun e w' => ∃ v, e = .returned v ∧ OpR b base o c (some (endQ q)) w v w' := by
  refine e_impl_Queue_stays (some ⟨b, 0, none⟩) op.kind op.at' op.n (R := fun v w' => OpR b base o c (some (endQ q)) w v w') ?_
  have hblt := blk_lt h.blk
  intro bt hbt wr hx hsz
  refine (k_impl_endSlice (h.ext0 hx)).mono fun e w2 ⟨he2, hq2, hx2⟩ => ⟨he2, fun x hm => hx2.block x (hsz x hm) ?_, fun w3 hx3 => OpR.yes rfl (hq2.ext hx3 (one_mem h.own hblt hbt).1 (one_mem h.own hblt hbt).2) ?_⟩
  · have : x = bt := by simpa using hm
    simp; omega
  · exact (hx.of_nil.trans (xb1 hx2)).fresh hx3 fun x hm => .inl (le_mem1 hm hbt)
theorem k_impl_weighs (hq : QueOk q) (h : QAt b base w q o c) : Calls Try.prog fn_impl_Queue_weighs #[.pointer (some ⟨b, 0, none⟩), .agg (encO op).toArray] w fun e w' => ∃ v, e = .returned v ∧ OpR b base o c (if atQ q op.at' then weighQ q op.at' op.n else none) w v w' := by
  refine e_impl_Queue_weighs (some ⟨b, 0, none⟩) op.kind op.at' op.n (R := fun v w' => OpR b base o c (if atQ q op.at' then weighQ q op.at' op.n else none) w v w') ?_
  have hl20 := hq.l2
  have hblt := blk_lt h.blk
  intro bt hbt
  refine ⟨_, k_entry h (by simp) (by simp) (by omega), _, fun _ => k_impl_weightOk, ?_⟩
  cases ha : atQ q op.at' with
  | false =>
    simp only [Bool.false_eq_true, if_false]
    exact ⟨fun _ wr hx => OpR.no q rfl hx.of_nil, fun g => by simp at g⟩
  | true =>
    obtain ⟨a0, a1⟩ := atQ_t.1 ha
    simp only [if_true]
    have hr : RdE [] w o q.es := h.own.rd elt_Entry.len (by simp)
    have hc := hr _ a0 a1
    have hs := h.own.ix a0 a1
    obtain ⟨s1, s2⟩ := some_map (n := Int.toNat op.at' * 4) hs.2.2
    have he := hq.es _ a0 a1
    have f1 := hq.f1
    have f2 := hq.f2
    have v1 := he.v1
    have v2 := he.v2
    have lc := lagCut_range ((gi q.es op.at').v - q.floor) op.n
    have lm := lagMost_range op.n
    rw [s1]
    refine ⟨fun g wr hx => OpR.no q ?_ hx.of_nil, fun g => ⟨s2, (gi q.es op.at').on, cellsX_add.2 hc.1, fun hon => ?_, fun hon => ?_⟩⟩
    · unfold weighQ; rw [if_pos (by simpa using g)]
    · have hn : weighQ q op.at' op.n = if weighV q op.at' op.n > 100000000000000000 then none
          else some (if q.cur = op.at' then endQ { q with es := q.es.set op.at'.toNat ⟨(gi q.es op.at').on, weighV q op.at' op.n, op.n, (gi q.es op.at').sum⟩ } else { q with es := q.es.set op.at'.toNat ⟨(gi q.es op.at').on, weighV q op.at' op.n, op.n, (gi q.es op.at').sum⟩ }) := by
        unfold weighQ; rw [if_neg (by simpa using g)]
      have hv : weighV q op.at' op.n = q.floor + lagCut ((gi q.es op.at').v - q.floor) op.n := by unfold weighV; rw [if_pos hon]
      refine ⟨rfl, _, h.cell (by simp) (k := 0) rfl, s2, _, cellsX_add.2 hc.2.1, rfl, _, h.cell (by simp) (k := 0) rfl, ⟨by omega, by omega⟩, _, k_impl_LagCut, ⟨by omega, by omega⟩, fun g2 wr hx => OpR.no q ?_ hx.of_nil, fun g2 => ?_⟩
      · rw [hn, hv, if_pos (of_decide_eq_true g2)]
      rw [hv, if_neg (of_decide_eq_false g2)] at hn
      have e0 := h.own.sto elt_Entry.len a0 a1 (j := 1) (vs := [.int .i64 (q.floor + lagCut ((gi q.es op.at').v - q.floor) op.n)]) (x := ⟨(gi q.es op.at').on, q.floor + lagCut ((gi q.es op.at').v - q.floor) op.n, (gi q.es op.at').w, (gi q.es op.at').sum⟩) rfl (by simp)
      have q0 := h.es e0 (by simp)
      have a1' : op.at' < ((q.es.set op.at'.toNat ⟨(gi q.es op.at').on, q.floor + lagCut ((gi q.es op.at').v - q.floor) op.n, (gi q.es op.at').w, (gi q.es op.at').sum⟩).length : Int) := by simpa using a1
      have gs : gi (q.es.set op.at'.toNat ⟨(gi q.es op.at').on, q.floor + lagCut ((gi q.es op.at').v - q.floor) op.n, (gi q.es op.at').w, (gi q.es op.at').sum⟩) op.at' = ⟨(gi q.es op.at').on, q.floor + lagCut ((gi q.es op.at').v - q.floor) op.n, (gi q.es op.at').w, (gi q.es op.at').sum⟩ := by rw [gi_set _ _ a0 a1 a0, if_pos rfl]
      have e1 := e0.sto elt_Entry.len a0 a1' (j := 2) (vs := [.int .i64 op.n]) (x := ⟨(gi q.es op.at').on, q.floor + lagCut ((gi q.es op.at').v - q.floor) op.n, op.n, (gi q.es op.at').sum⟩) (by rw [gs]; rfl) (by simp)
      have q1 := q0.es e1 (by simp)
      rw [List.set_set] at q1
      refine ⟨s2, wrX_add.2 (h.own.wr elt_Entry.len (by simp) a0 a1 (j := 1) (by decide)), s2, ?_⟩
      rw [sto_add]
      refine ⟨wrX_add.2 (e0.wr elt_Entry.len (by simp) a0 a1' (j := 2) (by decide)), rfl, q.cur, ?_⟩
      rw [sto_add]
      refine ⟨q1.cell (by simp) (k := 1) rfl, fun g3 wr hx hsz => ?_, fun g3 wr hx => OpR.yes (q := { q with es := q.es.set op.at'.toNat ⟨(gi q.es op.at').on, q.floor + lagCut ((gi q.es op.at').v - q.floor) op.n, op.n, (gi q.es op.at').sum⟩ }) ?_ (q1.ext0 hx) (xb (((h.own.stoX _ _).trans (e0.stoX _ _)).trans hx.of_nil))⟩
      · have X1 : ExtX (blkOf o) w wr := ((h.own.stoX _ _).trans (e0.stoX _ _)).trans hx.of_nil
        refine (k_impl_endSlice (q1.ext0 hx)).mono fun e w2 ⟨he2, hq2, hx2⟩ => ⟨he2, fun x hm => hx2.block x (hsz x hm) ?_, fun w3 hx3 => OpR.yes (q := endQ { q with es := q.es.set op.at'.toNat ⟨(gi q.es op.at').on, q.floor + lagCut ((gi q.es op.at').v - q.floor) op.n, op.n, (gi q.es op.at').sum⟩ }) ?_ (hq2.ext hx3 (one_mem h.own hblt hbt).1 (one_mem h.own hblt hbt).2) ?_⟩
        · have : x = bt := by simpa using hm
          simp; omega
        · rw [hn, if_pos (eq_of_beq g3).symm]
        · exact ((xb X1).trans (xb1 hx2)).fresh hx3 fun x hm => .inl (le_mem1 hm hbt)
      · rw [hn, if_neg (fun e => by rw [e] at g3; simp at g3)]
    · have hv : weighV q op.at' op.n = (gi q.es op.at').v := by unfold weighV; rw [if_neg (by rw [hon]; simp)]
      have hn : weighQ q op.at' op.n = some (if q.cur = op.at' then endQ { q with es := q.es.set op.at'.toNat ⟨(gi q.es op.at').on, (gi q.es op.at').v, op.n, (gi q.es op.at').sum⟩ } else { q with es := q.es.set op.at'.toNat ⟨(gi q.es op.at').on, (gi q.es op.at').v, op.n, (gi q.es op.at').sum⟩ }) := by
        unfold weighQ; rw [if_neg (by simpa using g), hv, if_neg (by omega)]
      have e0 := h.own.sto elt_Entry.len a0 a1 (j := 2) (vs := [.int .i64 op.n]) (x := ⟨(gi q.es op.at').on, (gi q.es op.at').v, op.n, (gi q.es op.at').sum⟩) rfl (by simp)
      have q1 := h.es e0 (by simp)
      refine ⟨s2, wrX_add.2 (h.own.wr elt_Entry.len (by simp) a0 a1 (j := 2) (by decide)), rfl, q.cur, ?_⟩
      rw [sto_add]
      refine ⟨q1.cell (by simp) (k := 1) rfl, fun g3 wr hx hsz => ?_, fun g3 wr hx => OpR.yes (q := { q with es := q.es.set op.at'.toNat ⟨(gi q.es op.at').on, (gi q.es op.at').v, op.n, (gi q.es op.at').sum⟩ }) ?_ (q1.ext0 hx) (xb ((h.own.stoX _ _).trans hx.of_nil))⟩
      · have X1 : ExtX (blkOf o) w wr := (h.own.stoX _ _).trans hx.of_nil
        refine (k_impl_endSlice (q1.ext0 hx)).mono fun e w2 ⟨he2, hq2, hx2⟩ => ⟨he2, fun x hm => hx2.block x (hsz x hm) ?_, fun w3 hx3 => OpR.yes (q := endQ { q with es := q.es.set op.at'.toNat ⟨(gi q.es op.at').on, (gi q.es op.at').v, op.n, (gi q.es op.at').sum⟩ }) ?_ (hq2.ext hx3 (one_mem h.own hblt hbt).1 (one_mem h.own hblt hbt).2) ?_⟩
        · have : x = bt := by simpa using hm
          simp; omega
        · rw [hn, if_pos (eq_of_beq g3).symm]
        · exact ((xb X1).trans (xb1 hx2)).fresh hx3 fun x hm => .inl (le_mem1 hm hbt)
      · rw [hn, if_neg (fun e => by rw [e] at g3; simp at g3)]
theorem k_impl_runs (hq : QueOk q) (h : QAt b base w q o c) : Calls Try.prog fn_impl_Queue_runs #[.pointer (some ⟨b, 0, none⟩), .agg (encO op).toArray] w fun e w' => ∃ v, e = .returned v ∧ OpR b base o c (runQ q op.n) w v w' := by
  refine e_impl_Queue_runs (some ⟨b, 0, none⟩) op.kind op.at' op.n (R := fun v w' => OpR b base o c (runQ q op.n) w v w') ?_
  have hl20 := hq.l2
  have hr : RdE [] w o q.es := h.own.rd elt_Entry.len (by simp)
  have hnx := k_impl_queueNext (q := q) (c := c) hr (by omega)
  rw [nextI_eq hq] at hnx
  have hlt := nextQ_lt hq
  intro bt hbt
  refine ⟨rfl, q.floor, q.cur, q.ran, o, q.es.length, c, cellsX_blk h.blk (by simp) (k0 := 0) (fun j v hj => by simpa [encQ] using hj), _, hnx, _, k_impl_inRange, fun g wr hx => OpR.no q ?_ hx.of_nil, fun g => ?_⟩
  · unfold runQ
    rw [if_pos]
    simp only [Bool.or_eq_true, Bool.not_eq_true', decide_eq_true_eq] at g
    rcases g with g | g
    · exact .inr g
    · exact .inl g
  · simp only [Bool.or_eq_false_iff, decide_eq_false_iff_not, Bool.not_eq_false'] at g
    obtain ⟨g2, g1⟩ := g
    have g3 := inB_t.1 g2
    have h0 : 0 ≤ nextQ q := by omega
    have he := hq.es _ h0 hlt
    have v1 := he.v1
    have v2 := he.v2
    have s1 := he.s1
    have s2 := he.s2
    have vr := vstep_range op.n (gi q.es (nextQ q)).w
    have hc := hr _ h0 hlt
    have b1' := hq.busy
    have hn : runQ q op.n = if tOk (runE (gi q.es (nextQ q)) op.n).v = false ∨ tOk (runE (gi q.es (nextQ q)) op.n).sum = false then none else some ⟨q.floor, nextQ q, (if nextQ q ≠ q.cur ∨ q.ran ≥ 50 then 0 else q.ran) + op.n, q.es.set (nextQ q).toNat (runE (gi q.es (nextQ q)) op.n)⟩ := by
      unfold runQ
      rw [if_neg (by rw [g2]; simp; omega)]
    refine ⟨rfl, _, _, _, h.cell (by simp) (k := 3) rfl, h.own.ix h0 hlt, _, hc.2.1, _, hc.2.2.1, _, k_impl_VirtualStep, ⟨by omega, by omega⟩, _, hc.2.2.2, ⟨by omega, by omega⟩, fun g4 wr hx => OpR.no q ?_ hx.of_nil, fun g4 => ?_⟩
    · rw [hn, if_pos]
      simp only [Bool.or_eq_true, decide_eq_true_eq] at g4
      simp only [runE, tOk, inB_f]
      rcases g4 with g4 | g4
      · exact .inl (by omega)
      · exact .inr (by omega)
    · simp only [Bool.or_eq_false_iff, decide_eq_false_iff_not] at g4
      rw [if_neg (by simp only [runE, tOk, inB_f]; omega)] at hn
      have e0 := h.own.sto elt_Entry.len h0 hlt (j := 1) (vs := [.int .i64 ((gi q.es (nextQ q)).v + vstep op.n (gi q.es (nextQ q)).w)]) (x := ⟨(gi q.es (nextQ q)).on, (gi q.es (nextQ q)).v + vstep op.n (gi q.es (nextQ q)).w, (gi q.es (nextQ q)).w, (gi q.es (nextQ q)).sum⟩) rfl (by simp)
      have q0 := h.es e0 (by simp)
      have a1' : nextQ q < ((q.es.set (nextQ q).toNat ⟨(gi q.es (nextQ q)).on, (gi q.es (nextQ q)).v + vstep op.n (gi q.es (nextQ q)).w, (gi q.es (nextQ q)).w, (gi q.es (nextQ q)).sum⟩).length : Int) := by simpa using hlt
      have gs : gi (q.es.set (nextQ q).toNat ⟨(gi q.es (nextQ q)).on, (gi q.es (nextQ q)).v + vstep op.n (gi q.es (nextQ q)).w, (gi q.es (nextQ q)).w, (gi q.es (nextQ q)).sum⟩) (nextQ q) = ⟨(gi q.es (nextQ q)).on, (gi q.es (nextQ q)).v + vstep op.n (gi q.es (nextQ q)).w, (gi q.es (nextQ q)).w, (gi q.es (nextQ q)).sum⟩ := by rw [gi_set _ _ h0 hlt h0, if_pos rfl]
      have e1 := e0.sto elt_Entry.len h0 a1' (j := 3) (vs := [.int .i64 ((gi q.es (nextQ q)).sum + op.n)]) (x := runE (gi q.es (nextQ q)) op.n) (by rw [gs]; rfl) (by simp)
      have q1 := q0.es e1 (by simp)
      rw [List.set_set] at q1
      have X1 := (h.own.stoX (Int.toNat (nextQ q) * 4 + 1) [.int .i64 ((gi q.es (nextQ q)).v + vstep op.n (gi q.es (nextQ q)).w)]).trans (e0.stoX (Int.toNat (nextQ q) * 4 + 3) [.int .i64 ((gi q.es (nextQ q)).sum + op.n)])
      refine ⟨h.own.wr elt_Entry.len (by simp) h0 hlt (j := 1) (by decide), e0.wr elt_Entry.len (by simp) h0 a1' (j := 3) (by decide), rfl, q.cur, q1.cell (by simp) (k := 1) rfl, fun _ => rfl, q.ran, fun _ => q1.cell (by simp) (k := 2) rfl, fun g5 => ?_, fun g5 => ?_⟩
      · simp only [Bool.and_eq_true, decide_eq_true_eq, beq_iff_eq] at g5
        have hb := b1' (by omega)
        obtain ⟨q2, x2⟩ := q1.put (n := 0 + 2) (vs := [.int .i64 (q.ran + op.n)]) (q' := { q with ran := q.ran + op.n, es := q.es.set (nextQ q).toNat (runE (gi q.es (nextQ q)) op.n) }) rfl rfl
        refine ⟨rfl, q.ran, q1.cell (by simp) (k := 2) rfl, ⟨by omega, by omega⟩, rfl, q1.wr (by simp) (by decide), fun wr hx => OpR.yes ?_ (q2.ext0 hx) (((xb X1).trans (xb1 x2)).trans hx.of_nil)⟩
        rw [hn, if_neg (by omega), g5.1]
      · obtain ⟨q2, x2⟩ := q1.put (n := 0 + 1) (vs := [.int .i64 (nextQ q)]) (q' := { q with cur := nextQ q, es := q.es.set (nextQ q).toNat (runE (gi q.es (nextQ q)) op.n) }) rfl rfl
        obtain ⟨q3, x3⟩ := q2.put (n := 0 + 2) (vs := [.int .i64 op.n]) (q' := { q with cur := nextQ q, ran := op.n, es := q.es.set (nextQ q).toNat (runE (gi q.es (nextQ q)) op.n) }) rfl rfl
        refine ⟨rfl, q1.wr (by simp) (by decide), rfl, rfl, q2.wr (by simp) (by decide), fun wr hx => OpR.yes ?_ (q3.ext0 hx) ((((xb X1).trans (xb1 x2)).trans (xb1 x3)).trans hx.of_nil)⟩
        have : nextQ q ≠ q.cur ∨ q.ran ≥ 50 := by
          simp only [Bool.and_eq_false_iff, decide_eq_false_iff_not, beq_eq_false_iff_ne] at g5
          rcases g5 with g5 | g5
          · exact .inl g5
          · exact .inr (by omega)
        rw [hn, if_pos this, Int.zero_add]
theorem k_impl_rise (hl : q.es.length ≤ 100000) (h : QAt b base w q o c) : Calls Try.prog fn_impl_Queue_rise #[.pointer (some ⟨b, 0, none⟩)] w fun e w' => e = .returned (.tuple #[]) ∧ QAt b base w' (riseQ q) o c ∧ ExtX [b] w w' := by
  refine (e_impl_Queue_rise (some ⟨b, 0, none⟩) (R := fun v w' => v = .tuple #[] ∧ QAt b base w' (riseQ q) o c ∧ ExtX [b] w w') ?_).mono fun e w' ⟨v, he, hv, h1⟩ => ⟨by rw [he, hv], h1⟩
  have hr : RdE [] w o q.es := h.own.rd elt_Entry.len (by simp)
  have hlr := leastS_range q.es q.es.length
  refine ⟨rfl, q.floor, q.cur, q.ran, o, q.es.length, c, cellsX_blk h.blk (by simp) (k0 := 0) (fun j v hj => by simpa [encQ] using hj), _, k_impl_queueFirst hr hl, fun g => ?_, fun g wr hx => ⟨rfl, ?_, hx.of_nil⟩⟩
  · have g := of_decide_eq_true g
    have hlt : least q.es < (q.es.length : Int) := hlr.2
    obtain ⟨q1, x1⟩ := h.put (n := 0 + 0) (vs := [.int .i64 (if (gi q.es (least q.es)).v > q.floor then (gi q.es (least q.es)).v else q.floor)]) (q' := riseQ q) (by
      unfold riseQ
      rw [if_pos g]
      have : maxI q.floor (gi q.es (least q.es)).v = (if (gi q.es (least q.es)).v > q.floor then (gi q.es (least q.es)).v else q.floor) := by
        unfold maxI
        split <;> split <;> omega
      rw [this]; rfl) (riseQ_es q)
    exact ⟨rfl, _, h.cell (by simp) (k := 0) rfl, rfl, _, _, _, h.cell (by simp) (k := 3) rfl, h.own.ix g hlt, _, (hr _ g hlt).2.1, rfl, h.wr (by simp) (by decide), fun wr hx => ⟨rfl, q1.ext0 hx, x1.trans hx.of_nil⟩⟩
  · have g := of_decide_eq_false g
    unfold riseQ
    rw [if_neg g]
    exact h.ext0 hx
end
end Go.Proofs.Ythihcdljmddgfaa
