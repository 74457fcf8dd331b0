/- Queues: what is done with them, as data; the reference's functions that do it. -/
import Derived.Test.YthihcdljmddgfaaQue
namespace Go.Proofs.Ythihcdljmddgfaa
open Go.RowKit
set_option linter.unusedVariables false
set_option maxRecDepth 10000

def endQ (q : Que) : Que := { q with cur := -1, ran := 0 }
def riseQ (q : Que) : Que := if least q.es ≥ 0 then { q with floor := maxI q.floor (gi q.es (least q.es)).v } else q
def joinQ (q : Que) (i : Int) : Option Que :=
  if (gi q.es i).on then none
  else if q.floor + lagCut ((gi q.es i).v - q.floor) (gi q.es i).w > 100000000000000000 then none
  else some (endQ { q with es := q.es.set i.toNat ⟨true, q.floor + lagCut ((gi q.es i).v - q.floor) (gi q.es i).w, (gi q.es i).w, (gi q.es i).sum⟩ })
def leaveQ (q : Que) (i : Int) : Option Que :=
  if (gi q.es i).on then
    some (if q.cur = i then endQ { q with es := q.es.set i.toNat ⟨false, (gi q.es i).v, (gi q.es i).w, (gi q.es i).sum⟩ } else { q with es := q.es.set i.toNat ⟨false, (gi q.es i).v, (gi q.es i).w, (gi q.es i).sum⟩ })
  else none
def runE (e : Ent) (n : Int) : Ent := ⟨e.on, e.v + vstep n e.w, e.w, e.sum + n⟩
def runQ (q : Que) (n : Int) : Option Que :=
  if nextQ q < 0 ∨ inB n 1 100 = false then none
  else if tOk (runE (gi q.es (nextQ q)) n).v = false ∨ tOk (runE (gi q.es (nextQ q)) n).sum = false then none
  else some ⟨q.floor, nextQ q, (if nextQ q ≠ q.cur ∨ q.ran ≥ 50 then 0 else q.ran) + n, q.es.set (nextQ q).toNat (runE (gi q.es (nextQ q)) n)⟩
def weighV (q : Que) (i w : Int) : Int := if (gi q.es i).on then q.floor + lagCut ((gi q.es i).v - q.floor) w else (gi q.es i).v
def weighQ (q : Que) (i w : Int) : Option Que :=
  if inB w 1 20 = false then none
  else if weighV q i w > 100000000000000000 then none
  else some (if q.cur = i then endQ { q with es := q.es.set i.toNat ⟨(gi q.es i).on, weighV q i w, w, (gi q.es i).sum⟩ } else { q with es := q.es.set i.toNat ⟨(gi q.es i).on, weighV q i w, w, (gi q.es i).sum⟩ })
def atQ (q : Que) (i : Int) : Bool := inB i 0 ((q.es.length : Int) - 1)
def actQ (q : Que) (op : QOp) : Option Que :=
  if op.kind = 1 then (if atQ q op.at' then joinQ q op.at' else none)
  else if op.kind = 2 then (if atQ q op.at' then leaveQ q op.at' else none)
  else if op.kind = 3 then runQ q op.n
  else if op.kind = 4 then (if atQ q op.at' then weighQ q op.at' op.n else none)
  else if op.kind = 5 then some (endQ q)
  else none
def zeroQ : Que := ⟨0, 0, 0, []⟩
def doQ (q : Que) (op : QOp) : Que × Bool :=
  if queOk q then (match actQ q op with
    | some q1 => (riseQ q1, true)
    | none => (q, false))
  else (zeroQ, false)
/-- What an act gave: a new queue, or a refusal. -/
def ActR (r : Option Que) (q : Que) (ok : Bool) : Prop := (ok = true ∧ r = some q) ∨ (ok = false ∧ r = none)

theorem atQ_t {q : Que} {i : Int} : atQ q i = true ↔ 0 ≤ i ∧ i < (q.es.length : Int) := by
  unfold atQ
  rw [inB_t]
  omega
theorem own_set {base : Nat} {l : List Ent} {o : Option Addr} {c : Nat} {w : World} (h : Own encE 4 ty_impl_Entry base w o c l) {i : Int} (h0 : 0 ≤ i) (hi : i < (l.length : Int)) (x : Ent) : Own encE 4 ty_impl_Entry base (sto w o (Int.toNat i * 4) (encE x)) o c (l.set i.toNat x) :=
  h.sto elt_Entry.len h0 hi (j := 0) (vs := encE x) (x := x) rfl (by simp [encE])
theorem nextQ_lt {q : Que} (h : QueOk q) : nextQ q < (q.es.length : Int) := by
  unfold nextQ
  split
  · exact h.c2
  · exact (leastS_range q.es q.es.length).2

theorem k_spec_l4End {q : Que} {o : Option Addr} {c : Nat} {w : World} {bs : List Nat} : PureX bs Try.prog fn_spec_l4End #[.agg (encQ q o c).toArray] w (.agg (encQ (endQ q) o c).toArray) :=
  p_spec_l4End q.floor q.cur q.ran o q.es.length c fun wr hx => by
    intro _ _ _ _
    rfl
theorem k_spec_l4Rise {q : Que} {o : Option Addr} {c : Nat} {w : World} {bs : List Nat} (h : RdE bs w o q.es) (hl : q.es.length ≤ maxLen) : PureX bs Try.prog fn_spec_l4Rise #[.agg (encQ q o c).toArray] w (.agg (encQ (riseQ q) o c).toArray) :=
  p_spec_l4Rise q.floor q.cur q.ran o q.es.length c fun wr hx => by
    have h := (h.ext hx).less (cs := []) (by simp)
    have hr := leastS_range q.es q.es.length
    intro _ _ _ _
    refine ⟨_, k_spec_l4Least h hl, fun g => ?_, fun g => ?_⟩
    · have g := of_decide_eq_true g
      have hlt : least q.es < (q.es.length : Int) := hr.2
      refine ⟨h.ix encE_c g hlt, _, (h _ g hlt).2.1, _, k_spec_l1Max, ?_⟩
      unfold riseQ; rw [if_pos g]; rfl
    · have g := of_decide_eq_false g
      unfold riseQ; rw [if_neg g]; rfl
theorem k_spec_l4Own {q : Que} {o : Option Addr} {c : Nat} {w : World} (h : RdE [] w o q.es) (hl : q.es.length ≤ 1048576) :
    Calls Try.prog fn_spec_l4Own #[.agg (encQ q o c).toArray] w fun e w' => ∃ o' c', e = .returned (.agg (encQ q o' c').toArray) ∧ Own encE 4 ty_impl_Entry w.heap.size w' o' c' q.es ∧ ExtX [] w w' := by
  refine (e_spec_l4Own q.floor q.cur q.ran o q.es.length c (R := fun v w' => ∃ o' c', v = .agg (encQ q o' c').toArray ∧ Own encE 4 ty_impl_Entry w.heap.size w' o' c' q.es ∧ ExtX [] w w') ?_).mono fun e w' ⟨v, he, o', c', hv, h1, h2⟩ => ⟨o', c', by rw [he, hv], h1, h2⟩
  intro b hb b1 hb1 b2 hb2
  have hbs : ∀ x ∈ [b, b1, b2], w.heap.size ≤ x := fun x hm => by
    simp only [List.mem_cons, List.not_mem_nil, or_false] at hm
    rcases hm with rfl | rfl | rfl <;> assumption
  have hm9 := maxLen_big
  refine ⟨fun vs w1 => ∃ (i : Nat) (o' : Option Addr) (c' : Nat), vs = [.int .i64 (i : Int), .int .i64 q.floor, .int .i64 q.cur, .int .i64 q.ran, .slice o' (q.es.take i).length c'] ∧ i ≤ q.es.length ∧ Own encE 4 ty_impl_Entry w.heap.size w1 o' c' (q.es.take i) ∧ (∀ x ∈ blkOf o', x ∉ [b, b1, b2]) ∧ ExtX [] w w1, cntMw q.es.length 0,
    fun w1 hx _ => ⟨0, none, 0, by simp, Nat.zero_le _, .inl ⟨rfl, rfl, rfl⟩, by simp [blkOf], hx⟩, ?_⟩
  rintro i1 f1 c1 r1 o1 L1 C1 w1 hs1 ⟨i, o', c', he, hi, hO, hd, hX⟩
  simp only [List.cons.injEq, Value.int.injEq, Value.slice.injEq, true_and, and_true] at he
  obtain ⟨rfl, rfl, rfl, rfl, rfl, rfl, rfl⟩ := he
  refine ⟨fun hlt => ?_, fun hge => ?_⟩
  · have hlt := of_decide_eq_true hlt
    have hr := (h.wide (cs := [b, b1, b2]) fun x hx => .inr (hbs x hx)).ext hX.of_nil
    refine ⟨hr.ix encE_c (by omega) hlt, _, _, _, _, hr i (by omega) hlt, fun b4 hb4 => ⟨rfl, fun wr3 hx3 hs3 hcell => ?_⟩⟩
    have hO3 := hO.ext hx3 hd
    have hb4' : ∀ x ∈ blkOf o1, x ≠ b4 := fun x hm e => by have := (hO.lt x hm).2; omega
    have hxw3 : ExtX [] w wr3 := hX.fresh hx3 fun x hx => .inl (hbs x hx)
    obtain ⟨o2, c2, w2, hrun, hO2, hx2, ho2⟩ := run_app1 elt_Entry u_sl_impl_Entry hO3 (x := gi q.es (i : Int)) hcell (oneE _) (by rw [List.length_take]; omega) (by rw [List.length_take]; omega) ty_sl_impl_Entry #[false, false] hxw3.size
    have htk : q.es.take i ++ [gi q.es (i : Int)] = q.es.take (i + 1) := by
      rw [List.take_succ_eq_append_getElem (by omega), gi_lt (by omega)]
    rw [htk] at hrun hO2
    have h4 : ∀ x ∈ [b, b1, b2, b4], x < wr3.heap.size ∧ x ∉ blkOf o1 := fun x hm => ⟨hs3 x hm, fun hx => by
      simp only [List.mem_cons, List.not_mem_nil, or_false] at hm
      rcases hm with rfl | rfl | rfl | rfl
      · exact hd _ hx (by simp)
      · exact hd _ hx (by simp)
      · exact hd _ hx (by simp)
      · exact hb4' _ hx rfl⟩
    have hd2 : ∀ x ∈ blkOf o2, x ∉ [b, b1, b2, b4] := fun x hx hm => by
      rcases ho2 with rfl | rfl
      · exact (h4 x hm).2 hx
      · have hxe : x = wr3.heap.size := by simpa [blkOf] using hx
        have := (h4 x hm).1
        omega
    refine ⟨_, _, _, w2, hrun, fun x hm => hx2.block x (h4 x hm).1 (h4 x hm).2, ⟨by omega, by omega⟩, fun w4 hx4 _ => ⟨⟨i + 1, o2, c2, rfl, by omega, hO2.ext hx4 hd2, fun x hx hm => hd2 x hx (by simp only [List.mem_cons, List.not_mem_nil, or_false] at hm ⊢; rcases hm with h | h | h <;> simp [h]), ?_⟩, ?_⟩⟩
    · refine (hxw3.fresh hx2 fun x hx => .inl (hO3.lt x hx).1).fresh hx4 fun x hm => ?_
      simp only [List.mem_cons, List.not_mem_nil, or_false] at hm
      rcases hm with rfl | rfl | rfl | rfl
      · exact .inl hb
      · exact .inl hb1
      · exact .inl hb2
      · exact .inl (Nat.le_trans hX.size hb4)
    · simp only [cntMw, cntM, ctrAt, List.getElem?_cons_zero]
      omega
  · have hge := of_decide_eq_false hge
    have : i = q.es.length := by omega
    subst this
    rw [List.take_length] at hO ⊢
    exact fun w2 hx2 => ⟨o1, C1, rfl, hO.ext hx2 hd, hX.fresh hx2 fun x hx => .inl (hbs x hx)⟩

theorem k_spec_l4Join {base : Nat} {q : Que} {o : Option Addr} {c : Nat} {w : World} {i : Int} (hq : QueOk q) (hO : Own encE 4 ty_impl_Entry base w o c q.es) (h0 : 0 ≤ i) (hi : i < (q.es.length : Int)) :
    Calls Try.prog fn_spec_l4Join #[.agg (encQ q o c).toArray, .int .i64 i] w fun e w' => ∃ q' ok, e = .returned (.tuple #[.agg (encQ q' o c).toArray, .bool ok]) ∧ ActR (joinQ q i) q' ok ∧ Own encE 4 ty_impl_Entry base w' o c q'.es ∧ ExtX (blkOf o) w w' := by
  refine (e_spec_l4Join q.floor q.cur q.ran o q.es.length c i (R := fun v w' => ∃ q' ok, v = .tuple #[.agg (encQ q' o c).toArray, .bool ok] ∧ ActR (joinQ q i) q' ok ∧ Own encE 4 ty_impl_Entry base w' o c q'.es ∧ ExtX (blkOf o) w w') ?_).mono fun e w' ⟨v, he, q', ok, hv, h1⟩ => ⟨q', ok, by rw [he, hv], h1⟩
  have he := hq.es i h0 hi
  have f1 := hq.f1
  have f2 := hq.f2
  have v1 := he.v1
  have v2 := he.v2
  have hr : RdE [] w o q.es := hO.rd elt_Entry.len (by simp)
  have lc := lagCut_range ((gi q.es i).v - q.floor) (gi q.es i).w
  have lm := lagMost_range (gi q.es i).w
  intro b hb b1 hb1
  refine ⟨hr.ix encE_c h0 hi, _, _, _, _, hr i h0 hi, fun b2 _ => ⟨fun g wr hx => ⟨q, false, rfl, .inr ⟨rfl, by unfold joinQ; rw [if_pos g]⟩, hO.ext0 hx, hx.of_nil⟩, fun g => ⟨⟨by omega, by omega⟩, _, k_spec_LagCut, ⟨by omega, by omega⟩, fun g2 wr hx => ?_, fun g2 => ⟨hr.ix encE_c h0 hi, hO.wr elt_Entry.len (by simp) h0 hi (j := 0) (by decide), ?_⟩⟩⟩⟩
  · exact ⟨q, false, rfl, .inr ⟨rfl, by unfold joinQ; rw [if_neg (by rw [g]; decide), if_pos (of_decide_eq_true g2)]⟩, hO.ext0 hx, hx.of_nil⟩
  · refine ⟨_, _, _, _, _, _, k_spec_l4End (q := q), fun wr hx => ⟨endQ { q with es := q.es.set i.toNat ⟨true, q.floor + lagCut ((gi q.es i).v - q.floor) (gi q.es i).w, (gi q.es i).w, (gi q.es i).sum⟩ }, true, ?_, .inl ⟨rfl, ?_⟩, (own_set hO h0 hi _).ext0 hx, (hO.stoX _ _).trans hx.of_nil⟩⟩
    · simp [encQ, endQ]
    · unfold joinQ; rw [if_neg (by rw [g]; decide), if_neg (of_decide_eq_false g2)]
theorem k_spec_l4Run {base : Nat} {q : Que} {o : Option Addr} {c : Nat} {w : World} {n : Int} (hq : QueOk q) (hO : Own encE 4 ty_impl_Entry base w o c q.es) :
    Calls Try.prog fn_spec_l4Run #[.agg (encQ q o c).toArray, .int .i64 n] w fun e w' => ∃ q' ok, e = .returned (.tuple #[.agg (encQ q' o c).toArray, .bool ok]) ∧ ActR (runQ q n) q' ok ∧ Own encE 4 ty_impl_Entry base w' o c q'.es ∧ ExtX (blkOf o) w w' := by
  refine (e_spec_l4Run q.floor q.cur q.ran o q.es.length c n (R := fun v w' => ∃ q' ok, v = .tuple #[.agg (encQ q' o c).toArray, .bool ok] ∧ ActR (runQ q n) q' ok ∧ Own encE 4 ty_impl_Entry base w' o c q'.es ∧ ExtX (blkOf o) w w') ?_).mono fun e w' ⟨v, he, q', ok, hv, h1⟩ => ⟨q', ok, by rw [he, hv], h1⟩
  have hr : RdE [] w o q.es := hO.rd elt_Entry.len (by simp)
  have hl : q.es.length ≤ maxLen := by have := hq.l2; have := maxLen_big; omega
  have hP := k_spec_QueuePick (q := q) (o := o) (c := c) hr hl
  rw [if_pos (queOk_iff.2 hq)] at hP
  have hlt := nextQ_lt hq
  intro b hb b1 hb1
  refine ⟨_, hP, _, fun _ => k_spec_l1In, fun g wr hx => ?_, fun g => ?_⟩
  · refine ⟨q, false, rfl, .inr ⟨rfl, ?_⟩, hO.ext0 hx, hx.of_nil⟩
    unfold runQ
    rw [if_pos (by simpa using g)]
  · simp only [Bool.or_eq_false_iff, decide_eq_false_iff_not, Bool.not_eq_false'] at g
    obtain ⟨g1, g2⟩ := g
    have g3 := inB_t.1 g2
    have h0 : 0 ≤ nextQ q := by omega
    have he := hq.es _ h0 hlt
    have v1 := he.v1
    have v2 := he.v2
    have s1 := he.s1
    have s2 := he.s2
    have vr := vstep_range n (gi q.es (nextQ q)).w
    have b1' := hq.busy
    have b2' := hq.idle
    have hn : runQ q n = if tOk (runE (gi q.es (nextQ q)) n).v = false ∨ tOk (runE (gi q.es (nextQ q)) n).sum = false then none else some ⟨q.floor, nextQ q, (if nextQ q ≠ q.cur ∨ q.ran ≥ 50 then 0 else q.ran) + n, q.es.set (nextQ q).toNat (runE (gi q.es (nextQ q)) n)⟩ := by
      unfold runQ
      rw [if_neg (by rw [g2]; simp; omega)]
    refine ⟨hr.ix encE_c h0 hlt, _, _, _, _, hr _ h0 hlt, fun b2 _ => ⟨_, k_spec_VirtualStep, ⟨by omega, by omega⟩, ⟨by omega, by omega⟩, _, k_spec_l4Time, _, fun _ => k_spec_l4Time, fun g4 wr hx => ⟨q, false, rfl, .inr ⟨rfl, ?_⟩, hO.ext0 hx, hx.of_nil⟩, fun g4 => ?_⟩⟩
    · rw [hn, if_pos (by simpa [runE] using g4)]
    · have g5 : ¬ (tOk (runE (gi q.es (nextQ q)) n).v = false ∨ tOk (runE (gi q.es (nextQ q)) n).sum = false) := by
        simpa [runE] using g4
      refine ⟨fun g6 => ⟨⟨by omega, by omega⟩, hr.ix encE_c h0 hlt, hO.wr elt_Entry.len (by simp) h0 hlt (j := 0) (by decide), fun wr hx => ⟨⟨q.floor, nextQ q, (if nextQ q ≠ q.cur ∨ q.ran ≥ 50 then 0 else q.ran) + n, q.es.set (nextQ q).toNat (runE (gi q.es (nextQ q)) n)⟩, true, ?_, .inl ⟨rfl, by rw [hn, if_neg g5]⟩, (own_set hO h0 hlt (runE (gi q.es (nextQ q)) n)).ext0 hx, (hO.stoX _ _).trans hx.of_nil⟩⟩,
        fun g6 => ⟨⟨?_, ?_⟩, hr.ix encE_c h0 hlt, hO.wr elt_Entry.len (by simp) h0 hlt (j := 0) (by decide), fun wr hx => ⟨⟨q.floor, nextQ q, (if nextQ q ≠ q.cur ∨ q.ran ≥ 50 then 0 else q.ran) + n, q.es.set (nextQ q).toNat (runE (gi q.es (nextQ q)) n)⟩, true, ?_, .inl ⟨rfl, by rw [hn, if_neg g5]⟩, (own_set hO h0 hlt (runE (gi q.es (nextQ q)) n)).ext0 hx, (hO.stoX _ _).trans hx.of_nil⟩⟩⟩
      · rw [if_pos (by simpa using g6)]
        simp [encQ]
      · rcases Int.lt_or_le q.cur 0 with hc | hc
        · have := b2' hc; omega
        · have := b1' hc; omega
      · rcases Int.lt_or_le q.cur 0 with hc | hc
        · have := b2' hc; omega
        · have := b1' hc; omega
      · rw [if_neg (by simpa using g6)]
        simp [encQ]
theorem k_spec_l4Weigh {base : Nat} {q : Que} {o : Option Addr} {c : Nat} {w : World} {i n : Int} (hq : QueOk q) (hO : Own encE 4 ty_impl_Entry base w o c q.es) (h0 : 0 ≤ i) (hi : i < (q.es.length : Int)) :
    Calls Try.prog fn_spec_l4Weigh #[.agg (encQ q o c).toArray, .int .i64 i, .int .i64 n] w fun e w' => ∃ q' ok, e = .returned (.tuple #[.agg (encQ q' o c).toArray, .bool ok]) ∧ ActR (weighQ q i n) q' ok ∧ Own encE 4 ty_impl_Entry base w' o c q'.es ∧ ExtX (blkOf o) w w' := by
  refine (e_spec_l4Weigh q.floor q.cur q.ran o q.es.length c i n (R := fun v w' => ∃ q' ok, v = .tuple #[.agg (encQ q' o c).toArray, .bool ok] ∧ ActR (weighQ q i n) q' ok ∧ Own encE 4 ty_impl_Entry base w' o c q'.es ∧ ExtX (blkOf o) w w') ?_).mono fun e w' ⟨v, he, q', ok, hv, h1⟩ => ⟨q', ok, by rw [he, hv], h1⟩
  have he := hq.es i h0 hi
  have f1 := hq.f1
  have f2 := hq.f2
  have v1 := he.v1
  have v2 := he.v2
  have hr : RdE [] w o q.es := hO.rd elt_Entry.len (by simp)
  have lc := lagCut_range ((gi q.es i).v - q.floor) n
  have lm := lagMost_range n
  intro b hb b1 hb1
  refine ⟨_, k_spec_l1Weight, fun g wr hx => ⟨q, false, rfl, .inr ⟨rfl, by unfold weighQ; rw [if_pos (by simpa using g)]⟩, hO.ext0 hx, hx.of_nil⟩, fun g => ?_⟩
  have hn : weighQ q i n = if weighV q i n > 100000000000000000 then none
      else some (if q.cur = i then endQ { q with es := q.es.set i.toNat ⟨(gi q.es i).on, weighV q i n, n, (gi q.es i).sum⟩ } else { q with es := q.es.set i.toNat ⟨(gi q.es i).on, weighV q i n, n, (gi q.es i).sum⟩ }) := by
    unfold weighQ; rw [if_neg (by simpa using g)]
  refine ⟨hr.ix encE_c h0 hi, _, _, _, _, hr i h0 hi, fun b2 _ => ⟨fun g1 => ?_, fun g1 => ?_⟩⟩
  · have hv : weighV q i n = q.floor + lagCut ((gi q.es i).v - q.floor) n := by unfold weighV; rw [if_pos g1]
    refine ⟨⟨by omega, by omega⟩, _, k_spec_LagCut, ⟨by omega, by omega⟩, fun g2 wr hx => ⟨q, false, rfl, .inr ⟨rfl, by rw [hn, hv, if_pos (of_decide_eq_true g2)]⟩, hO.ext0 hx, hx.of_nil⟩,
      fun g2 => ⟨hr.ix encE_c h0 hi, hO.wr elt_Entry.len (by simp) h0 hi (j := 0) (by decide), fun g3 => ⟨_, _, _, _, _, _, k_spec_l4End (q := q), fun wr hx => ⟨_, true, ?_, .inl ⟨rfl, by rw [hn, if_neg (by rw [hv]; exact of_decide_eq_false g2), if_pos (by simpa using g3)]⟩, ?_, (hO.stoX _ _).trans hx.of_nil⟩⟩,
        fun g3 wr hx => ⟨_, true, ?_, .inl ⟨rfl, by rw [hn, if_neg (by rw [hv]; exact of_decide_eq_false g2), if_neg (by simpa using g3)]⟩, ?_, (hO.stoX _ _).trans hx.of_nil⟩⟩⟩
    · simp [encQ, endQ]
    · rw [hv]; exact (own_set hO h0 hi _).ext0 hx
    · simp [encQ]
    · rw [hv]; exact (own_set hO h0 hi _).ext0 hx
  · have hv : weighV q i n = (gi q.es i).v := by unfold weighV; rw [if_neg (by rw [g1]; decide)]
    refine ⟨fun g2 wr hx => ⟨q, false, rfl, .inr ⟨rfl, by rw [hn, hv, if_pos (of_decide_eq_true g2)]⟩, hO.ext0 hx, hx.of_nil⟩,
      fun g2 => ⟨hr.ix encE_c h0 hi, hO.wr elt_Entry.len (by simp) h0 hi (j := 0) (by decide), fun g3 => ⟨_, _, _, _, _, _, k_spec_l4End (q := q), fun wr hx => ⟨_, true, ?_, .inl ⟨rfl, by rw [hn, if_neg (by rw [hv]; exact of_decide_eq_false g2), if_pos (by simpa using g3)]⟩, ?_, (hO.stoX _ _).trans hx.of_nil⟩⟩,
        fun g3 wr hx => ⟨_, true, ?_, .inl ⟨rfl, by rw [hn, if_neg (by rw [hv]; exact of_decide_eq_false g2), if_neg (by simpa using g3)]⟩, ?_, (hO.stoX _ _).trans hx.of_nil⟩⟩⟩
    · simp [encQ, endQ]
    · rw [hv]; exact (own_set hO h0 hi _).ext0 hx
    · simp [encQ]
    · rw [hv]; exact (own_set hO h0 hi _).ext0 hx

theorem act_len {q q' : Que} {op : QOp} (h : actQ q op = some q') : q'.es.length = q.es.length := by
  unfold actQ joinQ leaveQ runQ weighQ endQ at h
  repeat' split at h
  all_goals first
    | (cases h; done)
    | (simp only [Option.some.injEq] at h
       subst h
       first | rfl | simp)
theorem own_on {base : Nat} {l : List Ent} {o : Option Addr} {c : Nat} {w : World} (h : Own encE 4 ty_impl_Entry base w o c l) {i : Int} (h0 : 0 ≤ i) (hi : i < (l.length : Int)) (x : Bool) : Own encE 4 ty_impl_Entry base (sto w o (Int.toNat i * 4 + 0) [.bool x]) o c (l.set i.toNat ⟨x, (gi l i).v, (gi l i).w, (gi l i).sum⟩) :=
  h.sto elt_Entry.len h0 hi (j := 0) (vs := [.bool x]) (x := ⟨x, (gi l i).v, (gi l i).w, (gi l i).sum⟩) rfl (by simp)
theorem riseQ_es (q : Que) : (riseQ q).es = q.es := by unfold riseQ; split <;> rfl
/-- What a function that does something with a queue gives: the queue is in memory of its own. -/
def DoR (r : Que × Bool) (w : World) (v : Value) (w' : World) : Prop := ∃ o' c', v = .tuple #[.agg (encQ r.1 o' c').toArray, .bool r.2] ∧ Own encE 4 ty_impl_Entry w.heap.size w' o' c' r.1.es ∧ ExtX [] w w'
theorem own_nil {α : Type} {enc : α → List Value} {z : Nat} {ty : TypeId} {base : Nat} {w : World} : Own enc z ty base w none 0 [] := .inl ⟨rfl, rfl, rfl⟩
theorem k_spec_QueueDo {q : Que} {op : QOp} {o : Option Addr} {c : Nat} {w : World} (h : RdE [] w o q.es) :
    Calls Try.prog fn_spec_QueueDo #[.agg (encQ q o c).toArray, .agg (encO op).toArray] w fun e w' => ∃ v, e = .returned v ∧ DoR (doQ q op) w v w' := by
  refine e_spec_QueueDo q.floor q.cur q.ran o q.es.length c op.kind op.at' op.n (R := fun v w' => DoR (doQ q op) w v w') ?_
  intro b hb b1 hb1 b2 hb2
  refine ⟨_, k_spec_QueueOk h, fun g wr hx => ⟨none, 0, ?_, ?_, hx⟩, fun g wr1 hx1 hs1 => ?_⟩
  · have : doQ q op = (zeroQ, false) := by unfold doQ; rw [if_neg (by simpa using g)]
    rw [this]; rfl
  · have : doQ q op = (zeroQ, false) := by unfold doQ; rw [if_neg (by simpa using g)]
    rw [this]; exact own_nil
  have hqk : queOk q = true := by simpa using g
  have hq := queOk_iff.1 hqk
  have hl20 := hq.l2
  have hdo : doQ q op = match actQ q op with
    | some q1 => (riseQ q1, true)
    | none => (q, false) := by unfold doQ; rw [if_pos hqk]
  refine (k_spec_l4Own (h.ext hx1) (by omega)).mono fun e wv ⟨o1, c1, he1, hO1, hy1⟩ => ⟨_, _, _, _, _, _, he1, kept_of hy1 hs1, fun b3 hb3 wr2 hx2 hs2 => ?_⟩
  have hbs : ∀ x ∈ [b, b1, b2, b3], w.heap.size ≤ x := fun x hm => by
    simp only [List.mem_cons, List.not_mem_nil, or_false] at hm
    have := (hx1.trans hy1).size
    rcases hm with rfl | rfl | rfl | rfl
    · exact hb
    · exact hb1
    · exact hb2
    · omega
  have hbs3 : ∀ x ∈ [b, b1, b2], w.heap.size ≤ x := fun x hm => hbs x (by simp only [List.mem_cons, List.not_mem_nil, or_false] at hm ⊢; rcases hm with h | h | h <;> simp [h])
  have hw2 : ExtX [] w wr2 := (hx1.trans hy1).fresh hx2 fun x hx => .inl (hbs3 x hx)
  have d1 : ∀ x ∈ blkOf o1, x ∉ [b, b1, b2, b3] := fun x hx hm => by
    have hlt := hO1.lt x hx
    simp only [List.mem_cons, List.not_mem_nil, or_false] at hm
    rcases hm with rfl | rfl | rfl | rfl
    · have := hs1 x (by simp); omega
    · have := hs1 x (by simp); omega
    · have := hs1 x (by simp); omega
    · omega
  have d1' : ∀ x ∈ blkOf o1, x ∉ [b, b1, b2] := fun x hx hm => d1 x hx (by simp only [List.mem_cons, List.not_mem_nil, or_false] at hm ⊢; rcases hm with h | h | h <;> simp [h])
  have hO1' := hO1.ext hx2 d1'
  refine (k_spec_l4Own (h.ext hw2) (by omega)).mono fun e wv1 ⟨o2, c2, he2, hO2, hy2⟩ => ⟨_, _, _, _, _, _, he2, kept_of hy2 hs2, ⟨by omega, by omega⟩, _, k_spec_l1In, ?_⟩
  have d2 : ∀ x ∈ blkOf o2, x ∉ [b, b1, b2, b3] := fun x hx hm => by
    have := hO2.lt x hx
    have := hs2 x hm
    omega
  have d12 : ∀ x ∈ blkOf o1, x ∉ blkOf o2 := fun x hx hm => by
    have := hO2.lt x hm
    have := hO1'.lt x hx
    omega
  have hw3 : ExtX [] w wv1 := hw2.trans hy2
  have hA1 : Own encE 4 ty_impl_Entry w.heap.size wv1 o1 c1 q.es := (hO1'.ext0 hy2).mono hx1.size
  have hA2 : Own encE 4 ty_impl_Entry w.heap.size wv1 o2 c2 q.es := hO2.mono hw2.size
  have hat : inB op.at' 0 ((q.es.length : Int) - 1) = atQ q op.at' := rfl
  refine ⟨fun vs bs wr => ∃ q' ok, vs = [.bool ok, .int .i64 q'.floor, .int .i64 q'.cur, .int .i64 q'.ran, .slice o2 q'.es.length c2] ∧ bs = [] ∧ ActR (actQ q op) q' ok ∧ Own encE 4 ty_impl_Entry w.heap.size wr o2 c2 q'.es ∧ Own encE 4 ty_impl_Entry w.heap.size wr o1 c1 q.es ∧ ExtX [] w wr, ?_, ?_⟩
  · have ent : ∀ {wA wr : World} {q' : Que} {ok : Bool}, ActR (actQ q op) q' ok → Own encE 4 ty_impl_Entry w.heap.size wA o2 c2 q'.es → Own encE 4 ty_impl_Entry w.heap.size wA o1 c1 q.es → ExtX [] w wA → ExtX [b, b1, b2, b3] wA wr →
        ∃ q' ok', [Value.bool ok, .int .i64 q'.floor, .int .i64 q'.cur, .int .i64 q'.ran, .slice o2 q'.es.length c2] = [Value.bool ok', .int .i64 q'.floor, .int .i64 q'.cur, .int .i64 q'.ran, .slice o2 q'.es.length c2] ∧ ([] : List Nat) = [] ∧ ActR (actQ q op) q' ok' ∧ Own encE 4 ty_impl_Entry w.heap.size wr o2 c2 q'.es ∧ Own encE 4 ty_impl_Entry w.heap.size wr o1 c1 q.es ∧ ExtX [] w wr :=
      fun {wA wr q' ok} a1 a2 a3 a4 a5 => ⟨q', ok, rfl, rfl, a1, a2.ext a5 d2, a3.ext a5 d1, a4.fresh a5 fun x hx => .inl (hbs x hx)⟩
    have no : ∀ {wr : World}, actQ q op = none → ExtX [b, b1, b2, b3] wv1 wr → _ := fun {wr} ha hx => (⟨q, false, rfl, rfl, .inr ⟨rfl, ha⟩, hA2.ext hx d2, hA1.ext hx d1, hw3.fresh hx fun x hx => .inl (hbs x hx)⟩ :
      ∃ q' ok', [Value.bool false, .int .i64 q.floor, .int .i64 q.cur, .int .i64 q.ran, .slice o2 q.es.length c2] = [Value.bool ok', .int .i64 q'.floor, .int .i64 q'.cur, .int .i64 q'.ran, .slice o2 q'.es.length c2] ∧ ([] : List Nat) = [] ∧ ActR (actQ q op) q' ok' ∧ Own encE 4 ty_impl_Entry w.heap.size wr o2 c2 q'.es ∧ Own encE 4 ty_impl_Entry w.heap.size wr o1 c1 q.es ∧ ExtX [] w wr)
    have kp : ∀ {wr w' : World}, ExtX (blkOf o2) wr w' → (∀ bq ∈ [b, b1, b2, b3], bq < wr.heap.size) → Kept [b, b1, b2, b3] wr w' := fun {wr w'} hx hs x hm => hx.block x (hs x hm) fun hm' => d2 x hm' hm
    have o1x : ∀ {wr w' : World}, ExtX (blkOf o2) wr w' → Own encE 4 ty_impl_Entry w.heap.size wr o1 c1 q.es → Own encE 4 ty_impl_Entry w.heap.size w' o1 c1 q.es := fun {wr w'} hx hO => hO.ext hx d12
    have wx : ∀ {wr w' : World}, ExtX [] w wr → ExtX (blkOf o2) wr w' → ExtX [] w w' := fun {wr w'} h1 h2 => h1.fresh h2 fun x hx => .inl (hA2.lt x hx).1
    have wb : ∀ {wr : World}, ExtX [b, b1, b2, b3] wv1 wr → ExtX [] w wr := fun {wr} hx => hw3.fresh hx fun x hx => .inl (hbs x hx)
    refine ⟨fun k1 => ⟨fun ha wr hx hs => ?_, fun ha wr hx hs => no ?_ hx⟩, fun k1 => ⟨fun k2 => ⟨fun ha => ?_, (gi q.es op.at').on, fun ha => ?_, fun ha => ?_, fun ha wr hx hs => no ?_ hx⟩, fun k2 => ⟨fun k3 wr hx hs => ?_, fun k3 => ⟨fun k4 => ⟨fun ha wr hx hs => ?_, fun ha wr hx hs => no ?_ hx⟩, fun k4 => ⟨fun k5 => ?_, fun k5 wr hx hs => no ?_ hx⟩⟩⟩⟩⟩
    · obtain ⟨a0, a1⟩ := atQ_t.1 ha
      refine (k_spec_l4Join hq (hA2.ext hx d2) a0 a1).mono fun e w' ⟨q', ok, he, hr, hO, hy⟩ => ⟨_, _, _, _, _, _, _, he, kp hy hs, fun wr4 hx4 _ => ⟨q', ok, rfl, rfl, ?_, hO.ext hx4 d2, (o1x hy (hA1.ext hx d1)).ext hx4 d1, (wx (wb hx) hy).fresh hx4 fun x hx => .inl (hbs x hx)⟩⟩
      have : actQ q op = joinQ q op.at' := by unfold actQ; rw [if_pos (by simpa using k1), if_pos (show atQ q op.at' = true from ha)]
      rw [this]; exact hr
    · unfold actQ; rw [if_pos (by simpa using k1), if_neg (by rw [← hat, ha]; decide)]
    · obtain ⟨a0, a1⟩ := atQ_t.1 ha
      exact hA2.ix a0 a1
    · obtain ⟨a0, a1⟩ := atQ_t.1 ha
      exact ((hA2.rd elt_Entry.len d2) _ a0 a1).1
    · simp only [Bool.and_eq_true] at ha
      obtain ⟨a0, a1⟩ := atQ_t.1 ha.1
      have hact : actQ q op = some (if q.cur = op.at' then endQ { q with es := q.es.set op.at'.toNat ⟨false, (gi q.es op.at').v, (gi q.es op.at').w, (gi q.es op.at').sum⟩ } else { q with es := q.es.set op.at'.toNat ⟨false, (gi q.es op.at').v, (gi q.es op.at').w, (gi q.es op.at').sum⟩ }) := by
        unfold actQ
        rw [if_neg (by simpa using k1), if_pos (by simpa using k2), if_pos (show atQ q op.at' = true from ha.1)]
        unfold leaveQ
        rw [if_pos ha.2]
      refine ⟨hA2.ix a0 a1, hA2.wr elt_Entry.len d2 a0 a1 (j := 0) (by decide), fun k5 => ⟨_, _, _, _, _, _, k_spec_l4End (q := q), fun wr hx hs => ⟨endQ { q with es := q.es.set op.at'.toNat ⟨false, (gi q.es op.at').v, (gi q.es op.at').w, (gi q.es op.at').sum⟩ }, true, ?_, rfl, .inl ⟨rfl, ?_⟩, (own_on hA2 a0 a1 false).ext hx d2, (hA1.ext (hA2.stoX _ _) d12).ext hx d1, (wx hw3 (hA2.stoX _ _)).fresh hx fun x hx => .inl (hbs x hx)⟩⟩,
        fun k5 wr hx hs => ⟨{ q with es := q.es.set op.at'.toNat ⟨false, (gi q.es op.at').v, (gi q.es op.at').w, (gi q.es op.at').sum⟩ }, true, ?_, rfl, .inl ⟨rfl, ?_⟩, (own_on hA2 a0 a1 false).ext hx d2, (hA1.ext (hA2.stoX _ _) d12).ext hx d1, (wx hw3 (hA2.stoX _ _)).fresh hx fun x hx => .inl (hbs x hx)⟩⟩
      · simp [endQ]
      · rw [hact, if_pos (by simpa using k5)]
      · simp
      · rw [hact, if_neg (by simpa using k5)]
    · unfold actQ
      rw [if_neg (by simpa using k1), if_pos (by simpa using k2)]
      cases hai : atQ q op.at' with
      | false => rfl
      | true =>
        have hai' : inB op.at' 0 ((q.es.length : Int) - 1) = true := hai
        rw [hai', Bool.true_and] at ha
        rw [if_pos rfl]
        unfold leaveQ
        rw [if_neg (by rw [ha]; decide)]
    · refine (k_spec_l4Run hq (hA2.ext hx d2)).mono fun e w' ⟨q', ok, he, hr, hO, hy⟩ => ⟨_, _, _, _, _, _, _, he, kp hy hs, fun wr4 hx4 _ => ⟨q', ok, rfl, rfl, ?_, hO.ext hx4 d2, (o1x hy (hA1.ext hx d1)).ext hx4 d1, (wx (wb hx) hy).fresh hx4 fun x hx => .inl (hbs x hx)⟩⟩
      have : actQ q op = runQ q op.n := by unfold actQ; rw [if_neg (by simpa using k1), if_neg (by simpa using k2), if_pos (by simpa using k3)]
      rw [this]; exact hr
    · obtain ⟨a0, a1⟩ := atQ_t.1 ha
      refine (k_spec_l4Weigh hq (hA2.ext hx d2) a0 a1).mono fun e w' ⟨q', ok, he, hr, hO, hy⟩ => ⟨_, _, _, _, _, _, _, he, kp hy hs, fun wr4 hx4 _ => ⟨q', ok, rfl, rfl, ?_, hO.ext hx4 d2, (o1x hy (hA1.ext hx d1)).ext hx4 d1, (wx (wb hx) hy).fresh hx4 fun x hx => .inl (hbs x hx)⟩⟩
      have : actQ q op = weighQ q op.at' op.n := by unfold actQ; rw [if_neg (by simpa using k1), if_neg (by simpa using k2), if_neg (by simpa using k3), if_pos (by simpa using k4), if_pos (show atQ q op.at' = true from ha)]
      rw [this]; exact hr
    · unfold actQ; rw [if_neg (by simpa using k1), if_neg (by simpa using k2), if_neg (by simpa using k3), if_pos (by simpa using k4), if_neg (by rw [← hat, ha]; decide)]
    · refine ⟨_, _, _, _, _, _, k_spec_l4End (q := q), fun wr hx hs => ⟨endQ q, true, rfl, rfl, .inl ⟨rfl, ?_⟩, hA2.ext hx d2, hA1.ext hx d1, wb hx⟩⟩
      unfold actQ; rw [if_neg (by simpa using k1), if_neg (by simpa using k2), if_neg (by simpa using k3), if_neg (by simpa using k4), if_pos (by simpa using k5)]
    · unfold actQ; rw [if_neg (by simpa using k1), if_neg (by simpa using k2), if_neg (by simpa using k3), if_neg (by simpa using k4), if_neg (by simpa using k5)]
  · rintro ok f1 c1' r1 o3 l3 c3 w5 hs5 ⟨q', ok', he, -, hr, hO, hOo, hX⟩
    simp only [List.cons.injEq, Value.int.injEq, Value.bool.injEq, Value.slice.injEq, true_and, and_true] at he
    obtain ⟨rfl, rfl, rfl, rfl, rfl, rfl, rfl⟩ := he
    refine ⟨fun k wr hx => ⟨o1, c1, ?_, ?_, hX.fresh hx fun x hx => .inl (hbs x hx)⟩, fun k => ?_⟩
    · rcases hr with ⟨h1, _⟩ | ⟨_, h2⟩
      · rw [h1] at k; cases k
      · rw [hdo, h2]; rfl
    · rcases hr with ⟨h1, _⟩ | ⟨_, h2⟩
      · rw [h1] at k; cases k
      · rw [hdo, h2]; exact hOo.ext hx d1
    · rcases hr with ⟨h1, h2⟩ | ⟨h1, _⟩
      · have hl' : q'.es.length ≤ maxLen := by
          rw [act_len h2]
          have := maxLen_big
          omega
        refine ⟨_, _, _, _, _, _, k_spec_l4Rise (q := q') (hO.rd elt_Entry.len d2) hl', fun wr hx => ⟨o3, c3, ?_, ?_, hX.fresh hx fun x hx => .inl (hbs x hx)⟩⟩
        · rw [hdo, h2]; rfl
        · rw [hdo, h2]
          show Own _ _ _ _ _ _ _ (riseQ q').es
          rw [riseQ_es]
          exact hO.ext hx d2
      · rw [h1] at k; cases k
end Go.Proofs.Ythihcdljmddgfaa
