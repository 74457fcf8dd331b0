/- Queues: the mirror functions; what a queue is; what is done with it; the reference's reading functions. -/
import Derived.Test.YthihcdljmddgfaaMirQ
import Derived.Test.YthihcdljmddgfaaScn
import Derived.Test.YthihcdljmddgfaaKb
namespace Go.Proofs.Ythihcdljmddgfaa
open Go.RowKit
set_option linter.unusedVariables false
set_option maxRecDepth 10000

/-! ### Mirror functions -/
theorem szN_neg {n : Nat} {l : Int} (h : szN n l < 0) : szN n l = -1 := by
  unfold szN at *
  split
  · rfl
  · rename_i h1; rw [if_neg h1] at h; omega
theorem k_szQueue {q : Que} {o : Option Addr} {c : Nat} {left : Int} {w : World} {bs : List Nat} (hn : q.es.length ≤ maxLen) (hl : 0 ≤ left) (hl2 : left ≤ 1048576) :
    PureX bs Try.prog fn_laws_szQueue #[.agg (encQ q o c).toArray, .int .i64 left] w (.int .i64 (szN q.es.length left)) :=
  p_laws_szQueue q.floor q.cur q.ran o q.es.length c left fun wr hx => by
    intro b hb
    exact ⟨_, k_szEntryS hn hl hl2, fun h => by rw [szN_neg (of_decide_eq_true h)], fun _ => rfl⟩
theorem k_eqQueue {a b : Que} {aO bO : Option Addr} {aC bC : Nat} {w : World} {bs : List Nat} (ha : RdE bs w aO a.es) (hb : RdE bs w bO b.es) (ha9 : a.es.length ≤ maxLen) :
    PureX bs Try.prog fn_laws_eqQueue #[.agg (encQ a aO aC).toArray, .agg (encQ b bO bC).toArray] w (.bool (decide (a = b))) :=
  p_laws_eqQueue a.floor a.cur a.ran aO a.es.length aC b.floor b.cur b.ran bO b.es.length bC fun wr hx => by
    have ha := (ha.ext hx).less (cs := []) (by simp)
    have hb := (hb.ext hx).less (cs := []) (by simp)
    cases a; cases b
    intro _ _ _ _
    refine ⟨fun q => ?_, fun q1 => ⟨fun q => ?_, fun q2 => ⟨fun q => ?_, fun q3 => ⟨_, k_eqEntryS ha hb ha9, fun q => ?_, fun q4 => ?_⟩⟩⟩⟩ <;> (congr 1; simp_all)
theorem k_toQueue {q : Que} {o : Option Addr} {c : Nat} {w : World} (h : RdE [] w o q.es) (hl : q.es.length ≤ 1048576) :
    Calls Try.prog fn_laws_toQueue #[.agg (encQ q o c).toArray] w fun e w' => ∃ o' c', e = .returned (.agg (encQ q o' c').toArray) ∧ Own encE 4 ty_impl_Entry w.heap.size w' o' c' q.es ∧ ExtX [] w w' := by
  refine (e_laws_toQueue q.floor q.cur q.ran o q.es.length c (R := fun v w' => ∃ o' c', v = .agg (encQ q o' c').toArray ∧ Own encE 4 ty_impl_Entry w.heap.size w' o' c' q.es ∧ ExtX [] w w') ?_).mono fun e w' ⟨v, he, o', c', hv, h1, h2⟩ => ⟨o', c', by rw [he, hv], h1, h2⟩
  intro b0 hb0 b1 hb1 b2 hb2 wr hx hs
  refine (k_toEntryS (h.ext hx) hl).mono fun e w1 ⟨o', c', he, hO, hx1⟩ => ⟨_, _, _, he, kept_of hx1 hs, fun wr1 hy1 => ⟨o', c', rfl, ?_, ?_⟩⟩
  · have hw : ∀ x ∈ blkOf o', x ∉ [b0, b1, b2] := fun x hm hm' => by
      have := (hO.lt x hm).1
      have := hs x hm'
      omega
    exact (hO.ext hy1 hw).mono hx.size
  · exact (hx.trans hx1).fresh hy1 fun x hm => by
      simp only [List.mem_cons, List.not_mem_nil, or_false] at hm
      rcases hm with rfl | rfl | rfl <;> exact .inl (by assumption)

/-! ### Marks -/
def mkE (k : Int) : Ent := ⟨Int.tmod k 3 == 0, k + 1, k + 1 + 1, k + 1 + 1 + 1⟩
def markE (n : Nat) (k : Int) : List Ent := (List.range n).map fun (i : Nat) => mkE (k + 4 * (i : Int))
theorem markE_len (n : Nat) (k : Int) : (markE n k).length = n := by simp [markE]
theorem markE_gi {n : Nat} {k : Int} {i : Nat} (h : i < n) : gi (markE n k) (i : Int) = mkE (k + 4 * (i : Int)) := by
  rw [gi_lt (by rw [markE_len]; exact h)]; simp [markE]
theorem k_markEntryS {base : Nat} {l : List Ent} {o : Option Addr} {c : Nat} {k : Int} {w : World} (h : Own encE 4 ty_impl_Entry base w o c l) (hl : l.length ≤ 1048576) (hk : 0 ≤ k) (hk2 : k ≤ 100000000) :
    Calls Try.prog fn_laws_markEntryS #[.slice o l.length c, .int .i64 k] w fun e w' => e = .returned (.int .i64 (k + 4 * (l.length : Int))) ∧ Own encE 4 ty_impl_Entry base w' o c (markE l.length k) ∧ ExtX (blkOf o) w w' := by
  refine (e_laws_markEntryS o l.length c k (R := fun v w' => v = .int .i64 (k + 4 * (l.length : Int)) ∧ Own encE 4 ty_impl_Entry base w' o c (markE l.length k) ∧ ExtX (blkOf o) w w') ?_).mono fun e w' ⟨v, he, hv, h1⟩ => ⟨by rw [he, hv], h1⟩
  refine ⟨fun vs w1 => ∃ (i : Nat), vs = [.int .i64 (k + 4 * (i : Int)), .int .i64 (i : Int)] ∧ i ≤ l.length ∧ Own encE 4 ty_impl_Entry base w1 o c ((markE l.length k).take i ++ l.drop i) ∧ ExtX (blkOf o) w w1, cntMw l.length 1, fun wr hx _ => ⟨0, by simp, Nat.zero_le _, by simpa using h.ext0 hx, hx.of_nil⟩, ?_⟩
  rintro k1 i1 w1 _ ⟨i, he, hi, hO, hX⟩
  simp only [List.cons.injEq, Value.int.injEq, true_and, and_true] at he
  obtain ⟨rfl, rfl⟩ := he
  have hlen : ((markE l.length k).take i ++ l.drop i).length = l.length := by simp [markE_len]; omega
  refine ⟨fun hlt => ?_, fun hge => ?_⟩
  · have hlt := of_decide_eq_true hlt
    have hi' : (i : Int) < (((markE l.length k).take i ++ l.drop i).length : Int) := by rw [hlen]; exact hlt
    have hix : Ix o l.length (i : Int) := by have := hO.ix (i := (i : Int)) (by omega) hi'; rwa [hlen] at this
    have hset : ∀ x, (((markE l.length k).take i ++ l.drop i).set i x).length = l.length := fun x => by rw [List.length_set]; exact hlen
    have hgs : ∀ x, gi (((markE l.length k).take i ++ l.drop i).set i x) (i : Int) = x := fun x => by
      have := gi_set ((markE l.length k).take i ++ l.drop i) x (i := (i : Int)) (by omega) hi' (j := (i : Int)) (by omega)
      rw [if_pos rfl, Int.toNat_natCast] at this
      exact this
    have hss : ∀ x y, (((markE l.length k).take i ++ l.drop i).set i x).set i y = ((markE l.length k).take i ++ l.drop i).set i y := fun x y => by rw [List.set_set]
    generalize hL : (markE l.length k).take i ++ l.drop i = L at hO hlen hi' hset hgs hss
    have e0 := hO.sto elt_Entry.len (i := (i : Int)) (by omega) hi' (j := 0) (vs := [.bool (Int.tmod (k + 4 * (i : Int)) 3 == 0)]) (x := ⟨Int.tmod (k + 4 * (i : Int)) 3 == 0, (gi L i).v, (gi L i).w, (gi L i).sum⟩) rfl (by simp)
    rw [Int.toNat_natCast] at e0
    have e1 := e0.sto elt_Entry.len (i := (i : Int)) (by omega) (by rw [hset]; exact hlt) (j := 1) (vs := [.int .i64 (k + 4 * (i : Int) + 1)]) (x := ⟨Int.tmod (k + 4 * (i : Int)) 3 == 0, k + 4 * (i : Int) + 1, (gi L i).w, (gi L i).sum⟩) (by rw [hgs]; rfl) (by simp)
    rw [Int.toNat_natCast, hss] at e1
    have e2 := e1.sto elt_Entry.len (i := (i : Int)) (by omega) (by rw [hset]; exact hlt) (j := 2) (vs := [.int .i64 (k + 4 * (i : Int) + 1 + 1)]) (x := ⟨Int.tmod (k + 4 * (i : Int)) 3 == 0, k + 4 * (i : Int) + 1, k + 4 * (i : Int) + 1 + 1, (gi L i).sum⟩) (by rw [hgs]; rfl) (by simp)
    rw [Int.toNat_natCast, hss] at e2
    have e3 := e2.sto elt_Entry.len (i := (i : Int)) (by omega) (by rw [hset]; exact hlt) (j := 3) (vs := [.int .i64 (k + 4 * (i : Int) + 1 + 1 + 1)]) (x := mkE (k + 4 * (i : Int))) (by rw [hgs]; rfl) (by simp)
    rw [Int.toNat_natCast, hss] at e3
    refine ⟨by decide, hix, hO.wr elt_Entry.len (by simp) (by omega) hi' (j := 0) (by decide), ⟨by omega, by omega⟩, hix, e0.wr elt_Entry.len (by simp) (by omega) (by rw [hset]; exact hlt) (j := 1) (by decide), ⟨by omega, by omega⟩, hix, e1.wr elt_Entry.len (by simp) (by omega) (by rw [hset]; exact hlt) (j := 2) (by decide), ⟨by omega, by omega⟩, hix, e2.wr elt_Entry.len (by simp) (by omega) (by rw [hset]; exact hlt) (j := 3) (by decide), ⟨by omega, by omega⟩, ⟨by omega, by omega⟩, fun w2 hx2 _ => ⟨⟨i + 1, by congr 2; omega, by omega, ?_, ?_⟩, ?_⟩⟩
    · have : L.set i (mkE (k + 4 * (i : Int))) = (markE l.length k).take (i + 1) ++ l.drop (i + 1) := by
        have hi2 : i < (markE l.length k).length := by rw [markE_len]; omega
        have hlt' : i < l.length := by omega
        rw [← hL, List.set_append, if_neg (by simp [markE_len]; omega), List.length_take, markE_len, show i - min i l.length = 0 by omega, List.drop_eq_getElem_cons hlt', List.set_cons_zero, List.take_succ_eq_append_getElem hi2, List.append_assoc, List.singleton_append]
        have := markE_gi (n := l.length) (k := k) hlt'
        rw [gi_lt hi2] at this
        rw [this]
      rw [this] at e3
      exact e3.ext0 hx2
    · exact ((((hX.trans (hO.stoX _ _)).trans (e0.stoX _ _)).trans (e1.stoX _ _)).trans (e2.stoX _ _)).trans hx2.of_nil
    · simp only [cntMw, cntM, ctrAt, List.getElem?_cons_zero, List.getElem?_cons_succ]
      omega
  · have hge := of_decide_eq_false hge
    have : i = l.length := by omega
    subst this
    refine fun w2 hx2 => ⟨rfl, ?_, hX.trans hx2.of_nil⟩
    have e : (markE l.length k).take l.length ++ l.drop l.length = markE l.length k := by
      rw [List.drop_length, List.append_nil, List.take_of_length_le (by rw [markE_len]; exact Nat.le_refl _)]
    rw [e] at hO
    exact hO.ext0 hx2
theorem k_heldEntryS {n : Nat} {o : Option Addr} {c : Nat} {k : Int} {w : World} {bs : List Nat} (h : RdE bs w o (markE n k)) (hl : n ≤ 1048576) (hk : 0 ≤ k) (hk2 : k ≤ 100000000) :
    PureX bs Try.prog fn_laws_heldEntryS #[.slice o n c, .int .i64 k] w (.int .i64 (k + 4 * (n : Int))) :=
  p_laws_heldEntryS o n c k fun wr hx => by
    have h := (h.ext hx).less (cs := []) (by simp)
    refine loop2 n 0 rfl (fun x i => i ≤ n ∧ x = k + 4 * (i : Int)) ⟨Nat.zero_le _, by simp⟩ fun x i ⟨hi, hx1⟩ => ⟨fun hlt => ?_, fun hge => ?_⟩
    · subst hx1
      have hlt := of_decide_eq_true hlt
      have hc := h i (by omega) (by rw [markE_len]; exact hlt)
      have hix : Ix o n (i : Int) := by have := h.ix encE_c (i := (i : Int)) (by omega) (by rw [markE_len]; exact hlt); rwa [markE_len] at this
      rw [markE_gi (by omega)] at hc
      refine ⟨hix, _, hc.1, by decide, fun hb => by simp [mkE] at hb, fun _ => ⟨⟨by omega, by omega⟩, hix, _, hc.2.1, fun hb => by simp [mkE] at hb, fun _ => ⟨⟨by omega, by omega⟩, hix, _, hc.2.2.1, fun hb => by simp [mkE] at hb, fun _ => ⟨⟨by omega, by omega⟩, hix, _, hc.2.2.2, fun hb => by simp [mkE] at hb, fun _ => ⟨⟨by omega, by omega⟩, ⟨by omega, by omega⟩, loop2_next (by omega) ⟨by omega, by omega⟩⟩⟩⟩⟩⟩
    · have hge := of_decide_eq_false hge
      have : i = n := by omega
      subst this
      rw [hx1]
theorem k_markQueue {base : Nat} {q : Que} {o : Option Addr} {c : Nat} {k : Int} {w : World} (h : Own encE 4 ty_impl_Entry base w o c q.es) (hl : q.es.length ≤ 1048576) (hk : 0 ≤ k) (hk2 : k ≤ 100000000) :
    Calls Try.prog fn_laws_markQueue #[.agg (encQ q o c).toArray, .int .i64 k] w fun e w' => e = .returned (.int .i64 (k + 4 * (q.es.length : Int))) ∧ Own encE 4 ty_impl_Entry base w' o c (markE q.es.length k) ∧ ExtX (blkOf o) w w' := by
  refine (e_laws_markQueue q.floor q.cur q.ran o q.es.length c k (R := fun v w' => v = .int .i64 (k + 4 * (q.es.length : Int)) ∧ Own encE 4 ty_impl_Entry base w' o c (markE q.es.length k) ∧ ExtX (blkOf o) w w') ?_).mono fun e w' ⟨v, he, hv, h1⟩ => ⟨by rw [he, hv], h1⟩
  intro b hb wr hx hs
  have hnb : b ∉ blkOf o := fun hm => by
    have := (h.lt b hm).2
    omega
  refine (k_markEntryS (h.ext0 hx) hl hk hk2).mono fun e w1 ⟨he, hO, hx1⟩ => ⟨_, he, fun x hm => ?_, fun wr1 hy1 => ⟨rfl, hO.ext hy1 fun x hm hm' => ?_, (hx.of_nil.trans hx1).fresh hy1 fun x hm => ?_⟩⟩
  · have hxb : x = b := by simpa using hm
    subst hxb
    exact hx1.block x (hs x hm) hnb
  · have hxb : x = b := by simpa using hm'
    subst hxb
    exact hnb hm
  · have hxb : x = b := by simpa using hm
    subst hxb
    exact .inl hb
theorem k_heldQueue {q : Que} {n : Nat} {o : Option Addr} {c : Nat} {k : Int} {w : World} {bs : List Nat} (hn : q.es.length = n) (h : RdE bs w o (markE n k)) (hl : n ≤ 1048576) (hk : 0 ≤ k) (hk2 : k ≤ 100000000) :
    PureX bs Try.prog fn_laws_heldQueue #[.agg (encQ q o c).toArray, .int .i64 k] w (.int .i64 (k + 4 * (n : Int))) :=
  p_laws_heldQueue q.floor q.cur q.ran o q.es.length c k fun wr hx => by
    subst hn
    intro b hb
    refine ⟨_, k_heldEntryS ((h.ext hx).less (by simp)) hl hk hk2, fun h => ?_, fun _ => rfl⟩
    have := of_decide_eq_true h
    omega

theorem k_markQueueOpS {base : Nat} {l : List QOp} {o : Option Addr} {c : Nat} {k : Int} {w : World} (h : Own encO 3 ty_impl_QueueOp base w o c l) (hl : l.length ≤ 1048576) (hk : 0 ≤ k) (hk2 : k ≤ 100000000) :
    Calls Try.prog fn_laws_markQueueOpS #[.slice o l.length c, .int .i64 k] w fun e w' => e = .returned (.int .i64 (k + 3 * (l.length : Int))) ∧ ExtX (blkOf o) w w' := by
  refine (e_laws_markQueueOpS o l.length c k (R := fun v w' => v = .int .i64 (k + 3 * (l.length : Int)) ∧ ExtX (blkOf o) w w') ?_).mono fun e w' ⟨v, he, hv, h1⟩ => ⟨by rw [he, hv], h1⟩
  refine ⟨fun vs w1 => ∃ (i : Nat) (m : List QOp), vs = [.int .i64 (k + 3 * (i : Int)), .int .i64 (i : Int)] ∧ i ≤ l.length ∧ m.length = l.length ∧ Own encO 3 ty_impl_QueueOp base w1 o c m ∧ ExtX (blkOf o) w w1, cntMw l.length 1, fun wr hx _ => ⟨0, l, by simp, Nat.zero_le _, rfl, h.ext0 hx, hx.of_nil⟩, ?_⟩
  rintro k1 i1 w1 _ ⟨i, m, he, hi, hlen, hO, hX⟩
  simp only [List.cons.injEq, Value.int.injEq, true_and, and_true] at he
  obtain ⟨rfl, rfl⟩ := he
  refine ⟨fun hlt => ?_, fun hge => ?_⟩
  · have hlt := of_decide_eq_true hlt
    have hi' : (i : Int) < (m.length : Int) := by rw [hlen]; exact hlt
    have hix : Ix o l.length (i : Int) := by have := hO.ix (i := (i : Int)) (by omega) hi'; rwa [hlen] at this
    have e0 := hO.sto elt_QueueOp.len (i := (i : Int)) (by omega) hi' (j := 0) (vs := [.int .i64 (k + 3 * (i : Int))]) (x := ⟨k + 3 * (i : Int), (gi m i).at', (gi m i).n⟩) rfl (by simp)
    have e1 := e0.sto elt_QueueOp.len (i := (i : Int)) (by omega) (by rw [List.length_set]; exact hi') (j := 1) (vs := [.int .i64 (k + 3 * (i : Int) + 1)]) (x := ⟨(gi (m.set (i : Int).toNat ⟨k + 3 * (i : Int), (gi m i).at', (gi m i).n⟩) i).kind, k + 3 * (i : Int) + 1, (gi (m.set (i : Int).toNat ⟨k + 3 * (i : Int), (gi m i).at', (gi m i).n⟩) i).n⟩) rfl (by simp)
    exact ⟨hix, hO.wr elt_QueueOp.len (by simp) (by omega) hi' (j := 0) (by decide), ⟨by omega, by omega⟩, hix, e0.wr elt_QueueOp.len (by simp) (by omega) (by rw [List.length_set]; exact hi') (j := 1) (by decide), ⟨by omega, by omega⟩, hix, e1.wr elt_QueueOp.len (by simp) (by omega) (by rw [List.length_set, List.length_set]; exact hi') (j := 2) (by decide), ⟨by omega, by omega⟩, ⟨by omega, by omega⟩, fun w2 hx2 _ => ⟨⟨i + 1, _, by congr 2; omega, by omega, by rw [List.length_set, List.length_set, List.length_set]; exact hlen, (e1.sto elt_QueueOp.len (i := (i : Int)) (by omega) (by rw [List.length_set, List.length_set]; exact hi') (j := 2) (vs := [.int .i64 (k + 3 * (i : Int) + 1 + 1)]) (x := ⟨(gi ((m.set (i : Int).toNat ⟨k + 3 * (i : Int), (gi m i).at', (gi m i).n⟩).set (i : Int).toNat ⟨(gi (m.set (i : Int).toNat ⟨k + 3 * (i : Int), (gi m i).at', (gi m i).n⟩) i).kind, k + 3 * (i : Int) + 1, (gi (m.set (i : Int).toNat ⟨k + 3 * (i : Int), (gi m i).at', (gi m i).n⟩) i).n⟩) i).kind, (gi ((m.set (i : Int).toNat ⟨k + 3 * (i : Int), (gi m i).at', (gi m i).n⟩).set (i : Int).toNat ⟨(gi (m.set (i : Int).toNat ⟨k + 3 * (i : Int), (gi m i).at', (gi m i).n⟩) i).kind, k + 3 * (i : Int) + 1, (gi (m.set (i : Int).toNat ⟨k + 3 * (i : Int), (gi m i).at', (gi m i).n⟩) i).n⟩) i).at', k + 3 * (i : Int) + 1 + 1⟩) rfl (by simp)).ext0 hx2, (((hX.trans (hO.stoX _ _)).trans (e0.stoX _ _)).trans (e1.stoX _ _)).trans hx2.of_nil⟩, by simp only [cntMw, cntM, ctrAt, List.getElem?_cons_zero, List.getElem?_cons_succ]; omega⟩⟩
  · have hge := of_decide_eq_false hge
    have : i = l.length := by omega
    subst this
    exact fun w2 hx2 => ⟨rfl, hX.trans hx2.of_nil⟩

/-! ### Queues as data -/
def tOk (v : Int) : Bool := inB v 0 100000000000000000
def near (v f k : Int) : Bool := decide (v ≥ f) && decide (v - f ≤ lagMost k)
def entOk (f : Int) (e : Ent) : Bool := inB e.w 1 20 && tOk e.v && tOk e.sum && (!e.on || near e.v f e.w)
def curOk (q : Que) : Bool := if q.cur < 0 then q.ran == 0 else ((gi q.es q.cur).on && inB q.ran 1 149) && decide ((gi q.es q.cur).v - q.floor ≤ vstep q.ran (gi q.es q.cur).w)
def queOk (q : Que) : Bool := inB (q.es.length : Int) 1 20 && tOk q.floor && inB q.cur (-1) ((q.es.length : Int) - 1) && q.es.all (entOk q.floor) && curOk q
theorem all_gi {α : Type} [Inhabited α] {l : List α} {p : α → Bool} : l.all p = true ↔ ∀ k : Nat, k < l.length → p (gi l (k : Int)) = true := by
  rw [List.all_eq_true]
  constructor
  · intro h k hk; exact h _ (gi_mem (by omega) (by omega))
  · intro h x hx
    obtain ⟨k, hk, rfl⟩ := List.getElem_of_mem hx
    rw [← gi_lt hk]; exact h k hk
structure EntOk (f : Int) (e : Ent) : Prop where
  w1 : 1 ≤ e.w
  w2 : e.w ≤ 20
  v1 : 0 ≤ e.v
  v2 : e.v ≤ 100000000000000000
  s1 : 0 ≤ e.sum
  s2 : e.sum ≤ 100000000000000000
  on : e.on = true → f ≤ e.v ∧ e.v - f ≤ lagMost e.w
theorem tOk_t {v : Int} : tOk v = true ↔ 0 ≤ v ∧ v ≤ 100000000000000000 := inB_t
theorem entOk_iff {f : Int} {e : Ent} : entOk f e = true ↔ EntOk f e := by
  unfold entOk near
  simp only [Bool.and_eq_true, Bool.or_eq_true, inB_t, tOk_t, Bool.not_eq_true', decide_eq_true_eq]
  constructor
  · rintro ⟨⟨⟨h1, h2⟩, h3⟩, h4⟩
    refine ⟨h1.1, h1.2, h2.1, h2.2, h3.1, h3.2, fun ho => ?_⟩
    rcases h4 with h4 | h4
    · rw [h4] at ho; cases ho
    · exact ⟨h4.1, h4.2⟩
  · intro h
    refine ⟨⟨⟨⟨h.w1, h.w2⟩, h.v1, h.v2⟩, h.s1, h.s2⟩, ?_⟩
    cases ho : e.on with
    | false => exact .inl rfl
    | true => exact .inr ⟨(h.on ho).1, (h.on ho).2⟩
structure QueOk (q : Que) : Prop where
  l1 : 1 ≤ q.es.length
  l2 : q.es.length ≤ 20
  f1 : 0 ≤ q.floor
  f2 : q.floor ≤ 100000000000000000
  c1 : -1 ≤ q.cur
  c2 : q.cur < (q.es.length : Int)
  es : ∀ i : Int, 0 ≤ i → i < (q.es.length : Int) → EntOk q.floor (gi q.es i)
  idle : q.cur < 0 → q.ran = 0
  busy : 0 ≤ q.cur → (gi q.es q.cur).on = true ∧ 1 ≤ q.ran ∧ q.ran ≤ 149 ∧ (gi q.es q.cur).v - q.floor ≤ vstep q.ran (gi q.es q.cur).w
theorem queOk_iff {q : Que} : queOk q = true ↔ QueOk q := by
  unfold queOk curOk
  simp only [Bool.and_eq_true, inB_t, tOk_t, all_gi, entOk_iff]
  constructor
  · rintro ⟨⟨⟨⟨h1, h2⟩, h3⟩, h4⟩, h5⟩
    refine ⟨by omega, by omega, h2.1, h2.2, h3.1, by omega, fun i h0 hi => ?_, fun hc => ?_, fun hc => ?_⟩
    · have := h4 i.toNat (by omega)
      rwa [show ((i.toNat : Nat) : Int) = i by omega] at this
    · rw [if_pos hc] at h5; simpa using h5
    · rw [if_neg (by omega)] at h5
      simp only [Bool.and_eq_true, inB_t, decide_eq_true_eq] at h5
      exact ⟨h5.1.1, h5.1.2.1, h5.1.2.2, h5.2⟩
  · intro h
    refine ⟨⟨⟨⟨by have := h.l1; have := h.l2; omega, h.f1, h.f2⟩, h.c1, by have := h.c2; omega⟩, fun k hk => h.es k (by omega) (by omega)⟩, ?_⟩
    split
    · rename_i hc; simpa using h.idle hc
    · rename_i hc
      obtain ⟨b1, b2, b3, b4⟩ := h.busy (by omega)
      simp only [Bool.and_eq_true, inB_t, decide_eq_true_eq]
      exact ⟨⟨b1, b2, b3⟩, b4⟩

theorem k_spec_l4Time {v : Int} {w : World} {bs : List Nat} : PureX bs Try.prog fn_spec_l4Time #[.int .i64 v] w (.bool (tOk v)) :=
  p_spec_l4Time v fun wr hx => ⟨_, k_spec_l1In, rfl⟩
theorem k_spec_l4Entry {f : Int} {e : Ent} {w : World} {bs : List Nat} (hf : 0 ≤ f) : PureX bs Try.prog fn_spec_l4Entry #[.agg (encE e).toArray, .int .i64 f] w (.bool (entOk f e)) :=
  p_spec_l4Entry e.on e.v e.w e.sum f fun wr hx => by
    intro b hb
    refine ⟨_, k_spec_l1Weight, _, fun _ => k_spec_l4Time, _, fun _ => k_spec_l4Time, fun h => ?_, fun h => ⟨fun h1 h2 => ?_, _, fun _ _ => k_spec_LagMost, ?_⟩⟩
    · unfold entOk
      revert h
      cases inB e.w 1 20 <;> cases tOk e.v <;> cases tOk e.sum <;> simp
    · have hv : tOk e.v = true := by
        revert h
        cases inB e.w 1 20 <;> cases tOk e.v <;> cases tOk e.sum <;> simp
      have hv := tOk_t.1 hv
      have h1 := of_decide_eq_true h1
      exact ⟨by omega, by omega⟩
    · unfold entOk near
      revert h
      cases inB e.w 1 20 <;> cases tOk e.v <;> cases tOk e.sum <;> simp
theorem k_spec_QueueOk {q : Que} {o : Option Addr} {c : Nat} {w : World} {bs : List Nat} (h : RdE bs w o q.es) : PureX bs Try.prog fn_spec_QueueOk #[.agg (encQ q o c).toArray] w (.bool (queOk q)) :=
  p_spec_QueueOk q.floor q.cur q.ran o q.es.length c fun wr hx => by
    have h := (h.ext hx).less (cs := []) (by simp)
    intro b hb
    refine ⟨_, k_spec_l1In, _, fun _ => k_spec_l4Time, fun g => ?_, _, fun _ => k_spec_l1In, fun g => ?_, fun g => ?_⟩
    · have : inB (q.es.length : Int) 1 20 = true := by
        revert g
        cases inB (q.es.length : Int) 1 20 <;> simp
      have := inB_t.1 this
      exact ⟨by omega, by omega⟩
    · unfold queOk
      revert g
      cases inB (q.es.length : Int) 1 20 <;> cases tOk q.floor <;> cases inB q.cur (-1) ((q.es.length : Int) - 1) <;> simp
    · have g3 : inB (q.es.length : Int) 1 20 = true ∧ tOk q.floor = true ∧ inB q.cur (-1) ((q.es.length : Int) - 1) = true := by
        revert g
        cases inB (q.es.length : Int) 1 20 <;> cases tOk q.floor <;> cases inB q.cur (-1) ((q.es.length : Int) - 1) <;> simp
      obtain ⟨g1, g2, g3⟩ := g3
      have i1 := inB_t.1 g1
      have i2 := tOk_t.1 g2
      have i3 := inB_t.1 g3
      have hq : queOk q = (q.es.all (entOk q.floor) && curOk q) := by unfold queOk; rw [g1, g2, g3]; rfl
      rw [hq]
      refine loop1 q.es.length 0 rfl (fun k => k ≤ q.es.length ∧ ∀ j : Nat, j < k → entOk q.floor (gi q.es (j : Int)) = true) ⟨Nat.zero_le _, fun j hj => absurd hj (Nat.not_lt_zero j)⟩ fun k ⟨hk, hI⟩ => ⟨fun hlt => ?_, fun hge => ?_⟩
      · have hlt := of_decide_eq_true hlt
        refine ⟨h.ix encE_c (by omega) hlt, _, _, _, _, h k (by omega) hlt, _, k_spec_l4Entry (e := gi q.es k) i2.1, fun g => ?_, fun g => ⟨inR_nat hlt (by simp [maxLen]; omega), loop1_next (by omega) ⟨by omega, fun j hj => ?_⟩⟩⟩
        · have : q.es.all (entOk q.floor) = false := by
            cases hb : q.es.all (entOk q.floor) with
            | false => rfl
            | true =>
              rw [all_gi.1 hb k (by omega)] at g
              cases g
          rw [this]; rfl
        · by_cases hjk : j < k
          · exact hI j hjk
          · have : j = k := by omega
            subst this
            simpa using g
      · have hge := of_decide_eq_false hge
        have hk : k = q.es.length := by omega
        subst hk
        rw [all_gi.2 hI, Bool.true_and]
        refine ⟨fun g => ?_, fun g => ?_⟩
        · have g := of_decide_eq_true g
          unfold curOk
          rw [if_pos g]
        · have g := of_decide_eq_false g
          have hc := h q.cur (by omega) (by omega)
          have he := entOk_iff.1 (hI q.cur.toNat (by omega))
          rw [show ((q.cur.toNat : Nat) : Int) = q.cur by omega] at he
          refine ⟨h.ix encE_c (by omega) (by omega), _, _, _, _, hc, fun b1 _ => ⟨_, fun _ => k_spec_l1In, fun g2 => ?_, _, fun _ => k_spec_VirtualStep, ?_⟩⟩
          · have := he.v1
            have := he.v2
            exact ⟨by omega, by omega⟩
          · unfold curOk
            rw [if_neg g]

/-- Who is ready with the least v, of the first k. -/
def leastS (es : List Ent) : Nat → Int
  | 0 => -1
  | k + 1 => if (gi es (k : Int)).on && (decide (leastS es k < 0) || decide ((gi es (k : Int)).v < (gi es (leastS es k)).v)) then (k : Int) else leastS es k
def least (es : List Ent) : Int := leastS es es.length
theorem leastS_range (es : List Ent) : ∀ k : Nat, -1 ≤ leastS es k ∧ leastS es k < (k : Int)
  | 0 => by simp [leastS]
  | k + 1 => by
    have := leastS_range es k
    simp only [leastS]
    split <;> omega
theorem k_spec_l4Least {q : Que} {o : Option Addr} {c : Nat} {w : World} {bs : List Nat} (h : RdE bs w o q.es) (hl : q.es.length ≤ maxLen) : PureX bs Try.prog fn_spec_l4Least #[.agg (encQ q o c).toArray] w (.int .i64 (least q.es)) :=
  p_spec_l4Least q.floor q.cur q.ran o q.es.length c fun wr hx => by
    have h := (h.ext hx).less (cs := []) (by simp)
    intro b hb
    refine loop2 q.es.length 0 rfl (fun x k => k ≤ q.es.length ∧ x = leastS q.es k) ⟨Nat.zero_le _, rfl⟩ fun x k ⟨hk, hI⟩ => ⟨fun hlt => ?_, fun hge => ?_⟩
    · have hlt := of_decide_eq_true hlt
      have hc := h k (by omega) hlt
      have hr := leastS_range q.es k
      subst hI
      refine ⟨h.ix encE_c (by omega) hlt, _, hc.1, fun _ _ => h.ix encE_c (by omega) hlt, _, fun _ _ => hc.2.1, fun g _ => ?_, (gi q.es (leastS q.es k)).v, fun g _ => ?_, fun g => ⟨inR_nat hlt hl, loop2_next (by omega) ⟨by omega, ?_⟩⟩, fun g => ⟨inR_nat hlt hl, loop2_next (by omega) ⟨by omega, ?_⟩⟩⟩
      · have g := of_decide_eq_false g
        exact h.ix encE_c (by omega) (by omega)
      · have g := of_decide_eq_false g
        exact (h (leastS q.es k) (by omega) (by omega)).2.1
      · simp only [leastS]; rw [if_pos g]
      · simp only [leastS]; rw [if_neg (by rw [g]; decide)]
    · have hge := of_decide_eq_false hge
      have hk : k = q.es.length := by omega
      subst hk
      rw [hI]; rfl
def nextQ (q : Que) : Int := if q.cur ≥ 0 ∧ q.ran < 50 then q.cur else least q.es
theorem k_spec_QueuePick {q : Que} {o : Option Addr} {c : Nat} {w : World} {bs : List Nat} (h : RdE bs w o q.es) (hl : q.es.length ≤ maxLen) : PureX bs Try.prog fn_spec_QueuePick #[.agg (encQ q o c).toArray] w (.int .i64 (if queOk q then nextQ q else -1)) :=
  p_spec_QueuePick q.floor q.cur q.ran o q.es.length c fun wr hx => by
    have h := (h.ext hx).less (cs := []) (by simp)
    intro b hb
    refine ⟨_, k_spec_QueueOk h, fun g => ?_, fun g => ?_⟩
    · rw [if_neg (by simpa using g)]
    · rw [if_pos (by simpa using g)]
      unfold nextQ
      refine ⟨fun g => ?_, fun g => ⟨_, k_spec_l4Least h hl, ?_⟩⟩
      · rw [if_pos (by simpa using g)]
      · rw [if_neg (by simpa using g)]
end Go.Proofs.Ythihcdljmddgfaa
