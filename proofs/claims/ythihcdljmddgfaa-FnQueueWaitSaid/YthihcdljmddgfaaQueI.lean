/- Queues as the program does them: who is first, what a queue is, copies, deeds. -/
import Derived.Test.YthihcdljmddgfaaPile
namespace Go.Proofs.Ythihcdljmddgfaa
open Go.RowKit
set_option linter.unusedVariables false
set_option maxRecDepth 10000

theorem rdI_blk {bs : List Nat} {w : World} {b : Nat} {l : List Int} {t : TypeId} {fz : Nat × Nat} (h : w.heap[b]? = some (.cells (l.flatMap encI).toArray t fz)) (hb : b ∉ bs) : RdI bs w (some ⟨b, 0, none⟩) l := fun i h0 hi => by
  have hlt : i.toNat < l.length := by omega
  refine cellX_blk h hb (k0 := 0) ?_
  have := flat_get (enc := encI) (z := 1) (fun _ => rfl) l i.toNat 0 hlt (by decide)
  rw [Nat.add_zero] at this
  rw [Nat.zero_add, this]
  have e : gi l i = l[i.toNat] := by
    have := gi_lt hlt
    rwa [show ((i.toNat : Nat) : Int) = i by omega] at this
  rw [e]; rfl
theorem k_impl_timeOk {l : List Int} {o : Option Addr} {c : Nat} {w : World} {bs : List Nat} (h : RdI bs w o l) (hl : l.length ≤ maxLen) : PureX bs Try.prog fn_impl_timeOk #[.slice o l.length c] w (.bool (l.all tOk)) :=
  p_impl_timeOk o l.length c fun wr hx => by
    have h := (h.ext hx).less (cs := []) (by simp)
    refine loop1 l.length 0 rfl (fun k => k ≤ l.length ∧ ∀ j : Nat, j < k → tOk (gi l (j : Int)) = true) ⟨Nat.zero_le _, fun j hj => absurd hj (Nat.not_lt_zero j)⟩ fun k ⟨hk, hI⟩ => ⟨fun hlt => ?_, fun hge => ?_⟩
    · have hlt := of_decide_eq_true hlt
      refine ⟨h.ix encI_c (by omega) hlt, _, h k (by omega) hlt, _, k_impl_inRange, fun g => ?_, fun g => ⟨inR_nat hlt hl, loop1_next (by omega) ⟨by omega, fun j hj => ?_⟩⟩⟩
      · have : l.all tOk = false := by
          cases hb : l.all tOk with
          | false => rfl
          | true =>
            have := all_gi.1 hb k (by omega)
            unfold tOk at this
            rw [this] at g
            cases g
        rw [this]
      · by_cases hjk : j < k
        · exact hI j hjk
        · have : j = k := by omega
          subst this
          unfold tOk
          simpa using g
    · have hge := of_decide_eq_false hge
      have hk : k = l.length := by omega
      subst hk
      rw [all_gi.2 hI]
theorem k_impl_placed {v f k : Int} {w : World} {bs : List Nat} (h : tOk v = true) (hf : 0 ≤ f) : PureX bs Try.prog fn_impl_placed #[.int .i64 v, .int .i64 f, .int .i64 k] w (.bool (near v f k)) :=
  p_impl_placed v f k fun wr hx => by
    have h := tOk_t.1 h
    exact ⟨fun g => by have := of_decide_eq_true g; exact ⟨by omega, by omega⟩, _, fun _ => k_impl_LagMost, rfl⟩
theorem k_impl_top {b1 base : Nat} {w : World} {o : Option Addr} {cap : Nat} {l : List Int} {v : Value} {t : TypeId} {bs : List Nat} (hp : w.heap[b1]? = some (.cells [.slice o l.length cap, v].toArray t (0, 0))) (hO : Own encI 1 ty_int base w o cap l) (hb : b1 ∉ bs) (hbo : ∀ x ∈ blkOf o, x ∉ bs) :
    PureX bs Try.prog fn_impl_pile_int_top #[.pointer (some ⟨b1, 0, none⟩)] w (.tuple #[.int .i64 (if l = [] then 0 else gi l 0), .bool (decide (l ≠ []))]) :=
  p_impl_pile_int_top _ fun wr hx => by
    have hp := blk_ext hp hx hb
    have hO := hO.ext hx hbo
    have hc : CellsX [] wr (some ⟨b1, 0, none⟩) (0 + 0) [.slice o l.length cap] := cellX_blk hp (by simp) (k0 := 0) (k := 0) rfl
    refine ⟨rfl, _, _, _, hc, fun g => ?_, fun g => ?_⟩
    · have : l = [] := List.eq_nil_of_length_eq_zero (by have := eq_of_beq g; omega)
      subst this; rfl
    · have hne : l ≠ [] := fun e => by subst e; simp at g
      have hpos : 0 < l.length := List.length_pos_iff.2 hne
      have hr : RdI [] wr o l := hO.rd elt_Int.len (by simp)
      refine ⟨rfl, _, _, _, hc, hO.ix (by omega) (by omega), _, hr 0 (by omega) (by omega), ?_⟩
      rw [if_neg hne, decide_eq_true hne]
theorem k_impl_queueFirst {q : Que} {o : Option Addr} {c : Nat} {w : World} {bs : List Nat} (h : RdE bs w o q.es) (hl : q.es.length ≤ 100000) : PureX bs Try.prog fn_impl_queueFirst #[.agg (encQ q o c).toArray] w (.int .i64 (least q.es)) := by
  refine pureX_of fun wr hx => e_impl_queueFirst q.floor q.cur q.ran o q.es.length c (R := fun v w' => v = .int .i64 (least q.es) ∧ ExtX [] wr w') ?_
  have h := (h.ext hx).less (cs := []) (by simp)
  have hm9 := maxLen_big
  intro b wb hxb hb hcell hnb b1 wb1 hxb1 hb1 hcell1 hnb1
  have hblt := blk_lt hcell
  have hcellb : wb1.heap[b]? = some (.cells (encQ q o c).toArray ty_impl_Queue (0, 0)) := blk_ext hcell hxb1 (by simp)
  have hp : (sto wb1 (some ⟨b1, 0, none⟩) 0 [.slice none 0 0, cloQ b]).heap[b1]? = some (.cells [.slice none ([] : List Int).length 0, cloQ b].toArray ty_impl_pile_int (0, 0)) := sto_blk (k := 0) (n := 0) (vs := [.slice none 0 0, cloQ b]) hcell1
  have hxs : ExtX [b1] wb1 (sto wb1 (some ⟨b1, 0, none⟩) 0 [.slice none 0 0, cloQ b]) := sto_ext fun a ha => by cases ha; simp
  have hbb : b ≠ b1 := by omega
  have hW : ExtX [] wr (sto wb1 (some ⟨b1, 0, none⟩) 0 [.slice none 0 0, cloQ b]) := (hxb.trans hxb1).fresh hxs fun x hm => by
    have : x = b1 := by simpa using hm
    subst this; have := hxb.size; exact .inl (by omega)
  have hsz : (sto wb1 (some ⟨b1, 0, none⟩) 0 [.slice none 0 0, cloQ b]).heap.size = wb1.heap.size := by
    have h1 := hxs.size
    rcases Nat.lt_or_ge wb1.heap.size (sto wb1 (some ⟨b1, 0, none⟩) 0 [.slice none 0 0, cloQ b]).heap.size with hh | hh
    · exfalso
      have : ∀ (vs : List Value) (w : World) (n : Nat), (stoL w ⟨b1, 0, none⟩ n vs).heap.size = w.heap.size := by
        intro vs
        induction vs with
        | nil => intro w n; rfl
        | cons v r ih => intro w n; simp only [stoL]; rw [ih]; simp
      have h2 := this [.slice none 0 0, cloQ b] wb1 0
      have h3 : (sto wb1 (some ⟨b1, 0, none⟩) 0 [.slice none 0 0, cloQ b]) = stoL wb1 ⟨b1, 0, none⟩ 0 [.slice none 0 0, cloQ b] := rfl
      rw [h3] at hh
      omega
    · omega
  have hb1lt : b1 < wb1.heap.size := blk_lt hcell1
  refine ⟨wrX_blk (k0 := 0) hcell1 (by simp) (by simp), o, q.es.length, c, cellX_blk (blk_ext hcellb hxs (by simpa using hbb)) (by simp) (k0 := 0) (k := 3) rfl, ?_⟩
  refine loop1w q.es.length 0 rfl (fun k w1 => k ≤ q.es.length ∧ ∃ o' c' l, w1.heap[b1]? = some (.cells [.slice o' l.length c', cloQ b].toArray ty_impl_pile_int (0, 0)) ∧ Own encI 1 ty_int wb1.heap.size w1 o' c' l ∧ w1.heap[b]? = some (.cells (encQ q o c).toArray ty_impl_Queue (0, 0)) ∧ ExtX [] wr w1 ∧ wb1.heap.size ≤ w1.heap.size ∧ l.length ≤ k ∧
    (∀ y ∈ l, 0 ≤ y ∧ y < (k : Int)) ∧ (∀ y ∈ l, bfB q.es y (gi l 0) = false) ∧ ((l = [] ∧ leastS q.es k = -1) ∨ (l ≠ [] ∧ gi l 0 = leastS q.es k))) (fun w1 hx1 _ => ⟨Nat.zero_le _, none, 0, [], blk_ext hp hx1 (by simp), own_nil, blk_ext (blk_ext hcellb hxs (by simpa using hbb)) hx1 (by simp), hW.trans hx1, Nat.le_trans (Nat.le_of_eq hsz.symm) hx1.size, Nat.le_refl _, (fun y hy => by cases hy), (fun y hy => by cases hy), .inl ⟨rfl, rfl⟩⟩) fun k w1 _ ⟨hk, o', c', l, hp1, hO1, hq1, hX1, hs1, hlk, hin, hmin, hL⟩ => ⟨fun hlt => ?_, fun hge => ?_⟩
  · have hlt := of_decide_eq_true hlt
    have hr := h.ext hX1
    refine ⟨hr.ix encE_c (by omega) hlt, _, _, _, _, hr k (by omega) hlt, fun b2 hb2 => ⟨fun hon wr1 hx1 hs2 => ?_, fun hoff => ⟨inR_nat hlt (by omega), fun wr1 hx1 _ => loop1w_next (by omega) ⟨by omega, o', c', l, blk_ext hp1 hx1 (by simp), hO1.ext0 hx1, blk_ext hq1 hx1 (by simp), hX1.trans hx1, by have := hx1.size; omega, by omega, fun y hy => by have := hin y hy; omega, hmin, ?_⟩⟩⟩⟩
    · have h1o : b1 ∉ blkOf o' := fun hm => by have := (hO1.lt b1 hm).1; omega
      have hbo : b ∉ blkOf o' := fun hm => by have := (hO1.lt b hm).1; have := hxb1.size; omega
      have hX2 := hX1.trans hx1
      have hwide : RdE (b1 :: blkOf o') wr1 o q.es := ((h.wide (cs := b1 :: blkOf o') fun x hm => by
        have := hxb.size
        have := hxb1.size
        rcases List.mem_cons.1 hm with rfl | hm
        · exact .inr (by omega)
        · have := (hO1.lt x hm).1
          exact .inr (by omega)).ext hX2.of_nil)
      refine (k_push (q := q) (x := (k : Int)) (blk_ext hq1 hx1 (by simp)) (blk_ext hp1 hx1 (by simp)) (hO1.ext0 hx1) hwide hbb hbo h1o (by have := hx1.size; omega) (fun y hy => by have := hin y hy; omega) (by omega) hlt hmin (by omega)).mono fun e w2 ⟨he, o2, c2, m, a1, a2, a3, a4, a5, a6, a7, a8⟩ => ⟨he, fun x hm => ?_, inR_nat hlt (by omega), fun wr2 hx2 _ => ?_⟩
      · have : x = b2 := by simpa using hm
        subst this
        refine a7.block x (hs2 x (by simp)) ?_
        simp only [List.mem_cons, not_or]
        exact ⟨by omega, fun hm' => by have := (hO1.lt x hm').2; omega⟩
      · have hb2n : ∀ z, z < w1.heap.size → z ∉ [b2] := fun z hz hm => by
          have : z = b2 := by simpa using hm
          omega
        have hdo : ∀ x ∈ blkOf o2, x ∉ [b2] := fun x hm hm' => by
          have hxe : x = b2 := by simpa using hm'
          have := hs2 b2 (by simp)
          rcases a8 x hm with h' | h'
          · have := (hO1.lt x h').2; omega
          · omega
        have hb1w : b1 < w1.heap.size := by omega
        refine loop1w_next (by omega) ⟨by omega, o2, c2, m, blk_ext a1 hx2 (hb2n b1 hb1w), a2.ext hx2 hdo, ?_, ?_, ?_, by omega, ?_, a5, ?_⟩
        · exact blk_ext (blk_ext (blk_ext hq1 hx1 (by simp)) a7 (by simp only [List.mem_cons, not_or]; exact ⟨hbb, hbo⟩)) hx2 (hb2n b (by have := hxb1.size; omega))
        · refine (hX2.fresh a7 fun x hm => ?_).fresh hx2 fun x hm => ?_
          · have := hxb.size
            have := hxb1.size
            rcases List.mem_cons.1 hm with rfl | hm
            · exact .inl (by omega)
            · have := (hO1.lt x hm).1
              exact .inl (by omega)
          · have : x = b2 := by simpa using hm
            have := hX1.size
            exact .inl (by omega)
        · have := hx1.size
          have := a7.size
          have := hx2.size
          omega
        · intro y hy
          rcases a3 y hy with h' | h'
          · have := hin y h'; omega
          · omega
        · refine .inr ⟨fun e => by rw [e] at a4; simp at a4, ?_⟩
          rw [a6]
          simp only [leastS]
          rcases hL with ⟨e1, e2⟩ | ⟨e1, e2⟩
          · rw [if_pos (.inl e1), e2, if_pos (by rw [hon]; rfl)]
          · have hg := hin _ (gi_mem (l := l) (i := 0) (by omega) (by have := List.length_pos_iff.2 e1; omega))
            rw [e2] at hg
            rw [e2]
            by_cases hb : bfB q.es (k : Int) (leastS q.es k) = true
            · rw [if_pos (.inr hb)]
              have := bfB_t.1 hb
              rw [if_pos]
              rw [hon, Bool.true_and, Bool.or_eq_true, decide_eq_true_eq, decide_eq_true_eq]
              omega
            · have hb' : bfB q.es (k : Int) (leastS q.es k) = false := by simpa using hb
              have hn := bfB_f.1 hb'
              rw [if_neg (by rintro (h' | h'); · exact e1 h'
                             · exact hb h'), if_neg]
              rw [hon, Bool.true_and, Bool.or_eq_true, decide_eq_true_eq, decide_eq_true_eq]
              omega
    · have : leastS q.es (k + 1) = leastS q.es k := by
        simp only [leastS]
        rw [if_neg (by rw [hoff]; simp)]
      rw [this]; exact hL
  · have hge := of_decide_eq_false hge
    have hk : k = q.es.length := by omega
    subst hk
    refine ⟨_, _, k_impl_top hp1 hO1 (by simp) (by simp), fun g wr4 hx4 => ?_, fun g wr4 hx4 => ?_⟩
    · rcases hL with ⟨e1, e2⟩ | ⟨e1, e2⟩
      · rw [e1] at g; simp at g
      · exact ⟨by rw [if_neg e1, e2]; rfl, hX1.trans hx4⟩
    · rcases hL with ⟨e1, e2⟩ | ⟨e1, e2⟩
      · exact ⟨by unfold least; rw [e2], hX1.trans hx4⟩
      · simp [e1] at g
def nextI (q : Que) : Int := if q.cur ≠ -1 ∧ q.ran < 50 then q.cur else least q.es
theorem k_impl_queueNext {q : Que} {o : Option Addr} {c : Nat} {w : World} {bs : List Nat} (h : RdE bs w o q.es) (hl : q.es.length ≤ 100000) : PureX bs Try.prog fn_impl_queueNext #[.agg (encQ q o c).toArray] w (.int .i64 (nextI q)) :=
  p_impl_queueNext q.floor q.cur q.ran o q.es.length c fun wr hx => by
    have h := (h.ext hx).less (cs := []) (by simp)
    intro b hb
    unfold nextI
    refine ⟨fun g => ?_, fun g => ⟨_, k_impl_queueFirst h hl, ?_⟩⟩
    · rw [if_pos (by simpa using g)]
    · rw [if_neg (by simpa using g)]
theorem nextI_eq {q : Que} (h : QueOk q) : nextI q = nextQ q := by
  have := h.c1
  unfold nextI nextQ
  by_cases hc : q.cur = -1
  · rw [if_neg (by rw [hc]; simp), if_neg (by omega)]
  · by_cases hr : q.ran < 50
    · rw [if_pos ⟨hc, hr⟩, if_pos ⟨by omega, hr⟩]
    · rw [if_neg (by omega), if_neg (by omega)]
end Go.Proofs.Ythihcdljmddgfaa
