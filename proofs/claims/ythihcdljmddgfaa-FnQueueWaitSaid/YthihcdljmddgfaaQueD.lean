/- Queues as the program does them: copies, what a queue is, QueueDo. -/
import Derived.Test.YthihcdljmddgfaaQueM
namespace Go.Proofs.Ythihcdljmddgfaa
open Go.RowKit
set_option linter.unusedVariables false
set_option maxRecDepth 10000

theorem k_impl_queueCopy {q : Que} {o : Option Addr} {c : Nat} {w : World} (h : RdE [] w o q.es) (hl : q.es.length ≤ 1048576) :
    Calls Try.prog fn_impl_queueCopy #[.agg (encQ q o c).toArray] w fun e w' => ∃ o' c', e = .returned (.agg (encQ q o' c').toArray) ∧ Own encE 4 ty_impl_Entry w.heap.size w' o' c' q.es ∧ ExtX [] w w' := by
  refine (e_impl_queueCopy q.floor q.cur q.ran o q.es.length c (R := fun v w' => ∃ o' c', v = .agg (encQ q o' c').toArray ∧ Own encE 4 ty_impl_Entry w.heap.size w' o' c' q.es ∧ ExtX [] w w') ?_).mono fun e w' ⟨v, he, o', c', hv, h1, h2⟩ => ⟨o', c', by rw [he, hv], h1, h2⟩
  have hm9 := maxLen_big
  intro b hb b1 hb1 wr hx hs
  have hb01 : ∀ x ∈ [b, b1], w.heap.size ≤ x := fun x hm => by
    simp only [List.mem_cons, List.not_mem_nil, or_false] at hm
    rcases hm with rfl | rfl <;> assumption
  refine ⟨_, _, _, _, run_mk elt_Entry u_sl_impl_Entry q.es.length (by omega) (by omega) wr, kept_of (ext_alloc wr _) hs, fun wr1 hx1 hs1 => ?_⟩
  have hO := own_made (enc := encE) elt_Entry.len ty_impl_Entry q.es.length (⟨false, 0, 0, 0⟩ : Ent) wr
  have hd : ∀ x ∈ blkOf (some ⟨wr.heap.size, 0, none⟩ : Option Addr), x ∉ [b, b1] := fun x hx hm => by
    have hxe : x = wr.heap.size := by simpa [blkOf] using hx
    have := hs x hm
    omega
  have hO1 := hO.ext hx1 hd
  have hX1 : ExtX [] w wr1 := (hx.trans (ext_alloc wr _)).fresh hx1 fun x hm => .inl (hb01 x hm)
  obtain ⟨n, w2, hrun, hO2, hx2⟩ := run_cpy elt_Entry u_sl_impl_Entry oneE (by decide) hO1 (h.ext hX1) (by simp) (c2 := c) ty_int #[false, false]
  rw [List.length_replicate] at hrun
  refine ⟨n, w2, hrun, fun x hm => hx2.block x (hs1 x hm) fun hm' => hd x hm' hm, fun wr2 hx3 => ⟨_, _, rfl, (hO2.ext hx3 hd).mono hx.size, ?_⟩⟩
  refine (hX1.fresh hx2 fun x hm => ?_).fresh hx3 fun x hm => .inl (hb01 x hm)
  have hxe : x = wr.heap.size := by simpa [blkOf] using hm
  have := hx.size
  exact .inl (by omega)

theorem k_impl_QueueOk {q : Que} {o : Option Addr} {c : Nat} {w : World} {bs : List Nat} (h : RdE bs w o q.es) (hl9 : q.es.length ≤ 1048576) : PureX bs Try.prog fn_impl_QueueOk #[.agg (encQ q o c).toArray] w (.bool (queOk q)) := by
  refine pureX_of fun wr0 hx0 => e_impl_QueueOk q.floor q.cur q.ran o q.es.length c (R := fun v w' => v = .bool (queOk q) ∧ ExtX [] wr0 w') ?_
  have h := (h.ext hx0).less (cs := []) (by simp)
  have hm9 := maxLen_big
  intro b wb hxb hb hcell _
  have hcel : ∀ {bs : List Nat} {w : World}, ExtX [] wb w → b ∉ bs → ∀ {k : Nat} {v : Value}, (encQ q o c)[k]? = some v → CellX bs w (some ⟨b, 0, none⟩) k v := fun {bs w} hx hb {k v} hk =>
    cellX_blk (blk_ext hcell hx (by simp)) hb (k0 := 0) (by rw [Nat.zero_add]; exact hk)
  refine ⟨o, q.es.length, c, hcel (ExtX.refl _ _) (by simp) (k := 3) rfl, _, k_impl_inRange, q.floor, fun _ => hcel (ExtX.refl _ _) (by simp) (k := 0) rfl, fun g b1 hb1 => ?_, fun g => ⟨fun _ wr hx => ⟨?_, hxb.trans hx⟩, fun g2 => by cases g2⟩⟩
  · refine ⟨tOk q.floor, fun _ wx hxw hcx => ?_, fun g2 wr hx => ⟨?_, hxb.trans hx⟩, fun g2 => ?_⟩
    · have := k_impl_timeOk (l := [q.floor]) (c := 1) (bs := []) (rdI_blk hcx (by simp)) (by simp; omega)
      simpa using this
    · unfold queOk
      revert g2
      cases inB (q.es.length : Int) 1 20 <;> cases tOk q.floor <;> simp
    have i1 : inB (q.es.length : Int) 1 20 = true := by simpa using g
    have i2 : tOk q.floor = true := by
      revert g2
      rw [i1]
      cases tOk q.floor <;> simp
    have j1 := inB_t.1 i1
    have j2 := tOk_t.1 i2
    have hqk : queOk q = (inB q.cur (-1) ((q.es.length : Int) - 1) && q.es.all (entOk q.floor) && curOk q) := by unfold queOk; rw [i1, i2]; rfl
    rw [hqk]
    have hblt := blk_lt hcell
    have hbb : b ∉ [b1] := by simp; omega
    refine ⟨o, q.es.length, c, hcel (ExtX.refl _ _) (by simp) (k := 3) rfl, ?_⟩
    refine loop1w q.es.length 0 rfl (fun k w1 => k ≤ q.es.length ∧ ExtX [] wb w1 ∧ ∀ j : Nat, j < k → entOk q.floor (gi q.es (j : Int)) = true) (fun wr hx _ => ⟨Nat.zero_le _, hx, fun j hj => absurd hj (Nat.not_lt_zero j)⟩) fun k w1 hs1 ⟨hk, hX, hI⟩ => ⟨fun hlt => ?_, fun hge => ?_⟩
    · have hlt := of_decide_eq_true hlt
      have hr : RdE [b1] w1 o q.es := (h.wide (cs := [b1]) fun x hm => .inr (le_mem1 hm (Nat.le_trans hxb.size hb1))).ext (hxb.trans hX).of_nil
      have bad : entOk q.floor (gi q.es (k : Int)) = false → q.es.all (entOk q.floor) = false := fun hf => by
        cases hb : q.es.all (entOk q.floor) with
        | false => rfl
        | true => rw [all_gi.1 hb k (by omega)] at hf; cases hf
      refine ⟨hr.ix encE_c (by omega) hlt, _, _, _, _, hr k (by omega) hlt, fun b2 hb2 => ⟨_, k_impl_weightOk, fun gw b3 hb3 => ?_, fun gw => ?_⟩⟩
      · refine ⟨tOk (gi q.es (k : Int)).v && tOk (gi q.es (k : Int)).sum, fun _ wx hxw hcx => ?_, q.floor, fun _ _ => hcel hX hbb (k := 0) rfl, near (gi q.es (k : Int)).v q.floor (gi q.es (k : Int)).w, fun _ gt => ?_, fun g3 wr hx => ⟨?_, (hxb.trans hX).fresh hx fun x hm => ?_⟩, fun g3 => ⟨inR_nat hlt (by omega), fun wr hx _ => loop1w_next (by omega) ⟨by omega, hX.fresh hx fun x hm => ?_, fun j hj => ?_⟩⟩⟩
        · have hb3n : b3 ∉ [b1] := fun hm => by
            have : b3 = b1 := by simpa using hm
            have h1 := hs1 b1 (by simp)
            omega
          have := k_impl_timeOk (l := [(gi q.es (k : Int)).v, (gi q.es (k : Int)).sum]) (c := 2) (bs := [b1]) (rdI_blk hcx hb3n) (by simp; omega)
          simpa using this
        · refine k_impl_placed ?_ (by omega)
          revert gt
          cases inB (gi q.es (k : Int)).w 1 20 <;> cases tOk (gi q.es (k : Int)).v <;> cases tOk (gi q.es (k : Int)).sum <;> simp
        · have : entOk q.floor (gi q.es (k : Int)) = false := by
            unfold entOk
            revert g3
            cases inB (gi q.es (k : Int)).w 1 20 <;> cases tOk (gi q.es (k : Int)).v <;> cases tOk (gi q.es (k : Int)).sum <;> cases (gi q.es (k : Int)).on <;> cases near (gi q.es (k : Int)).v q.floor (gi q.es (k : Int)).w <;> simp
          rw [bad this]; simp
        · have : x = b1 := by simpa using hm
          have := hxb.size
          exact .inl (by omega)
        · have : x = b1 := by simpa using hm
          exact .inl (by omega)
        · by_cases hjk : j < k
          · exact hI j hjk
          · have : j = k := by omega
            subst this
            unfold entOk
            revert g3
            cases inB (gi q.es (j : Int)).w 1 20 <;> cases tOk (gi q.es (j : Int)).v <;> cases tOk (gi q.es (j : Int)).sum <;> cases (gi q.es (j : Int)).on <;> cases near (gi q.es (j : Int)).v q.floor (gi q.es (j : Int)).w <;> simp
      · refine ⟨q.floor, (fun _ g3 => by cases g3), false, (fun _ g3 => by cases g3), fun _ wr hx => ⟨?_, (hxb.trans hX).fresh hx fun x hm => ?_⟩, fun g3 => by simp at g3⟩
        · have : entOk q.floor (gi q.es (k : Int)) = false := by
            unfold entOk
            revert gw
            cases inB (gi q.es (k : Int)).w 1 20 <;> simp
          rw [bad this]; simp
        · have : x = b1 := by simpa using hm
          have := hxb.size
          exact .inl (by omega)
    · have hge := of_decide_eq_false hge
      have hk : k = q.es.length := by omega
      subst hk
      rw [all_gi.2 hI, Bool.and_true]
      have fr : ∀ {wr : World}, ExtX [b1] w1 wr → ExtX [] wr0 wr := fun {wr} hx => (hxb.trans hX).fresh hx fun x hm => by
        have : x = b1 := by simpa using hm
        have := hxb.size
        exact .inl (by omega)
      refine ⟨q.cur, hcel hX hbb (k := 1) rfl, fun g3 => ⟨q.ran, hcel hX hbb (k := 2) rfl, fun wr hx => ⟨?_, fr hx⟩⟩, fun g3 => ?_⟩
      · have hc := eq_of_beq g3
        have : inB q.cur (-1) ((q.es.length : Int) - 1) = true := inB_t.2 (by omega)
        rw [this, Bool.true_and]
        unfold curOk
        rw [if_pos (by omega)]
      · have hc : q.cur ≠ -1 := fun e => by rw [e] at g3; simp at g3
        have hO' : RdE [b1] w1 o q.es := (h.wide (cs := [b1]) fun x hm => .inr (le_mem1 hm (Nat.le_trans hxb.size hb1))).ext (hxb.trans hX).of_nil
        refine ⟨q.cur, hcel hX hbb (k := 1) rfl, (if atQ q q.cur then o.map (·.add (Int.toNat q.cur * 4)) else none), ?_, ?_⟩
        · exact k_entryR (blk_ext hcell hX (by simp)) hbb hO' hl9
        · cases ha : atQ q q.cur with
          | false =>
            simp only [Bool.false_eq_true, if_false]
            have : inB q.cur (-1) ((q.es.length : Int) - 1) = false := by
              cases hb : inB q.cur (-1) ((q.es.length : Int) - 1) with
              | false => rfl
              | true =>
                have := inB_t.1 hb
                have : atQ q q.cur = true := atQ_t.2 (by omega)
                rw [ha] at this; cases this
            rw [this]
            refine ⟨fun g => by simp at g, false, fun g => by simp at g, 0, fun g => by simp at g, false, fun g => by simp at g, fun g => by simp at g, 0, fun g => by simp at g, 0, fun g => by simp at g, fun g => by simp at g, 0, fun g => by simp at g, fun g => by simp at g, 0, fun g => by simp at g, 0, fun g => by simp at g, fun wr hx => ⟨by simp, fr hx⟩⟩
          | true =>
            obtain ⟨a0, a1⟩ := atQ_t.1 ha
            simp only [if_true]
            have hcc := hO' _ a0 a1
            have hs := hO'.ix encE_c a0 a1
            obtain ⟨s1, s2⟩ := some_map (n := Int.toNat q.cur * 4) hs.2.2
            have he := entOk_iff.1 (hI q.cur.toNat (by omega))
            rw [show ((q.cur.toNat : Nat) : Int) = q.cur by omega] at he
            have v1 := he.v1
            have v2 := he.v2
            have : inB q.cur (-1) ((q.es.length : Int) - 1) = true := inB_t.2 (by omega)
            rw [this, Bool.true_and, s1]
            refine ⟨fun _ => s2, (gi q.es q.cur).on, fun _ => cellsX_add.2 hcc.1, q.ran, fun _ => hcel hX hbb (k := 2) rfl, _, fun _ => k_impl_inRange, fun _ => s2, _, fun _ => cellsX_add.2 hcc.2.1, _, fun _ => hcel hX hbb (k := 0) rfl, fun _ => ⟨by omega, by omega⟩, _, fun _ => hcel hX hbb (k := 2) rfl, fun _ => s2, _, fun _ => cellsX_add.2 hcc.2.2.1, _, fun _ => k_impl_VirtualStep, fun wr hx => ⟨?_, fr hx⟩⟩
            unfold curOk
            rw [if_neg (by omega)]
            simp
  · have : inB (q.es.length : Int) 1 20 = false := by
      cases hb : inB (q.es.length : Int) 1 20 with
      | false => rfl
      | true => rw [hb] at g; exact (g rfl).elim
    unfold queOk
    rw [this]; simp

theorem acts_of {q : Que} {op : QOp} (hq : QueOk q) (h1 : 1 ≤ op.kind) (h5 : op.kind ≤ 5) : ∃ F : FuncId, ([.nilFunc, .func (.func fn_impl_Queue_joins) #[] #[], .func (.func fn_impl_Queue_leaves) #[] #[], .func (.func fn_impl_Queue_runs) #[] #[], .func (.func fn_impl_Queue_weighs) #[] #[], .func (.func fn_impl_Queue_stays) #[] #[]] : List Value)[Int.toNat op.kind + 0]? = some (.func (.func F) #[] #[]) ∧ (∀ (w : World) (x y : Value), (callV (.func (.func F) #[] #[]) [x, y]).run Try.prog w = .ok (.enter F #[x, y]) w) ∧
    ∀ {b base : Nat} {w : World} {o : Option Addr} {c : Nat}, QAt b base w q o c → Calls Try.prog F #[.pointer (some ⟨b, 0, none⟩), .agg (encO op).toArray] w fun e w' => ∃ v, e = .returned v ∧ OpR b base o c (actQ q op) w v w' := by
  have : op.kind = 1 ∨ op.kind = 2 ∨ op.kind = 3 ∨ op.kind = 4 ∨ op.kind = 5 := by omega
  rcases this with h | h | h | h | h
  · have e : actQ q op = if atQ q op.at' then joinQ q op.at' else none := by unfold actQ; rw [if_pos h]
    rw [e, h]
    exact ⟨_, rfl, fun _ _ _ => rfl, fun hQ => k_impl_joins hq hQ⟩
  · have e : actQ q op = if atQ q op.at' then leaveQ q op.at' else none := by unfold actQ; rw [if_neg (by omega), if_pos h]
    rw [e, h]
    exact ⟨_, rfl, fun _ _ _ => rfl, fun hQ => k_impl_leaves hq hQ⟩
  · have e : actQ q op = runQ q op.n := by unfold actQ; rw [if_neg (by omega), if_neg (by omega), if_pos h]
    rw [e, h]
    exact ⟨_, rfl, fun _ _ _ => rfl, fun hQ => k_impl_runs hq hQ⟩
  · have e : actQ q op = if atQ q op.at' then weighQ q op.at' op.n else none := by unfold actQ; rw [if_neg (by omega), if_neg (by omega), if_neg (by omega), if_pos h]
    rw [e, h]
    exact ⟨_, rfl, fun _ _ _ => rfl, fun hQ => k_impl_weighs hq hQ⟩
  · have e : actQ q op = some (endQ q) := by unfold actQ; rw [if_neg (by omega), if_neg (by omega), if_neg (by omega), if_neg (by omega), if_pos h]
    rw [e, h]
    exact ⟨_, rfl, fun _ _ _ => rfl, fun hQ => k_impl_stays hQ⟩
theorem k_impl_QueueDo {q : Que} {op : QOp} {o : Option Addr} {c : Nat} {w : World} (h : RdE [] w o q.es) (hl9 : q.es.length ≤ 1048576) :
    Calls Try.prog fn_impl_QueueDo #[.agg (encQ q o c).toArray, .agg (encO op).toArray] w fun e w' => ∃ v, e = .returned v ∧ DoR (doQ q op) w v w' := by
  refine e_impl_QueueDo q.floor q.cur q.ran o q.es.length c op.kind op.at' op.n (R := fun v w' => DoR (doQ q op) w v w') ?_
  intro b hb b1 hb1 b2 hb2
  refine ⟨_, k_impl_QueueOk h hl9, fun g wr hx => ⟨none, 0, ?_, ?_, hx⟩, fun g b3 hb3 wr1 hx1 hs1 => ?_⟩
  · have : doQ q op = (zeroQ, false) := by unfold doQ; rw [if_neg (by simpa using g)]
    rw [this]; rfl
  · have : doQ q op = (zeroQ, false) := by unfold doQ; rw [if_neg (by simpa using g)]
    rw [this]; exact own_nil
  have hqk : queOk q = true := by simpa using g
  have hq := queOk_iff.1 hqk
  have hl20 := hq.l2
  have hdo : doQ q op = match actQ q op with
    | some q1 => (riseQ q1, true)
    | none => (q, false) := by unfold doQ; rw [if_pos hqk]; rfl
  have hbs : ∀ x ∈ [b, b1, b2, b3], w.heap.size ≤ x := fun x hm => by
    simp only [List.mem_cons, List.not_mem_nil, or_false] at hm
    rcases hm with rfl | rfl | rfl | rfl <;> assumption
  refine (k_impl_queueCopy (h.ext hx1) hl9).mono fun e wv ⟨o1, c1, he1, hO1, hy1⟩ => ⟨_, _, _, _, _, _, he1, kept_of hy1 hs1, fun b4 wb hxb hb4 hcell hn4 => ?_⟩
  have hW1 := hx1.trans hy1
  have d1 : ∀ x ∈ blkOf o1, x ∉ [b, b1, b2, b3] := fun x hx hm => by
    have := hO1.lt x hx
    have := hs1 x hm
    omega
  have hOb := hO1.ext hxb d1
  have hWb : ExtX [] w wb := hW1.fresh hxb fun x hx => .inl (hbs x hx)
  have h4o : b4 ∉ blkOf o1 := fun hm => by have := (hO1.lt b4 hm).2; omega
  have hxs : ExtX [b4] wb (sto wb (some ⟨b4, 0, none⟩) 0 [.int .i64 q.floor, .int .i64 q.cur, .int .i64 q.ran, .slice o1 q.es.length c1]) := sto_ext fun a ha => by cases ha; simp
  have hQ : QAt b4 wr1.heap.size (sto wb (some ⟨b4, 0, none⟩) 0 [.int .i64 q.floor, .int .i64 q.cur, .int .i64 q.ran, .slice o1 q.es.length c1]) q o1 c1 := by
    refine ⟨sto_blk (k := 0) (n := 0) (vs := [.int .i64 q.floor, .int .i64 q.cur, .int .i64 q.ran, .slice o1 q.es.length c1]) hcell, hOb.ext hxs fun x hx hm => ?_, h4o⟩
    have : x = b4 := by simpa using hm
    subst this; exact h4o hx
  have hWs : ExtX [] w (sto wb (some ⟨b4, 0, none⟩) 0 [.int .i64 q.floor, .int .i64 q.cur, .int .i64 q.ran, .slice o1 q.es.length c1]) := hWb.fresh hxs fun x hx => .inl (le_mem1 hx (Nat.le_trans hW1.size hb4))
  have fr : ∀ {wA wB : World}, ExtX [] w wA → ExtX [b, b1, b2, b3] wA wB → ExtX [] w wB := fun {wA wB} h1 h2 => h1.fresh h2 fun x hx => .inl (hbs x hx)
  have base1 : w.heap.size ≤ wr1.heap.size := hx1.size
  refine ⟨wrX_blk (k0 := 0) hcell hn4 (by simp), _, k_impl_inRange, fun g2 => ?_, ?_⟩
  · have g2 : inB op.kind 1 5 = true := by simpa using g2
    have g2 := inB_t.1 g2
    exact ⟨by omega, by omega⟩
  cases hin : inB op.kind 1 5 with
  | false =>
    refine ⟨0, #[], #[], (fun g2 => by cases g2), (fun g2 => by cases g2), fun _ => ⟨fun _ wr2 hx2 hs2 => ?_, fun g2 => by cases g2⟩⟩
    have hact : actQ q op = none := by
      have := inB_f.1 hin
      unfold actQ
      rw [if_neg (by omega), if_neg (by omega), if_neg (by omega), if_neg (by omega), if_neg (by omega)]
    have hW2 := fr hWs hx2
    refine (k_impl_queueCopy (h.ext hW2) hl9).mono fun e w3 ⟨o2, c2, he2, hO2, hy2⟩ => ⟨_, _, _, _, _, _, he2, kept_of hy2 hs2, fun wr4 hx4 => ⟨o2, c2, ?_, ?_, fr (hW2.trans hy2) hx4⟩⟩
    · rw [hdo, hact]; rfl
    · rw [hdo, hact]
      exact (hO2.ext hx4 fun x hx hm => by have := hO2.lt x hx; have := hs2 x hm; omega).mono hW2.size
  | true =>
    have hk := inB_t.1 hin
    obtain ⟨F, hF, hcv, hcall⟩ := acts_of (op := op) hq hk.1 hk.2
    refine ⟨F, #[], #[], fun _ => ⟨by omega, hF⟩, fun _ wr2 hx2 hs2 => ⟨F, _, hcv _ _ _, ?_⟩, fun g2 => (g2 rfl).elim⟩
    have hQ2 := hQ.ext hx2 hn4 d1
    have hW2 := fr hWs hx2
    refine (hcall hQ2).mono fun e w3 ⟨v, he, q', ok, hv, hr, hqt, hx3⟩ => ⟨ok, by rw [he, hv], fun x hm => hx3.block x (hs2 x hm) ?_, fun g3 wr3 hx4 hs3 => ?_, fun g3 wr5 hx5 hs5 => ?_⟩
    · simp only [List.mem_cons (a := x) (b := b4), not_or]
      exact ⟨fun e => hn4 (by rw [← e]; exact hm), fun hm' => d1 x hm' hm⟩
    · have hW3 : ExtX [] w w3 := hW2.fresh hx3 fun x hm => by
        rcases List.mem_cons.1 hm with rfl | hm
        · exact .inl (Nat.le_trans hW1.size hb4)
        · exact .inl (Nat.le_trans base1 (hO1.lt x hm).1)
      have hW4 := fr hW3 hx4
      have hact : actQ q op = none := by
        rcases hr with ⟨h1, _⟩ | ⟨_, h2⟩
        · rw [h1] at g3; cases g3
        · exact h2
      refine (k_impl_queueCopy (h.ext hW4) hl9).mono fun e w4 ⟨o2, c2, he2, hO2, hy2⟩ => ⟨_, _, _, _, _, _, he2, kept_of hy2 hs3, fun wr4 hx6 => ⟨o2, c2, ?_, ?_, fr (hW4.trans hy2) hx6⟩⟩
      · rw [hdo, hact]; rfl
      · rw [hdo, hact]
        exact (hO2.ext hx6 fun x hx hm => by have := hO2.lt x hx; have := hs3 x hm; omega).mono hW4.size
    · have hok : ok = true := by simpa using g3
      have hact : actQ q op = some q' := by
        rcases hr with ⟨_, h2⟩ | ⟨h1, _⟩
        · exact h2
        · rw [h1] at hok; cases hok
      have hW3 : ExtX [] w w3 := hW2.fresh hx3 fun x hm => by
        rcases List.mem_cons.1 hm with rfl | hm
        · exact .inl (Nat.le_trans hW1.size hb4)
        · exact .inl (Nat.le_trans base1 (hO1.lt x hm).1)
      have hQ5 := (hqt hok).ext hx5 hn4 d1
      have hW5 := fr hW3 hx5
      have hlen := act_len hact
      refine (k_impl_rise (by omega) hQ5).mono fun e w6 ⟨he6, hQ6, hx6⟩ => ⟨he6, fun x hm => hx6.block x (hs5 x hm) fun hm' => hn4 (by rw [← (by simpa using hm' : x = b4)]; exact hm), (riseQ q').floor, (riseQ q').cur, (riseQ q').ran, o1, (riseQ q').es.length, c1, cellsX_blk hQ6.blk hn4 (k0 := 0) (fun j v hj => by simpa [encQ] using hj), fun wr7 hx7 => ⟨o1, c1, ?_, ?_, ?_⟩⟩
      · rw [hdo, hact]; rfl
      · rw [hdo, hact]
        exact (hQ6.own.ext hx7 d1).mono base1
      · exact fr (hW5.fresh hx6 fun x hx => .inl (le_mem1 hx (Nat.le_trans hW1.size hb4))) hx7
end Go.Proofs.Ythihcdljmddgfaa
