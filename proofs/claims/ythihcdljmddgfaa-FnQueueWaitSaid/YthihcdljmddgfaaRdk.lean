/- Queues that are drawn. -/
import Derived.Test.YthihcdljmddgfaaRdq
import Derived.Test.YthihcdljmddgfaaQueP
import Derived.Test.YthihcdljmddgfaaQueW
namespace Go.Proofs.Ythihcdljmddgfaa
open Go.RowKit
set_option linter.unusedVariables false
set_option maxRecDepth 10000

/-- A block that is none of the reader's. -/
def FarR (rb : Nat) (c : Option Addr) (L : Nat) (x : Nat) : Prop := x ≠ rb ∧ ∀ a, c = some a → a.block = x → L = 0
theorem Rdr.new {rb : Nat} {c : Option Addr} {L N : Nat} {w : World} (h : Rdr rb c L N w) {x : Nat} (hx : w.heap.size ≤ x) : FarR rb c L x :=
  ⟨by have := h.lt; omega, fun a ha he => by
    rcases h.ltc a ha with h1 | h1
    · omega
    · exact h1⟩
theorem Rdr.farX {rb : Nat} {c : Option Addr} {L N : Nat} {w w' : World} {cs : List Nat} (h : Rdr rb c L N w) (hx : ExtX cs w w') (hc : ∀ x ∈ cs, FarR rb c L x) : Rdr rb c L N w' :=
  h.ext hx (fun hm => (hc _ hm).1 rfl) fun a ha => by
    by_cases hm : a.block ∈ cs
    · exact .inr ((hc _ hm).2 a ha rfl)
    · exact .inl hm
/-- A walk that draws. -/
structure SR (rb : Nat) (c : Option Addr) (L : Nat) (w0 : World) (base N : Nat) (bs : List Nat) (w : World) : Prop where
  rd : Rdr rb c L N w
  hb : w0.heap.size ≤ base
  bw : base ≤ w.heap.size
  fb : ∀ x, base ≤ x → FarR rb c L x
  far : ∀ x ∈ bs, FarR rb c L x
  new : ∀ x ∈ bs, w0.heap.size ≤ x
  ext : ExtX [rb] w0 w
section
variable {rb : Nat} {c : Option Addr} {L N M base : Nat} {bs cs : List Nat} {w0 w w' : World} {b : Nat}
theorem SR.start (h : Rdr rb c L N w) : SR rb c L w w.heap.size N [] w := ⟨h, Nat.le_refl _, Nat.le_refl _, fun _ hx => h.new hx, by simp, by simp, ExtX.refl _ _⟩
theorem SR.nx (h : SR rb c L w0 base N bs w) (hx : ExtX cs w w') (hc : ∀ x ∈ cs, FarR rb c L x) (hn : ∀ x ∈ cs, w0.heap.size ≤ x) : SR rb c L w0 base N bs w' :=
  ⟨h.rd.farX hx hc, h.hb, Nat.le_trans h.bw hx.size, h.fb, h.far, h.new, h.ext.fresh hx fun x hm => .inl (hn x hm)⟩
theorem SR.step (h : SR rb c L w0 base N bs w) (hx : ExtX bs w w') : SR rb c L w0 base N bs w' := h.nx hx h.far h.new
theorem SR.call0 (h : SR rb c L w0 base N bs w) (hx : ExtX [] w w') : SR rb c L w0 base N bs w' := h.nx hx (by simp) (by simp)
theorem SR.add (h : SR rb c L w0 base N bs w) (hb : w.heap.size ≤ b) : SR rb c L w0 base N (bs ++ [b]) w :=
  ⟨h.rd, h.hb, h.bw, h.fb, fun x hm => by
    rcases List.mem_append.1 hm with hm | hm
    · exact h.far x hm
    · have : x = b := by simpa using hm
      subst this; exact h.rd.new hb, fun x hm => by
    rcases List.mem_append.1 hm with hm | hm
    · exact h.new x hm
    · have : x = b := by simpa using hm
      have := h.ext.size
      omega, h.ext⟩
theorem SR.put (h : SR rb c L w0 base N bs w) (hx : ExtX bs w w') (hb : w.heap.size ≤ b) : SR rb c L w0 base N (bs ++ [b]) w' :=
  ⟨(h.step hx).rd, h.hb, (h.step hx).bw, h.fb, (h.add hb).far, (h.add hb).new, (h.step hx).ext⟩
theorem SR.sub (h : SR rb c L w0 base N bs w) (hs : ∀ x ∈ cs, x ∈ bs) : SR rb c L w0 base N cs w := ⟨h.rd, h.hb, h.bw, h.fb, fun x hm => h.far x (hs x hm), fun x hm => h.new x (hs x hm), h.ext⟩
theorem SR.draw (h : SR rb c L w0 base N bs w) (k : Rdr rb c L M w') (hx : ExtX [rb] w w') : SR rb c L w0 base M bs w' :=
  ⟨k, h.hb, Nat.le_trans h.bw hx.size, h.fb, h.far, h.new, h.ext.trans hx⟩
theorem SR.mono (h : SR rb c L w0 base N bs w) (hm : N ≤ M) : SR rb c L w0 base M bs w := ⟨h.rd.mono hm, h.hb, h.bw, h.fb, h.far, h.new, h.ext⟩
theorem SR.kept (h : SR rb c L w0 base N bs w) (hx : ExtX [rb] w w') (hs : ∀ x ∈ bs, x < w.heap.size) : Kept bs w w' := kept_sep hx hs fun x hm hm' => by
  have : x = rb := by simpa using hm
  exact (h.far x hm').1 this
end
section
variable {α : Type} {enc : α → List Value} {z : Nat} {ty : TypeId} {base : Nat} {bs : List Nat} {w w' w0 : World} {o : Option Addr} {cap : Nat} {l : List α} {rb : Nat} {c : Option Addr} {L N : Nat}
theorem SR.ob (h : SR rb c L w0 base N bs w) (hO : Ob enc z ty base bs w o cap l) (hx : ExtX [rb] w w') : Ob enc z ty base bs w' o cap l := hO.call hx fun x hm hm' => by
  have : x = rb := by simpa using hm'
  exact (h.fb x (hO.own.lt x hm).1).1 this
theorem SR.own (h : SR rb c L w0 base N bs w) (hO : Own enc z ty base w o cap l) (hx : ExtX (blkOf o) w w') : SR rb c L w0 base N bs w' := h.nx hx (fun x hm => h.fb x (hO.lt x hm).1) fun x hm => by
  have := (hO.lt x hm).1
  have := h.hb
  omega
end
/-- append of one, in a walk. -/
theorem Ob.app1 {α : Type} [Inhabited α] {P : Program} {enc : α → List Value} {z : Nat} {ty t : TypeId} {bytes : Nat} {zero : α} (E : Elt P enc z ty bytes zero) (ht : P.underlying t = some (.slice ty)) {base : Nat} {bs : List Nat} {w : World} {o : Option Addr} {cap : Nat} {l : List α} (hO : Ob enc z ty base bs w o cap l)
    (hs : ∀ x ∈ bs, x < w.heap.size) (hbase : base ≤ w.heap.size) {x : α} {b : Nat} {t' : TypeId} {fz : Nat × Nat} (hb : w.heap[b]? = some (.cells (enc x).toArray t' fz)) (h1 : oneCells (enc x) = true) (hl : l.length ≤ 1048576) (hby : bytes ≤ 1000) (tr : TypeId) (cs : Array Bool) :
    ∃ o' cap' w', (builtin .append #[t, t] tr cs #[.slice o l.length cap, .slice (some ⟨b, 0, none⟩) 1 1]).run P w = .ok (.value (.slice o' (l ++ [x]).length cap')) w' ∧ Kept bs w w' ∧ Ob enc z ty base bs w' o' cap' (l ++ [x]) ∧ ExtX (blkOf o) w w' := by
  have hbb : (2 * (l.length + 1)) * bytes ≤ 281474976710656 := Nat.le_trans (Nat.mul_le_mul (show 2 * (l.length + 1) ≤ 2097154 by omega) hby) (by decide)
  obtain ⟨o2, c2, w2, hrun, hO2, hx2, ho2⟩ := run_app1 E ht hO.own hb h1 hbb (by omega) tr cs hbase
  refine ⟨o2, c2, w2, hrun, fun y hm => hx2.block y (hs y hm) fun hm' => hO.nb y hm' hm, ⟨hO2, fun y hy hm => ?_⟩, hx2⟩
  rcases ho2 with rfl | rfl
  · exact hO.nb y hy hm
  · have : y = w.heap.size := by simpa [blkOf] using hy
    have := hs y hm
    omega

/-! ### Queues -/
def newE (x : Int) : Ent := ⟨false, 0, x, 0⟩
def newQ (ws : List Int) : Que := ⟨0, -1, 0, ws.map newE⟩
theorem newQ_ok {ws : List Int} (h1 : 1 ≤ ws.length) (h2 : ws.length ≤ 20) (hw : ∀ x ∈ ws, 1 ≤ x ∧ x ≤ 20) : queOk (newQ ws) = true := by
  refine queOk_iff.2 ⟨by simpa [newQ] using h1, by simpa [newQ] using h2, Int.le_refl 0, (by decide : (0 : Int) ≤ 100000000000000000), (by decide : (-1 : Int) ≤ -1), ?_, fun i h0 hi => ?_, fun _ => rfl, fun hc => ?_⟩
  · show (-1 : Int) < _
    omega
  · have hi' : i < (ws.length : Int) := by simpa [newQ] using hi
    have hm := hw _ (gi_mem h0 hi')
    have : gi (newQ ws).es i = newE (gi ws i) := gi_map newE ws h0 hi'
    rw [this]
    exact ⟨hm.1, hm.2, by simp [newE], by simp [newE], by simp [newE], by simp [newE], fun ho => by simp [newE] at ho⟩
  · have : (0 : Int) ≤ -1 := hc
    omega
theorem newQ_sml (ws : List Int) : SmlQ (34686091440 * ((0 : Nat) : Int)) (newQ ws) := by
  have he : ∀ i : Int, 0 ≤ i → i < ((newQ ws).es.length : Int) → gi (newQ ws).es i = newE (gi ws i) := fun i h0 hi => gi_map newE ws h0 (by simpa [newQ] using hi)
  refine ⟨?_, fun i h0 hi => ?_, fun i h0 hi => ?_⟩
  · show (0 : Int) ≤ _
    omega
  · rw [he i h0 hi]
    show (0 : Int) ≤ _
    omega
  · rw [he i h0 hi]
    show (0 : Int) ≤ _
    omega
theorem k_spec_QueueNew {ws : List Int} {o : Option Addr} {c : Nat} {w : World} (h : RdI [] w o ws) (h1 : 1 ≤ ws.length) (h2 : ws.length ≤ 20) (hw : ∀ x ∈ ws, 1 ≤ x ∧ x ≤ 20) :
    Calls Try.prog fn_spec_QueueNew #[.slice o ws.length c] w fun e w' => ∃ o' c', e = .returned (.tuple #[.agg (encQ (newQ ws) o' c').toArray, .bool true]) ∧ Own encE 4 ty_impl_Entry w.heap.size w' o' c' (newQ ws).es ∧ ExtX [] w w' := by
  refine (e_spec_QueueNew o ws.length c (R := fun v w' => ∃ o' c', v = .tuple #[.agg (encQ (newQ ws) o' c').toArray, .bool true] ∧ Own encE 4 ty_impl_Entry w.heap.size w' o' c' (newQ ws).es ∧ ExtX [] w w') ?_).mono fun e w' ⟨v, he, o', c', hv, h3, h4⟩ => ⟨o', c', by rw [he, hv], h3, h4⟩
  intro b hb b1 hb1
  have s0 : Sc w [b, b1] w := ((Sc.start w).add hb).add hb1
  refine ⟨_, k_spec_l1In, fun g => ?_, fun g => ?_⟩
  · rw [inB_t.2 (by omega)] at g; cases g
  refine ⟨fun vs w1 => ∃ (k : Nat) (o' : Option Addr) (c' : Nat), vs = [.int .i64 (k : Int), .int .i64 0, .int .i64 (-1), .int .i64 0, .slice o' ((ws.take k).map newE).length c'] ∧ k ≤ ws.length ∧ Sc w [b, b1] w1 ∧ ObE w.heap.size [b, b1] w1 o' c' ((ws.take k).map newE), cntMw ws.length 0,
    fun w1 hx _ => ⟨0, none, 0, by simp, Nat.zero_le _, s0.call0 hx, ⟨own_nil, by simp [blkOf]⟩⟩, ?_⟩
  rintro i1 f1 c1 r1 o1 L1 C1 w1 hs1 ⟨k, o', c', he, hk, s2, hO⟩
  simp only [List.cons.injEq, Value.int.injEq, Value.slice.injEq, true_and, and_true] at he
  obtain ⟨rfl, rfl, rfl, rfl, rfl, rfl, rfl⟩ := he
  refine ⟨fun hlt => ?_, fun hge => ?_⟩
  · have hlt := of_decide_eq_true hlt
    have hr := h.scb s2
    refine ⟨hr.ix encI_c (by omega) hlt, _, hr k (by omega) hlt, fun b3 hb3 => ⟨rfl, fun wr4 hx4 hs4 hcell => ?_⟩⟩
    have s4 := s2.put hx4 hb3
    have hO4 := hO.put hx4 hb3
    obtain ⟨o2, c2, w2, hrun, hk2, hO2, hx2⟩ := hO4.app1 elt_Entry u_sl_impl_Entry (x := newE (gi ws (k : Int))) hs4 s4.ext.size hcell (oneE _) (by rw [List.length_map, List.length_take]; omega) (by decide) ty_sl_impl_Entry #[false, false]
    have htk : (ws.take k).map newE ++ [newE (gi ws (k : Int))] = (ws.take (k + 1)).map newE := by
      rw [List.take_succ_eq_append_getElem (by omega), gi_lt (by omega), List.map_append]; rfl
    rw [htk] at hrun hO2
    have s5 := s4.call hx2 fun x hm => (hO4.own.lt x hm).1
    refine ⟨_, _, _, w2, hrun, hk2, ⟨by omega, by omega⟩, fun w4 hx4 _ => ⟨⟨k + 1, o2, c2, by simp, by omega, (s5.step hx4).sub (by simp), (hO2.step hx4).sub (by simp)⟩, ?_⟩⟩
    exact cntM_lt (k := k) rfl rfl (by omega)
  · have hge := of_decide_eq_false hge
    have : k = ws.length := by omega
    subst this
    rw [List.take_length] at hO ⊢
    have hok := newQ_ok h1 h2 hw
    refine ⟨_, k_spec_QueueOk (q := newQ ws) (hO.rd elt_Entry.len), fun g2 => ?_, fun g2 wr hx => ⟨o1, C1, rfl, (hO.step hx).own, (s2.step hx).ext⟩⟩
    rw [hok] at g2; cases g2

section
variable {rb : Nat} {c : Option Addr} {L N : Nat} {w : World}
theorem k_queue (h : Rdr rb c L N w) (hN : N ≤ 700000000000) :
    Calls Try.prog fn_spec_l20Rd_queue #[.pointer (some ⟨rb, 0, none⟩)] w fun e w' => ∃ (q : Que) (o' : Option Addr) (c' : Nat), e = .returned (.agg (encQ q o' c').toArray) ∧ queOk q = true ∧ SmlQ 2000000000000 q ∧ Own encE 4 ty_impl_Entry w.heap.size w' o' c' q.es ∧ Rdr rb c L (N + 1000) w' ∧ ExtX [rb] w w' := by
  refine (e_spec_l20Rd_queue (some ⟨rb, 0, none⟩) (R := fun v w' => ∃ (q : Que) (o' : Option Addr) (c' : Nat), v = .agg (encQ q o' c').toArray ∧ queOk q = true ∧ SmlQ 2000000000000 q ∧ Own encE 4 ty_impl_Entry w.heap.size w' o' c' q.es ∧ Rdr rb c L (N + 1000) w' ∧ ExtX [rb] w w') ?_).mono fun e w' ⟨v, he, q, o', c', hv, h1⟩ => ⟨q, o', c', by rw [he, hv], h1⟩
  intro b hb wr hx hs
  have S1 : SR rb c L w w.heap.size N [b] wr := ((SR.start h).add hb).call0 hx
  refine (k_pick S1.rd (by omega)).mono fun e wv ⟨v, he, hv, hr, hx1⟩ => ⟨v, he, S1.kept hx1 hs, ?_⟩
  have hv1 := hv.1
  have hv2 := hv.2.2 (by decide)
  have S2 := S1.draw hr hx1
  refine ⟨⟨by omega, by omega⟩, fun vs bs w1 => ∃ n : Int, vs = [.int .i64 n] ∧ bs = [] ∧ 1 ≤ n ∧ n ≤ 20 ∧ SR rb c L w w.heap.size (N + 2) [b] w1, fun wr1 hx1 hs1 => ?_, ?_⟩
  · have S3 := S2.step hx1
    refine (k_pick S3.rd (by omega)).mono fun e wv1 ⟨v1, he, hv1', hr1, hx2⟩ => ⟨v1, he, S3.kept hx2 hs1, fun g wr2 hx3 _ => ⟨20, rfl, rfl, by omega, by omega, (S3.draw hr1 hx2).step hx3⟩, fun g wr3 hx3 _ => ⟨1 + v, rfl, rfl, by omega, by omega, (S3.draw hr1 hx2).step hx3⟩⟩
  rintro n w2 hs2 ⟨n', he, -, hn1, hn2, S3⟩
  simp only [List.cons.injEq, Value.int.injEq, true_and, and_true] at he
  subst he
  refine ⟨fun vs w1 => ∃ (k : Nat) (ws : List Int) (o' : Option Addr) (c' : Nat), vs = [.slice o' ws.length c', .int .i64 (k : Int)] ∧ ws.length = k ∧ (k : Int) ≤ n ∧ (∀ x ∈ ws, 1 ≤ x ∧ x ≤ 20) ∧ SR rb c L w w.heap.size (N + 2 + 2 * k) [b] w1 ∧ Ob encI 1 ty_int w.heap.size [b] w1 o' c' ws, cntMw n.toNat 1,
    fun wr4 hx4 _ => ⟨0, [], none, 0, rfl, rfl, by omega, by simp, S3.step hx4, ⟨own_nil, by simp [blkOf]⟩⟩, ?_⟩
  rintro o1 L1 C1 i1 w3 hs3 ⟨k, ws, o', c', he, hlen, hk, hws, S4, hO⟩
  simp only [List.cons.injEq, Value.int.injEq, Value.slice.injEq, true_and, and_true] at he
  obtain ⟨⟨rfl, rfl, rfl⟩, rfl⟩ := he
  refine ⟨fun hlt wr5 hx5 hs5 => ?_, fun hge wr8 hx8 hs8 => ?_⟩
  · have hlt := of_decide_eq_true hlt
    have S5 := S4.step hx5
    have hO5 := hO.step hx5
    refine (k_weight S5.rd (by omega)).mono fun e w4 ⟨u, he, _, hr4, hx4⟩ => ⟨u, he, S5.kept hx4 hs5, _, k_spec_l1Max, _, k_spec_l1Min, fun b1 hb1 wr6 hx6 hs6 hcell => ?_⟩
    have S6 := (S5.draw hr4 hx4).put hx6 hb1
    have hO6 := (S5.ob hO5 hx4).put hx6 hb1
    have hxr : 1 ≤ minI (maxI u 1) 20 ∧ minI (maxI u 1) 20 ≤ 20 := by
      unfold minI maxI
      split <;> (split at *) <;> omega
    obtain ⟨o2, c2, w5, hrun, hk5, hO7, hx7⟩ := hO6.app1 elt_Int u_sl_int (x := minI (maxI u 1) 20) hs6 S6.bw hcell (oneI _) (by omega) (by decide) ty_sl_int #[false, false]
    have S7 := S6.own hO6.own hx7
    refine ⟨_, _, _, w5, hrun, hk5, ⟨by omega, by omega⟩, fun wr7 hx8 _ => ⟨⟨k + 1, ws ++ [minI (maxI u 1) 20], o2, c2, by simp, by simp [hlen], by omega, fun x hm => ?_, ((S7.step hx8).mono (by omega)).sub (by simp), (hO7.step hx8).sub (by simp)⟩, ?_⟩⟩
    · rcases List.mem_append.1 hm with hm | hm
      · exact hws x hm
      · have : x = minI (maxI u 1) 20 := by simpa using hm
        rw [this]; exact hxr
    · exact cntM_lt (k := k) rfl rfl (by omega)
  have hge := of_decide_eq_false hge
  have S8 := S4.step hx8
  refine (k_spec_QueueNew ((hO.step hx8).rd0 elt_Int.len) (by omega) (by omega) hws).mono fun e w6 ⟨oq, cq, he, hOq, hx6⟩ => ⟨_, _, _, _, _, _, _, he, kept_of hx6 hs8, fun b2 hb2 => ?_⟩
  have hok := newQ_ok (ws := ws) (by omega) (by omega) hws
  have S9 := S8.call0 hx6
  have hQ9 : ObE w.heap.size [b] w6 oq cq (newQ ws).es := (Ob.of hOq hs8).mono S8.bw
  refine ⟨fun vs w1 => ∃ (j : Nat) (q : Que) (o' : Option Addr) (c' : Nat), vs = [.int .i64 (j : Int), .int .i64 q.floor, .int .i64 q.cur, .int .i64 q.ran, .slice o' q.es.length c'] ∧ (j : Int) ≤ n ∧ queOk q = true ∧ SmlQ (34686091440 * (j : Int)) q ∧ SR rb c L w w.heap.size (N + 100 + j) [b, b2] w1 ∧ ObE w.heap.size [b, b2] w1 o' c' q.es, cntMw n.toNat 0,
    fun wr12 hx12 _ => ⟨0, newQ ws, oq, cq, rfl, by omega, hok, newQ_sml ws, (S9.put hx12 hb2).mono (by omega), hQ9.put hx12 hb2⟩, ?_⟩
  rintro i2 f2 cu2 r2 o2 L2 C2 w10 hs10 ⟨j, q, o', c', he, hj, hq, hsj, S10, hO10⟩
  simp only [List.cons.injEq, Value.int.injEq, Value.slice.injEq, true_and, and_true] at he
  obtain ⟨rfl, rfl, rfl, rfl, rfl, rfl, rfl⟩ := he
  refine ⟨fun hlt wr13 hx13 hs13 => ?_, fun hge2 wr17 hx17 hs17 => ?_⟩
  · have hlt := of_decide_eq_true hlt
    have S13 := S10.step hx13
    have hO13 := hO10.step hx13
    refine (k_pick S13.rd (by omega)).mono fun e w11 ⟨p3, he, _, hr11, hx11⟩ => ⟨p3, he, S13.kept hx11 hs13, fun g wr14 hx14 hs14 => ?_, fun g => ⟨⟨by omega, by omega⟩, fun wr16 hx16 _ => ⟨⟨j + 1, q, o2, C2, by simp, by omega, hq, hsj.mono (by omega), ((S13.draw hr11 hx11).step hx16).mono (by omega), (S13.ob hO13 hx11).step hx16⟩, cntM_lt (k := j) rfl rfl (by omega)⟩⟩⟩
    have S14 := (S13.draw hr11 hx11).step hx14
    have hO14 := (S13.ob hO13 hx11).step hx14
    refine (k_spec_QueueDo (op := ⟨1, (j : Int), 0⟩) (hO14.rd0 elt_Entry.len)).mono fun e w12 ⟨v, he, o3, c3, hv, hO3, hx3⟩ => ?_
    subst hv
    have hO15 : ObE w.heap.size [b, b2] w12 o3 c3 _ := (Ob.of hO3 hs14).mono S14.bw
    exact ⟨_, _, _, _, _, _, _, he, kept_of hx3 hs14, ⟨by omega, by omega⟩, fun wr15 hx15 _ => ⟨⟨j + 1, _, o3, c3, by simp, by omega, do_ok hq _, (sml_do hq hsj _).mono (by omega), ((S14.call0 hx3).step hx15).mono (by omega), hO15.step hx15⟩, cntM_lt (k := j) rfl rfl (by omega)⟩⟩
  have S17 := S10.step hx17
  have hO17 := hO10.step hx17
  refine (k_pick S17.rd (by omega)).mono fun e w13 ⟨p4, he, hp4, hr13, hx13⟩ => ⟨p4, he, S17.kept hx13 hs17, ?_⟩
  have hp0 := hp4.1
  have hp1 := hp4.2.2 (by decide)
  have S18 := S17.draw hr13 hx13
  have hO18 := S17.ob hO17 hx13
  refine ⟨fun vs w1 => ∃ (m : Nat) (q : Que) (o' : Option Addr) (c' : Nat), vs = [.int .i64 (m : Int), .int .i64 q.floor, .int .i64 q.cur, .int .i64 q.ran, .slice o' q.es.length c'] ∧ (m : Int) ≤ p4 ∧ queOk q = true ∧ SmlQ (34686091440 * (20 + (m : Int))) q ∧ SR rb c L w w.heap.size (N + 200 + 10 * m) [b, b2] w1 ∧ ObE w.heap.size [b, b2] w1 o' c' q.es, cntMw p4.toNat 0,
    fun wr21 hx21 _ => ⟨0, q, o2, C2, rfl, by omega, hq, hsj.mono (by omega), (S18.step hx21).mono (by omega), hO18.step hx21⟩, ?_⟩
  rintro i4 f4 cu4 r4 o4 L4 C4 w17 hs17' ⟨m, q4, o', c', he, hm, hq4, hs4, S20, hO20⟩
  simp only [List.cons.injEq, Value.int.injEq, Value.slice.injEq, true_and, and_true] at he
  obtain ⟨rfl, rfl, rfl, rfl, rfl, rfl, rfl⟩ := he
  refine ⟨fun hlt wr22 hx22 hs22 => ?_, fun hge4 wr25 hx25 => ⟨q4, o4, C4, rfl, hq4, hs4.mono (by omega), (hO20.step hx25).own, (S20.step hx25).rd.mono (by omega), (S20.step hx25).ext⟩⟩
  have hlt := of_decide_eq_true hlt
  have S22 := S20.step hx22
  have hO22 := hO20.step hx22
  refine (k_op S22.rd (by omega)).mono fun e w18 ⟨op, he, hr18, hx18⟩ => ⟨op.kind, op.at', op.n, he, S22.kept hx18 hs22, rfl, fun wr23 hx23 hs23 => ?_⟩
  have S23 := (S22.draw hr18 hx18).step hx23
  have hO23 := (S22.ob hO22 hx18).step hx23
  refine (k_spec_QueueDo (op := op) (hO23.rd0 elt_Entry.len)).mono fun e w19 ⟨v, he, o5, c5, hv, hO5, hx5⟩ => ?_
  subst hv
  have hO24 : ObE w.heap.size [b, b2] w19 o5 c5 _ := (Ob.of hO5 hs23).mono S23.bw
  exact ⟨_, _, _, _, _, _, _, he, kept_of hx5 hs23, ⟨by omega, by omega⟩, fun wr24 hx24 _ => ⟨⟨m + 1, _, o5, c5, by simp, by omega, do_ok hq4 _, (sml_do hq4 hs4 _).mono (by omega), ((S23.call0 hx5).step hx24).mono (by omega), hO24.step hx24⟩, cntM_lt (k := m) rfl rfl (by omega)⟩⟩
end
end Go.Proofs.Ythihcdljmddgfaa
