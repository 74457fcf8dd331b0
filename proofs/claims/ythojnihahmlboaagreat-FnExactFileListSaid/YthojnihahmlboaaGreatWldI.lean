/- Worlds: the program's functions that read one. -/
import Derived.Test.YthojnihahmlboaaGreatWldT
namespace Go.Proofs.YthojnihahmlboaaGreat
open Go.RowKit
set_option linter.unusedVariables false
set_option linter.unusedSimpArgs false
set_option maxRecDepth 10000

theorem cntM_ltW {n p : Nat} {vs us : List Value} {k : Nat} (h1 : ctrAt p vs = (k : Int) + 1) (h2 : ctrAt p us = (k : Int)) (hk : k < n) : cntM n p vs < cntM n p us := by
  unfold cntM
  rw [h1, h2]
  omega
theorem all_giW {α : Type} [Inhabited α] {l : List α} {p : α → Bool} : l.all p = true ↔ ∀ k : Nat, k < l.length → p (gi l (k : Int)) = true := by
  rw [List.all_eq_true]
  constructor
  · intro h k hk; exact h _ (gi_mem (by omega) (by omega))
  · intro h x hx
    obtain ⟨k, hk, rfl⟩ := List.getElem_of_mem hx
    rw [← gi_lt hk]; exact h k hk
theorem rdI_blkW {bs : List Nat} {w : World} {b : Nat} {l : List Int} {t : TypeId} {fz : Nat × Nat} (h : w.heap[b]? = some (.cells (l.flatMap encI).toArray t fz)) (hb : b ∉ bs) : RdI bs w (some ⟨b, 0, none⟩) l := fun i h0 hi => by
  have hlt : i.toNat < l.length := by omega
  refine cellX_blk h hb (k0 := 0) ?_
  have := flat_get (enc := encI) (z := 1) (fun _ => rfl) l i.toNat 0 hlt (by decide)
  rw [Nat.add_zero] at this
  rw [Nat.zero_add, this]
  have e : gi l i = l[i.toNat] := by
    have := gi_lt hlt
    rwa [show ((i.toNat : Nat) : Int) = i by omega] at this
  rw [e]; rfl
theorem k_timeOkW {l : List Int} {o : Option Addr} {c : Nat} {w : World} {bs : List Nat} (h : RdI bs w o l) (hl : l.length ≤ maxLen) : PureX bs Tryz.prog fn_impl_timeOk #[.slice o l.length c] w (.bool (l.all tmOk)) :=
  p_impl_timeOk o l.length c fun wr hx => by
    have h := (h.ext hx).less (cs := []) (by simp)
    refine loop1 l.length 0 rfl (fun k => k ≤ l.length ∧ ∀ j : Nat, j < k → tmOk (gi l (j : Int)) = true) ⟨Nat.zero_le _, fun j hj => absurd hj (Nat.not_lt_zero j)⟩ fun k ⟨hk, hI⟩ => ⟨fun hlt => ?_, fun hge => ?_⟩
    · have hlt := of_decide_eq_true hlt
      refine ⟨h.ix encI_c (by omega) hlt, _, h k (by omega) hlt, _, k_impl_inRange, fun g => ?_, fun g => ⟨inR_nat hlt hl, loop1_next (by omega) ⟨by omega, fun j hj => ?_⟩⟩⟩
      · have : l.all tmOk = false := by
          cases hb : l.all tmOk with
          | false => rfl
          | true =>
            have := all_giW.1 hb k (by omega)
            unfold tmOk at this
            rw [this] at g
            cases g
        rw [this]
      · by_cases hjk : j < k
        · exact hI j hjk
        · have : j = k := by omega
          subst this
          unfold tmOk
          simpa using g
    · have hge := of_decide_eq_false hge
      have hk : k = l.length := by omega
      subst hk
      rw [all_giW.2 hI]
theorem tm1 {a : Int} {w : World} {b : Nat} {t : TypeId} {fz : Nat × Nat} (h : w.heap[b]? = some (.cells ([.int .i64 a] : List Value).toArray t fz)) : PureX [] Tryz.prog fn_impl_timeOk #[.slice (some ⟨b, 0, none⟩) 1 1] w (.bool (tmOk a)) := by
  have := k_timeOkW (l := [a]) (c := 1) (bs := []) (rdI_blkW h (by simp)) (by simp [maxLen])
  simpa using this
theorem tm2 {a b2 : Int} {w : World} {b : Nat} {t : TypeId} {fz : Nat × Nat} (h : w.heap[b]? = some (.cells ([.int .i64 a, .int .i64 b2] : List Value).toArray t fz)) : PureX [] Tryz.prog fn_impl_timeOk #[.slice (some ⟨b, 0, none⟩) 2 2] w (.bool (tmOk a && tmOk b2)) := by
  have := k_timeOkW (l := [a, b2]) (c := 2) (bs := []) (rdI_blkW h (by simp)) (by simp [maxLen])
  simpa using this
theorem tm3 {a b2 b3 : Int} {w : World} {b : Nat} {t : TypeId} {fz : Nat × Nat} (h : w.heap[b]? = some (.cells ([.int .i64 a, .int .i64 b2, .int .i64 b3] : List Value).toArray t fz)) : PureX [] Tryz.prog fn_impl_timeOk #[.slice (some ⟨b, 0, none⟩) 3 3] w (.bool (tmOk a && (tmOk b2 && tmOk b3))) := by
  have := k_timeOkW (l := [a, b2, b3]) (c := 3) (bs := []) (rdI_blkW h (by simp)) (by simp [maxLen])
  simpa using this
theorem k_impl_okM {m : Int} {w : World} {bs : List Nat} : PureX bs Tryz.prog fn_impl_cpuSet_ok #[.int .i64 m] w (.bool (mOk m)) := p_impl_cpuSet_ok m fun wr hx => rfl
theorem k_impl_MaskOk {m : Int} {w : World} {bs : List Nat} : PureX bs Tryz.prog fn_impl_MaskOk #[.int .i64 m] w (.bool (mOk m)) := p_impl_MaskOk m fun wr hx => ⟨_, k_impl_okM, rfl⟩
theorem k_impl_maskFull {m : Int} {w : World} {bs : List Nat} : PureX bs Tryz.prog fn_impl_maskFull #[.int .i64 m] w (.bool ((m != 0) && mOk m)) := p_impl_maskFull m fun wr hx => ⟨_, fun _ => k_impl_MaskOk, rfl⟩
theorem has_fin : ∀ (m : Fin 16) (c : Fin 4), (BitI .and .i64 (Int.fdiv (m.val : Int) (2 ^ (min (Int.toNat (c.val : Int)) 64))) 1 == 1) = (Int.tmod (Int.fdiv (m.val : Int) (2 ^ (min (Int.toNat (c.val : Int)) 64))) 2 == 1) := by decide +kernel
theorem k_impl_has {m c : Int} {w : World} {bs : List Nat} : PureX bs Tryz.prog fn_impl_cpuSet_has #[.int .i64 m, .int .i64 c] w (.bool (mHas m c)) :=
  p_impl_cpuSet_has m c fun wr hx => by
    refine ⟨_, k_impl_okM, _, fun _ => k_impl_inRange, fun g => ?_, ?_⟩
    · simp only [Bool.and_eq_true] at g
      exact (inB_t.1 g.2).1
    · unfold mHas
      cases h1 : mOk m with
      | false => rfl
      | true =>
        cases h2 : inB c 0 3 with
        | false => rfl
        | true =>
          obtain ⟨x, rfl⟩ := fin16 h1
          have := inB_t.1 h2
          have e := has_fin x ⟨c.toNat, by omega⟩
          rw [show ((⟨c.toNat, by omega⟩ : Fin 4).val : Int) = c by show ((c.toNat : Nat) : Int) = c; omega] at e
          rw [e]
theorem k_impl_MaskHas {m c : Int} {w : World} {bs : List Nat} : PureX bs Tryz.prog fn_impl_MaskHas #[.int .i64 m, .int .i64 c] w (.bool (mHas m c)) := p_impl_MaskHas m c fun wr hx => ⟨_, k_impl_has, rfl⟩
theorem k_impl_MaskAnd {a b : Int} {w : World} {bs : List Nat} : PureX bs Tryz.prog fn_impl_MaskAnd #[.int .i64 a, .int .i64 b] w (.int .i64 (mAnd a b)) :=
  p_impl_MaskAnd a b fun wr hx => by
    refine ⟨_, k_impl_MaskOk, _, fun _ => k_impl_MaskOk, fun g => ?_, fun g => ?_⟩
    · rw [mAnd_out]; simpa using g
    · simp only [Bool.or_eq_false_iff, Bool.not_eq_false'] at g
      rw [mAnd_in g.1 g.2]
theorem k_impl_bandZero {b : Bnd} {m : MG} {w : World} {bs : List Nat} : PureX bs Tryz.prog fn_impl_bandZero #[.agg (encBd b m).toArray] w (.bool (noBand b)) :=
  p_impl_bandZero b.quota b.pool b.spent m.lO b.locals.length m.lC m.dO b.dry.length m.dC fun wr hx => fun _ _ => rfl
theorem k_impl_groupZero {g : Grp} {m : MG} {w : World} {bs : List Nat} (hu : g.used = false) : PureX bs Tryz.prog fn_impl_groupZero #[.agg (encG g m).toArray] w (.bool (decB (GrpN g))) :=
  p_impl_groupZero g.used g.parent g.name g.weight g.cpus g.period g.next g.sum g.band.quota g.band.pool g.band.spent m.lO g.band.locals.length m.lC m.dO g.band.dry.length m.dC m.sO g.shelves.length m.sC fun wr hx => by
    intro _ _
    refine ⟨_, fun _ => k_impl_bandZero (b := g.band) (m := m), boolP ?_⟩
    simp only [hu, Bool.not_false, Bool.true_and, Bool.and_eq_true, beq_iff_eq, strEq_iff]
    constructor
    · rintro ⟨⟨⟨⟨⟨⟨⟨⟨e1, e2⟩, e3⟩, e4⟩, e5⟩, e6⟩, e7⟩, e9⟩, e8⟩
      exact ⟨e1, e2, e3, e4, e5, e6, e7, by omega, e9⟩
    · intro q
      exact ⟨⟨⟨⟨⟨⟨⟨⟨q.p, q.n⟩, q.w⟩, q.c⟩, q.pe⟩, q.ne⟩, q.s⟩, q.b⟩, by have := q.l; omega⟩
theorem k_impl_BandOk {b : Bnd} {m : MG} {w : World} {bs : List Nat} (h1 : RdI bs w m.lO b.locals) (h2 : RdB bs w m.dO b.dry) (hl : b.locals.length ≤ maxLen) : PureX bs Tryz.prog fn_impl_BandOk #[.agg (encBd b m).toArray] w (.bool (decB (BndP b))) :=
  p_impl_BandOk b.quota b.pool b.spent m.lO b.locals.length m.lC m.dO b.dry.length m.dC fun wr hx => by
    have h1 := (h1.ext hx).less (cs := []) (by simp)
    have h2 := (h2.ext hx).less (cs := []) (by simp)
    intro _ _
    refine ⟨_, k_impl_inRange, _, fun _ => k_impl_inRange, fun g => noP fun p => ?_, fun g => ⟨_, k_impl_inRange, _, fun _ => k_impl_inRange, fun g' => noP fun p => ?_, fun g' => ?_⟩⟩
    · rw [inB_t.2 ⟨p.q1, p.q2⟩, inB_t.2 (by have := p.l1; have := p.l2; omega), p.dl] at g
      simp at g
    · rw [inB_t.2 ⟨p.p1, p.p2⟩, inB_t.2 ⟨p.s1, p.s2⟩] at g'
      cases g'
    · simp only [Bool.or_eq_false_iff, Bool.not_eq_false', bne_eq_false_iff_eq, inB_t] at g g'
      obtain ⟨⟨g1, g2⟩, g3⟩ := g
      obtain ⟨g4, g5⟩ := g'
      have hdl : b.dry.length = b.locals.length := by omega
      have all : ∀ {k : Nat}, k ≤ b.locals.length → (∀ c : Int, 0 ≤ c → c < (k : Int) → 0 ≤ gi b.locals c ∧ gi b.locals c ≤ b.quota ∧ (gi b.dry c = true → gi b.locals c = 0 ∧ b.pool = 0)) → 0 ≤ sumI b.locals k ∧ sumI b.locals k ≤ 40000 := fun {k} hk h => by
        have key : ∀ j : Nat, j ≤ k → 0 ≤ sumI b.locals j ∧ sumI b.locals j ≤ (j : Int) * 10000 := fun j => by
          induction j with
          | zero => intro _; simp [sumI]
          | succ j ih =>
            intro hj
            have := ih (by omega)
            have := h (j : Int) (by omega) (by omega)
            simp only [sumI]; omega
        have := key k (Nat.le_refl _)
        omega
      refine ⟨⟨by omega, by omega⟩, ?_⟩
      refine loop2 b.locals.length 0 rfl (fun x k => k ≤ b.locals.length ∧ x = b.pool + b.spent + sumI b.locals k ∧ ∀ c : Int, 0 ≤ c → c < (k : Int) → 0 ≤ gi b.locals c ∧ gi b.locals c ≤ b.quota ∧ (gi b.dry c = true → gi b.locals c = 0 ∧ b.pool = 0)) ⟨Nat.zero_le _, by simp [sumI], fun c h0 h1 => by omega⟩ fun x k ⟨hk, hx2, hI⟩ => ⟨fun hlt => ?_, fun hge => ?_⟩
      · have hlt := of_decide_eq_true hlt
        have hlt2 : (k : Int) < (b.dry.length : Int) := by omega
        have hsr := all hk hI
        refine ⟨h1.ix encI_c (by omega) hlt, _, h1 k (by omega) hlt, _, k_impl_inRange, fun _ => h2.ix encB_c (by omega) hlt2, _, fun _ => h2 k (by omega) hlt2, fun g => noP fun p => ?_, fun g => ?_⟩
        · have pe := p.each (k : Int) (by omega) hlt
          rw [inB_t.2 ⟨pe.1, pe.2.1⟩] at g
          simp only [Bool.not_true, Bool.false_or, Bool.and_eq_true, Bool.or_eq_true, bne_iff_ne] at g
          have := pe.2.2 g.1
          rcases g.2 with h | h
          · exact h this.1
          · exact h this.2
        · simp only [Bool.or_eq_false_iff, Bool.not_eq_false', inB_t] at g
          obtain ⟨ga, gb⟩ := g
          refine ⟨⟨by omega, by omega⟩, ⟨by omega, by omega⟩, loop2_next (by omega) ⟨by omega, by simp only [sumI]; omega, fun c hc0 hc => ?_⟩⟩
          by_cases hck : c < (k : Int)
          · exact hI c hc0 hck
          · have : c = (k : Int) := by omega
            subst this
            refine ⟨ga.1, ga.2, fun hd => ?_⟩
            rw [hd] at gb
            simp only [Bool.true_and, Bool.or_eq_false_iff, bne_eq_false_iff_eq] at gb
            exact gb
      · have hge := of_decide_eq_false hge
        have : k = b.locals.length := by omega
        subst this
        refine boolP ?_
        rw [beq_iff_eq, hx2]
        constructor
        · intro hs
          exact ⟨g1.1, g1.2, by omega, by omega, hdl, g4.1, g4.2, g5.1, g5.2, hI, hs⟩
        · exact fun p => p.sum
def standP (v f k : Int) : Bool := decide (v ≥ f) && decide (v - f ≤ lagMost k)
theorem wrap_in {a b : Int} (ha : tmOk a = true) (hb : tmOk b = true) : IntKind.i64.wrap (a - b) = a - b := (inR_tm ha hb).wrap
theorem stand_in {v f k : Int} (hv : tmOk v = true) (hf : tmOk f = true) : standW v f k = standP v f k := by unfold standW standP; rw [wrap_in hv hf]
theorem k_impl_placedW {v f k : Int} {w : World} {bs : List Nat} (h : tmOk v = true) (hf : tmOk f = true) : PureX bs Tryz.prog fn_impl_placed #[.int .i64 v, .int .i64 f, .int .i64 k] w (.bool (standW v f k)) := by
  rw [stand_in h hf]
  exact p_impl_placed v f k fun wr hx => ⟨fun _ => inR_tm h hf, _, fun _ => k_impl_LagMost, rfl⟩
theorem k_impl_loadOk {n : Int} {w : World} {bs : List Nat} : PureX bs Tryz.prog fn_impl_loadOk #[.int .i64 n] w (.bool (inB n 0 8000000)) := p_impl_loadOk n fun wr hx => ⟨_, k_impl_inRange, rfl⟩

/-! ### A world that stands in memory -/
structure WPt (bs : List Nat) (w : World) (p : Option Addr) (W : Wld) (m : MW) : Prop where
  cs : CellsX bs w p 0 (encW W m)
  rd : RdW bs w W m
theorem cell_atW {bs : List Nat} {w : World} {o : Option Addr} {n : Nat} {vs : List Value} (h : CellsX bs w o n vs) {j : Nat} {v : Value} (hj : vs[j]? = some v) : CellsX bs w (o.map (·.add n)) (0 + j) [v] := by
  obtain ⟨a, ha, hb, hc⟩ := h.get j v hj
  refine cellsX_one ⟨a.add n, by rw [ha]; rfl, by rw [add_block]; exact hb, ?_⟩
  rw [add_add', Nat.zero_add]; exact hc
theorem some_atW {bs : List Nat} {w : World} {o : Option Addr} {n k : Nat} {v : Value} {r : List Value} (h : CellsX bs w o k (v :: r)) : (o.map (·.add n)).isSome = true := by
  have := h.some
  cases o with
  | none => cases this
  | some a => rfl
section
variable {W : Wld} {m : MW} {w w' : World} {bs cs : List Nat} {p : Option Addr}
theorem WPt.ext (h : WPt bs w p W m) (hx : ExtX bs w w') : WPt bs w' p W m := ⟨h.cs.ext hx, h.rd.ext hx⟩
theorem WPt.less (h : WPt bs w p W m) (hs : ∀ x ∈ cs, x ∈ bs) : WPt cs w p W m := ⟨h.cs.less hs, h.rd.less hs⟩
theorem WPt.wide (h : WPt bs w p W m) (hs : ∀ x ∈ cs, x ∈ bs ∨ w.heap.size ≤ x) : WPt cs w p W m := ⟨h.cs.wide hs, h.rd.wide hs⟩
theorem WPt.some (h : WPt bs w p W m) : p.isSome = true := by
  have h1 := h.cs.get 0 _ (rfl : (encW W m)[0]? = Option.some (.int .i64 W.now))
  obtain ⟨a, rfl, _⟩ := h1
  rfl
theorem WPt.c (h : WPt bs w p W m) {j : Nat} {v : Value} (hj : (encW W m)[j]? = Option.some v) : CellsX bs w p (0 + j) [v] := cellsX_one (h.cs.get j v hj)
theorem WPt.now (h : WPt bs w p W m) : CellsX bs w p (0 + 0) [.int .i64 W.now] := h.c rfl
theorem WPt.cpus (h : WPt bs w p W m) : CellsX bs w p (0 + 1) [.slice m.cO W.cpus.length m.cC] := h.c rfl
theorem WPt.tasks (h : WPt bs w p W m) : CellsX bs w p (0 + 2) [.slice m.tO W.tasks.length m.tC] := h.c rfl
theorem WPt.groups (h : WPt bs w p W m) : CellsX bs w p (0 + 3) [.slice m.gO W.groups.length m.gC] := h.c rfl
def shO (m : MW) (g c : Int) : Option Addr := (m.ms g.toNat).sO.map (·.add (Int.toNat c * 5))
theorem WPt.sh (h : WPt bs w p W m) {g c : Int} (g0 : 0 ≤ g) (g1 : g < (W.groups.length : Int)) (c0 : 0 ≤ c) (c1 : c < ((gi W.groups g).shelves.length : Int)) : (shO m g c).isSome = true ∧ ∀ {j : Nat} {v : Value}, (encS (shf W g c))[j]? = Option.some v → CellsX bs w (shO m g c) (0 + j) [v] :=
  ⟨some_atW (h.rd.g.shelves g g0 g1 c c0 c1), fun {j v} hj => cell_atW (h.rd.g.shelves g g0 g1 c c0 c1) hj⟩
theorem k_impl_lane {c : Int} : PureX bs Tryz.prog fn_impl_World_lane #[.pointer p, .int .i64 c] w (.agg #[.pointer p, .int .i64 c]) := p_impl_World_lane p c fun wr hx => fun _ _ => rfl
theorem k_impl_shelf {g c : Int} (h : WPt bs w p W m) (g0 : 0 ≤ g) (g1 : g < (W.groups.length : Int)) (c0 : 0 ≤ c) (c1 : c < ((gi W.groups g).shelves.length : Int)) : PureX bs Tryz.prog fn_impl_lane_shelf #[.agg #[.pointer p, .int .i64 c], .int .i64 g] w (.pointer (shO m g c)) :=
  p_impl_lane_shelf p c g fun wr hx => by
    have h := (h.ext hx).less (cs := []) (by simp)
    exact fun _ _ => ⟨h.some, _, _, _, h.groups, h.rd.g.ix g0 g1, _, _, _, h.rd.g.shelf g0 g1, (h.rd.g.shelves g g0 g1).ix encS_c c0 c1, rfl⟩
theorem k_impl_cpu {c : Int} (h : WPt bs w p W m) (c0 : 0 ≤ c) (c1 : c < (W.cpus.length : Int)) : PureX bs Tryz.prog fn_impl_lane_cpu #[.agg #[.pointer p, .int .i64 c]] w (.pointer (m.cO.map (·.add (Int.toNat c * 5)))) :=
  p_impl_lane_cpu p c fun wr hx => by
    have h := (h.ext hx).less (cs := []) (by simp)
    exact fun _ _ => ⟨h.some, _, _, _, h.cpus, h.rd.c.ix encC_c c0 c1, rfl⟩
theorem k_impl_cpuThere {c : Int} (h : WPt bs w p W m) (hl : W.cpus.length ≤ maxLen) : PureX bs Tryz.prog fn_impl_World_cpuThere #[.pointer p, .int .i64 c] w (.bool (inB c 0 ((W.cpus.length : Int) - 1))) :=
  p_impl_World_cpuThere p c fun wr hx => by
    have h := (h.ext hx).less (cs := []) (by simp)
    have := maxLen_le
    exact ⟨h.some, _, _, _, h.cpus, ⟨by omega, by omega⟩, _, k_impl_inRange, rfl⟩
theorem k_impl_taskThere {t : Int} (h : WPt bs w p W m) (hl : W.tasks.length ≤ maxLen) : PureX bs Tryz.prog fn_impl_World_taskThere #[.pointer p, .int .i64 t] w (.bool (inB t 0 ((W.tasks.length : Int) - 1) && ((tkk W t).state != 0))) :=
  p_impl_World_taskThere p t fun wr hx => by
    have h := (h.ext hx).less (cs := []) (by simp)
    have := maxLen_le
    have hr : inB t 0 ((W.tasks.length : Int) - 1) = true → 0 ≤ t ∧ t < (W.tasks.length : Int) := fun g => by have := inB_t.1 g; omega
    exact ⟨h.some, _, _, _, h.tasks, ⟨by omega, by omega⟩, _, k_impl_inRange, fun _ => h.some, _, _, _, fun _ => h.tasks, fun g => h.rd.t.ix encT_c (hr g).1 (hr g).2, _, fun g => h.rd.t.f (hr g).1 (hr g).2 (j := 0) rfl, rfl⟩
theorem k_impl_online (h : WPt bs w p W m) (h4 : W.cpus.length ≤ 4) : PureX bs Tryz.prog fn_impl_World_online #[.pointer p] w (.int .i64 (upsD W.cpus)) :=
  p_impl_World_online p fun wr hx => by
    have h := (h.ext hx).less (cs := []) (by simp)
    refine ⟨h.some, _, _, _, h.cpus, ?_⟩
    refine loop2 W.cpus.length 0 rfl (fun x k => k ≤ W.cpus.length ∧ x = upsN W.cpus k) ⟨Nat.zero_le _, rfl⟩ fun x k ⟨hk, hx2⟩ => ⟨fun hlt => ?_, fun hge => ?_⟩
    · have hlt := of_decide_eq_true hlt
      have hb := bit_le (k := k) (by omega)
      have hl := upsN_lt W.cpus k (by omega)
      have hbd : (1 * 2 ^ (min (Int.toNat (k : Int)) 64) : Int) = bitN k := rfl
      refine ⟨h.rd.c.ix encC_c (by omega) hlt, _, _, _, _, _, h.rd.c k (by omega) hlt, fun _ _ => ⟨fun hu => ?_, fun hu => ?_⟩⟩
      · rw [hbd, hx2, or_bit (by omega) hl.1 hl.2]
        refine ⟨⟨by omega, by omega, by omega⟩, ⟨by omega, by omega⟩, loop2_next (by omega) ⟨by omega, ?_⟩⟩
        simp only [upsN]; rw [if_pos hu]
      · refine ⟨⟨by omega, by omega⟩, loop2_next (by omega) ⟨by omega, ?_⟩⟩
        rw [hx2]; simp only [upsN]; rw [if_neg (by rw [hu]; decide)]
    · have hge := of_decide_eq_false hge
      have : k = W.cpus.length := by omega
      subst this
      rw [hx2]; rfl
theorem k_impl_pins {g : Int} (h : WPt bs w p W m) (h4 : W.cpus.length ≤ 4) (ht : TreeP W.groups) (hu : usedD W.groups g = true) : PureX bs Tryz.prog fn_impl_World_pins #[.pointer p, .int .i64 g] w (.int .i64 (pinD W.groups g (upsD W.cpus))) :=
  p_impl_World_pins p g fun wr hx => by
    have h := (h.ext hx).less (cs := []) (by simp)
    have hr : usedD W.groups 0 = true := usedD_iff.2 ⟨by decide, by have := ht.len; omega, ht.ru⟩
    obtain ⟨r1, r2, _⟩ := usedD_iff.1 hr
    refine ⟨_, k_impl_online h h4, fun vs => ∃ (x s : Int), vs = [.int .i64 x, .int .i64 s] ∧ usedD W.groups x = true ∧ pinD W.groups x s = pinD W.groups g (upsD W.cpus), fun vs => (dep 3 W.groups (ctrAt 0 vs)).toNat, ⟨g, _, rfl, hu, rfl⟩, ?_⟩
    rintro x s ⟨x', s', he, hux, hI⟩
    simp only [List.cons.injEq, Value.int.injEq, true_and, and_true] at he
    obtain ⟨rfl, rfl⟩ := he
    refine ⟨fun hz => ?_, fun hz => ?_⟩
    · have hz : x ≠ 0 := by simpa using hz
      obtain ⟨hp, a, b, d, e, e2, hd⟩ := climb ht hux hz
      unfold pinD at hI
      rw [path_step ht hux hz, List.cons_append, List.foldl_cons] at hI
      exact ⟨h.some, _, _, _, h.groups, h.rd.g.ix a b, _, h.rd.g.cpus a b, _, k_impl_MaskAnd, h.some, _, _, _, h.groups, h.rd.g.ix a b, _, h.rd.g.parent a b, ⟨_, _, rfl, hp, hI⟩, by
        show (dep 3 W.groups (gi W.groups x).parent).toNat < (dep 3 W.groups x).toNat
        omega⟩
    · have hz : x = 0 := by simpa using hz
      subst hz
      unfold pinD at hI
      rw [show pathW W.groups 0 = [] from path_root _ _] at hI
      refine ⟨h.some, _, _, _, h.groups, h.rd.g.ix r1 r2, _, h.rd.g.cpus r1 r2, _, k_impl_MaskAnd, ?_⟩
      unfold pinD
      rw [← hI]; rfl
theorem k_impl_allowedIn {g mask : Int} (h : WPt bs w p W m) (h4 : W.cpus.length ≤ 4) (ht : TreeP W.groups) (hu : usedD W.groups g = true) : PureX bs Tryz.prog fn_impl_World_allowedIn #[.pointer p, .int .i64 mask, .int .i64 g] w (.int .i64 (whereD W g mask)) :=
  p_impl_World_allowedIn p mask g fun wr hx => by
    have h := (h.ext hx).less (cs := []) (by simp)
    refine ⟨_, k_impl_pins h h4 ht hu, _, k_impl_MaskAnd, fun g1 => ?_, fun g1 => ⟨fun g2 => ?_, fun g2 => ⟨_, k_impl_online h h4, ?_⟩⟩⟩
    · unfold whereD; rw [if_pos (by simpa using g1)]
    · unfold whereD; rw [if_neg (by simpa using g1), if_pos (by simpa using g2)]
    · unfold whereD; rw [if_neg (by simpa using g1), if_neg (by simpa using g2)]
theorem k_impl_allowed {t : Int} (h : WPt bs w p W m) (h4 : W.cpus.length ≤ 4) (ht : TreeP W.groups) (t0 : 0 ≤ t) (t1 : t < (W.tasks.length : Int)) (hu : usedD W.groups (tkk W t).group = true) : PureX bs Tryz.prog fn_impl_World_allowed #[.pointer p, .int .i64 t] w (.int .i64 (whereD W (tkk W t).group (tkk W t).mask)) :=
  p_impl_World_allowed p t fun wr hx => by
    have h := (h.ext hx).less (cs := []) (by simp)
    exact ⟨h.some, _, _, _, h.tasks, h.rd.t.ix encT_c t0 t1, _, h.rd.t.f t0 t1 (j := 4) rfl, h.some, _, _, _, h.tasks, h.rd.t.ix encT_c t0 t1, _, h.rd.t.f t0 t1 (j := 1) rfl, _, k_impl_allowedIn h h4 ht hu, rfl⟩
theorem k_impl_queues {t c g : Int} (h : WPt bs w p W m) (t0 : 0 ≤ t) (t1 : t < (W.tasks.length : Int)) : PureX bs Tryz.prog fn_impl_lane_queues #[.agg #[.pointer p, .int .i64 c], .int .i64 t, .int .i64 g] w (.bool (actT W g c t.toNat)) :=
  p_impl_lane_queues p c t g fun wr hx => by
    have h := (h.ext hx).less (cs := []) (by simp)
    refine fun _ _ => ⟨h.some, _, _, _, h.tasks, h.rd.t.ix encT_c t0 t1, _, _, _, _, _, _, _, _, _, h.rd.t t t0 t1, fun _ _ => ?_⟩
    unfold actT
    rw [show ((t.toNat : Nat) : Int) = t by omega]
theorem k_impl_holds {k c g : Int} (h : WPt bs w p W m) (ha : WA W) (k0 : 0 ≤ k) (k1 : k < (W.groups.length : Int)) (c0 : 0 ≤ c) (c1 : c < (W.cpus.length : Int)) : PureX bs Tryz.prog fn_impl_lane_holds #[.agg #[.pointer p, .int .i64 c], .int .i64 k, .int .i64 g] w (.bool (actG W g c k.toNat)) :=
  p_impl_lane_holds p c k g fun wr hx => by
    have h := (h.ext hx).less (cs := []) (by simp)
    have hc : (((k != 0) && (gi W.groups k).used) && ((gi W.groups k).parent == g)) = true → c < ((gi W.groups k).shelves.length : Int) := fun q => by
      simp only [Bool.and_eq_true] at q
      rw [ha.sl (usedD_iff.2 ⟨k0, k1, q.1.2⟩)]; exact c1
    refine fun _ _ => ⟨fun _ => h.some, _, _, _, fun _ => h.groups, fun _ => h.rd.g.ix k0 k1, _, fun _ => h.rd.g.used k0 k1, fun _ => h.some, _, _, _, fun _ => h.groups, fun _ => h.rd.g.ix k0 k1, _, fun _ => h.rd.g.parent k0 k1, shO m k c, fun q => k_impl_shelf h k0 k1 c0 (hc q), fun q => (h.sh k0 k1 c0 (hc q)).1, (shf W k c).on, fun q => (h.sh k0 k1 c0 (hc q)).2 (j := 1) rfl, ?_⟩
    unfold actG
    rw [show ((k.toNat : Nat) : Int) = k by omega]
    have e : decide (1 ≤ k.toNat) = (k != 0) := by
      by_cases hk : k = 0
      · subst hk; rfl
      · rw [decide_eq_true (by omega), bne_iff_ne.2 hk]
    rw [e, Bool.and_assoc, Bool.and_assoc, Bool.and_assoc, Bool.and_assoc]
theorem k_impl_active {g c : Int} (h : WPt bs w p W m) (ha : WA W) (c0 : 0 ≤ c) (c1 : c < (W.cpus.length : Int)) : PureX bs Tryz.prog fn_impl_lane_active #[.agg #[.pointer p, .int .i64 c], .int .i64 g] w (.bool (activeD W g c)) :=
  p_impl_lane_active p c g fun wr hx => by
    have h := (h.ext hx).less (cs := []) (by simp)
    have hgl := ha.gl
    have ht := ha.t
    refine fun _ _ => ⟨h.some, _, _, _, h.tasks, ?_⟩
    refine loop1 W.tasks.length 0 rfl (fun k => k ≤ W.tasks.length ∧ ∀ j : Nat, j < k → actT W g c j = false) ⟨Nat.zero_le _, fun j hj => absurd hj (Nat.not_lt_zero j)⟩ fun k ⟨hk, hI⟩ => ⟨fun hlt => ?_, fun hge => ?_⟩
    · have hlt := of_decide_eq_true hlt
      refine ⟨_, k_impl_queues h (by omega) hlt, fun hy => ?_, fun hn => ⟨⟨by omega, by omega⟩, loop1_next (by omega) ⟨by omega, fun j hj => ?_⟩⟩⟩
      · rw [Int.toNat_natCast] at hy
        unfold activeD
        rw [anyB_t.2 ⟨k, by omega, hy⟩]; rfl
      · by_cases hjk : j < k
        · exact hI j hjk
        · have : j = k := by omega
          subst this
          rwa [Int.toNat_natCast] at hn
    · have hge := of_decide_eq_false hge
      have hno : anyB (actT W g c) W.tasks.length = false := anyB_f fun j hj => hI j (by omega)
      refine ⟨h.some, _, _, _, h.groups, ?_⟩
      refine loop1 W.groups.length 0 rfl (fun k => k ≤ W.groups.length ∧ ∀ j : Nat, j < k → actG W g c j = false) ⟨Nat.zero_le _, fun j hj => absurd hj (Nat.not_lt_zero j)⟩ fun k ⟨hk, hI⟩ => ⟨fun hlt => ?_, fun hge => ?_⟩
      · have hlt := of_decide_eq_true hlt
        refine ⟨_, k_impl_holds h ha (by omega) hlt c0 c1, fun hy => ?_, fun hn => ⟨⟨by omega, by omega⟩, loop1_next (by omega) ⟨by omega, fun j hj => ?_⟩⟩⟩
        · rw [Int.toNat_natCast] at hy
          unfold activeD
          rw [anyB_t.2 ⟨k, by omega, hy⟩, Bool.or_true]
        · by_cases hjk : j < k
          · exact hI j hjk
          · have : j = k := by omega
            subst this
            rwa [Int.toNat_natCast] at hn
      · have hge := of_decide_eq_false hge
        have : anyB (actG W g c) W.groups.length = false := anyB_f fun j hj => hI j (by omega)
        unfold activeD
        rw [hno, this]; rfl
theorem k_impl_dry {g c : Int} (h : WPt bs w p W m) (ha : WA W) (hu : usedD W.groups g = true) (c0 : 0 ≤ c) (c1 : c < (W.cpus.length : Int)) : PureX bs Tryz.prog fn_impl_lane_dry #[.agg #[.pointer p, .int .i64 c], .int .i64 g] w (.bool (dryD W g c)) :=
  p_impl_lane_dry p c g fun wr hx => by
    have h := (h.ext hx).less (cs := []) (by simp)
    obtain ⟨u1, u2, _⟩ := usedD_iff.1 hu
    have hd : (decide ((gi W.groups g).band.quota > 0)) = true → c < ((gi W.groups g).band.dry.length : Int) := fun g1 => by
      have := of_decide_eq_true g1
      rw [(ha.dl hu (by omega)).1]; exact c1
    exact fun _ _ => ⟨h.some, _, _, _, h.groups, h.rd.g.ix u1 u2, _, _, _, _, _, _, _, _, _, h.rd.g.band u1 u2, fun _ _ => ⟨fun g1 => (h.rd.g.dry g u1 u2).ix encB_c c0 (hd g1), _, fun g1 => (h.rd.g.dry g u1 u2) c c0 (hd g1), rfl⟩⟩
/-- The program's inLine also asks whether the task is on that processor. -/
theorem k_impl_inLine {t c : Int} (h : WPt bs w p W m) (ha : WA W) (t0 : 0 ≤ t) (t1 : t < (W.tasks.length : Int)) (c0 : 0 ≤ c) (c1 : c < (W.cpus.length : Int)) (hu : (tkk W t).state = 1 → usedD W.groups (tkk W t).group = true) :
    PureX bs Tryz.prog fn_impl_lane_inLine #[.agg #[.pointer p, .int .i64 c], .int .i64 t] w (.bool (((tkk W t).cpu == c) && lineD W t)) :=
  p_impl_lane_inLine p c t fun wr hx => by
    have h := (h.ext hx).less (cs := []) (by simp)
    refine fun _ _ => ⟨h.some, _, _, _, h.tasks, h.rd.t.ix encT_c t0 t1, _, _, _, _, _, _, _, _, _, h.rd.t t t0 t1, fun _ _ => ⟨fun g => ?_, fun g => ?_⟩⟩
    · have g' : (((tkk W t).state != 1) || ((tkk W t).cpu != c)) = true := g
      have : (((tkk W t).cpu == c) && lineD W t) = false := by
        unfold lineD
        simp only [Bool.or_eq_true, bne_iff_ne] at g'
        rcases g' with e | e
        · rw [beq_eq_false_iff_ne.2 e, Bool.false_and, Bool.and_false]
        · rw [beq_eq_false_iff_ne.2 e, Bool.false_and]
      rw [this]
    · have g' : (((tkk W t).state != 1) || ((tkk W t).cpu != c)) = false := g
      simp only [Bool.or_eq_false_iff, bne_eq_false_iff_eq] at g'
      obtain ⟨hs, hc⟩ := g'
      have hug := hu hs
      have hL : (((tkk W t).cpu == c) && lineD W t) = lineG W (tkk W t).group c := by
        unfold lineD; rw [beq_iff_eq.2 hs, beq_iff_eq.2 hc, Bool.true_and, Bool.true_and, hc]
      rw [hL]
      refine ⟨fun vs => ∃ x : Int, vs = [.int .i64 x] ∧ usedD W.groups x = true ∧ lineG W x c = lineG W (tkk W t).group c, fun vs => (dep 3 W.groups (ctrAt 0 vs)).toNat, ⟨_, rfl, hug, rfl⟩, ?_⟩
      rintro x ⟨x', he, hux, hI⟩
      simp only [List.cons.injEq, Value.int.injEq, true_and, and_true] at he
      subst he
      refine ⟨fun hz => ?_, fun hz => ?_⟩
      · have hz : x ≠ 0 := by simpa using hz
        obtain ⟨hp, a, b, d, e, e2, hd⟩ := climb ha.tree hux hz
        have hc1 : c < ((gi W.groups x).shelves.length : Int) := by rw [ha.sl hux]; exact c1
        unfold lineG at hI
        rw [path_step ha.tree hux hz, List.all_cons] at hI
        refine ⟨_, k_impl_shelf h a b c0 hc1, (h.sh a b c0 hc1).1, _, (h.sh a b c0 hc1).2 (j := 1) rfl, fun g2 => ?_, fun g2 => ⟨h.some, _, _, _, h.groups, h.rd.g.ix a b, _, h.rd.g.parent a b, ⟨_, rfl, hp, ?_⟩, by
          show (dep 3 W.groups (gi W.groups x).parent).toNat < (dep 3 W.groups x).toNat
          omega⟩⟩
        · have g2 : (shf W x c).on = false := by simpa using g2
          rw [g2, Bool.false_and] at hI
          unfold lineG
          rw [← hI]
        · have g2 : (shf W x c).on = true := by simpa using g2
          rw [g2, Bool.true_and] at hI
          exact hI
      · have hz : x = 0 := by simpa using hz
        subst hz
        unfold lineG at hI
        rw [show pathW W.groups 0 = [] from path_root _ _, List.all_nil] at hI
        unfold lineG
        rw [← hI]
end
end Go.Proofs.YthojnihahmlboaaGreat
