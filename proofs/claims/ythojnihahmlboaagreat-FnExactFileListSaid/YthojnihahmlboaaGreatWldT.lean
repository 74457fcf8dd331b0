/- Worlds: the reference's WorldOk. -/
import Derived.Test.YthojnihahmlboaaGreatWldS
namespace Go.Proofs.YthojnihahmlboaaGreat
open Go.RowKit
set_option linter.unusedVariables false
set_option linter.unusedSimpArgs false
set_option maxRecDepth 10000

theorem flat_Task : FlatT Tryz.prog ty_impl_Task := ⟨by kernel_rfl, by kernel_rfl, by kernel_rfl⟩
theorem fe_Task (a b : Tsk) : flatE Tryz.prog (Tryz.prog.fieldsOf ty_impl_Task).toList 0 (encT a) (encT b) = some ((a.state == b.state) && ((a.group == b.group) && ((a.cpu == b.cpu) && ((a.nice == b.nice) && ((a.mask == b.mask) && ((a.v == b.v) && ((a.sum == b.sum) && ((a.used == b.used) && ((a.load == b.load) && true))))))))) := by kernel_rfl
theorem tsk_beq {a b : Tsk} : ((a.state == b.state) && ((a.group == b.group) && ((a.cpu == b.cpu) && ((a.nice == b.nice) && ((a.mask == b.mask) && ((a.v == b.v) && ((a.sum == b.sum) && ((a.used == b.used) && ((a.load == b.load) && true))))))))) = decide (a = b) := by
  cases a; cases b
  simp only [Tsk.mk.injEq, Bool.and_true]
  rw [Bool.eq_iff_iff]
  simp only [Bool.and_eq_true, beq_iff_eq, decide_eq_true_eq]
section
variable {W : Wld} {m : MW} {w : World} {bs : List Nat}
theorem k_spec_l8GroupOk {k : Int} (h : RdW bs w W m) (hn : 0 ≤ W.now) (k0 : 0 ≤ k) (k1 : k < (W.groups.length : Int)) (hf : FitG (gi W.groups k)) : PureX bs Tryz.prog fn_spec_l8GroupOk #[.agg (encW W m).toArray, .int .i64 k] w (.bool (decB (GrpP W k))) :=
  p_spec_l8GroupOk W.now m.cO W.cpus.length m.cC m.tO W.tasks.length m.tC m.gO W.groups.length m.gC k fun wr hx => by
    have h := (h.ext hx).less (cs := []) (by simp)
    intro _ _
    refine ⟨h.g.ix k0 k1, _, _, _, _, _, _, _, _, _, _, _, _, _, _, _, _, _, _, _, _, h.g.cells k k0 k1, fun _ _ => ⟨fun g => ?_, fun g => ?_⟩⟩
    · have hu : (gi W.groups k).used = false := by simpa using g
      refine ⟨_, fun _ => k_spec_l8NoBand (b := (gi W.groups k).band) (m := m.ms k.toNat), boolP ?_⟩
      simp only [Bool.and_eq_true, beq_iff_eq, strEq_iff]
      constructor
      · rintro ⟨⟨⟨⟨⟨⟨⟨⟨e1, e2⟩, e3⟩, e4⟩, e5⟩, e6⟩, e7⟩, e8⟩, e9⟩
        exact ⟨fun _ => ⟨e1, e2, e3, e4, e5, e6, e7, by omega, e9⟩, fun hu' => by rw [hu'] at hu; cases hu⟩
      · intro p
        have q := p.1 hu
        exact ⟨⟨⟨⟨⟨⟨⟨⟨q.p, q.n⟩, q.w⟩, q.c⟩, q.pe⟩, q.ne⟩, q.s⟩, by have := q.l; omega⟩, q.b⟩
    · have hu : (gi W.groups k).used = true := by simpa using g
      have mk : GrpU W k (gi W.groups k) → GrpP W k := fun q => ⟨fun hu' => (by rw [hu'] at hu; cases hu), fun _ => q⟩
      refine ⟨_, k_spec_l1Weight, _, fun _ => k_spec_MaskOk, _, fun _ => k_spec_l4Time, fun g2 => noP fun p => ?_, fun g2 => ⟨fun g3 => noP fun p => ?_, fun g3 => ⟨fun g4 => ⟨_, k_spec_l8NoBand (b := (gi W.groups k).band) (m := m.ms k.toNat), boolP ?_⟩, fun g4 => ⟨_, k_spec_BandOk (b := (gi W.groups k).band) (m := m.ms k.toNat) (h.g.locals k k0 k1) (h.g.dry k k0 k1) hf.lo, _, fun _ => k_spec_l1In, fun g5 => ?_, boolP ?_⟩⟩⟩⟩
      · have q := p.2 hu
        have e1 : inB (gi W.groups k).weight 1 20 = true := inB_t.2 ⟨q.w1, q.w2⟩
        have e3 : ((gi W.groups k).cpus == 0) = false := by simpa using q.m0
        have e5 : (((gi W.groups k).shelves.length : Nat) : Int) = ((W.cpus.length : Nat) : Int) := by have := q.len; omega
        rw [e1, q.m, e3, q.s, e5] at g2
        simp at g2
      · have q := p.2 hu
        simp only [Bool.and_eq_true, beq_iff_eq] at g3
        have r := q.root g3.1
        rw [r.1, r.2.1, r.2.2] at g3
        simp at g3
      all_goals
        simp only [Bool.or_eq_false_iff, Bool.not_eq_false', bne_eq_false_iff_eq, inB_t, beq_eq_false_iff_ne] at g2
        obtain ⟨⟨⟨⟨a1, a2⟩, a3⟩, a4⟩, a5⟩ := g2
        have hlen : (gi W.groups k).shelves.length = W.cpus.length := by omega
        have hroot : k = 0 → (gi W.groups k).weight = 10 ∧ (gi W.groups k).cpus = 15 ∧ (gi W.groups k).band.quota = 0 := fun hk => by
          rw [beq_iff_eq.2 hk, Bool.true_and] at g3
          simp only [Bool.or_eq_false_iff, bne_eq_false_iff_eq] at g3
          exact ⟨g3.1.1, g3.1.2, g3.2⟩
      · have q0 : (gi W.groups k).band.quota = 0 := by simpa using g4
        simp only [Bool.and_eq_true, beq_iff_eq]
        constructor
        · rintro ⟨⟨e1, e2⟩, e3⟩
          exact mk ⟨a1.1, a1.2, a2, a3, a4, hlen, hroot, fun _ => ⟨e1, e2, e3⟩, fun hne => absurd q0 hne⟩
        · intro p
          have q := (p.2 hu).none q0
          exact ⟨⟨q.1, q.2.1⟩, q.2.2⟩
      · simp only [Bool.and_eq_true, beq_iff_eq, decide_eq_true_eq] at g5
        have := hf.nx
        exact ⟨by have := this.1; omega, by have := this.2; omega⟩
      · have q0 : (gi W.groups k).band.quota ≠ 0 := by simpa using g4
        simp only [Bool.and_eq_true, beq_iff_eq, decide_eq_true_eq, decB_t, inB_t]
        constructor
        · rintro ⟨⟨⟨⟨e1, e2⟩, e3⟩, e4⟩, e5⟩
          exact mk ⟨a1.1, a1.2, a2, a3, a4, hlen, hroot, fun hne => absurd hne q0, fun _ => ⟨e1, by omega, e3.1, e3.2, e4, e5⟩⟩
        · intro p
          have q := (p.2 hu).band q0
          exact ⟨⟨⟨⟨q.1, by have := q.2.1; omega⟩, q.2.2.1, q.2.2.2.1⟩, q.2.2.2.2.1⟩, q.2.2.2.2.2⟩
theorem cpu_of {W : Wld} (ha : WA W) {g mask c : Int} (hc : mHas (whereD W g mask) c = true) : 0 ≤ c ∧ c < (W.cpus.length : Int) := by
  have h1 := where_sub hc
  exact ⟨(mHas_range h1).2.1, (ups_has W.cpus _ ha.c2 h1).1⟩
theorem k_spec_l8TaskOk {t : Int} (h : RdW bs w W m) (ha : WA W) (t0 : 0 ≤ t) (t1 : t < (W.tasks.length : Int)) : PureX bs Tryz.prog fn_spec_l8TaskOk #[.agg (encW W m).toArray, .int .i64 t] w (.bool (decB (TskP W t))) :=
  p_spec_l8TaskOk W.now m.cO W.cpus.length m.cC m.tO W.tasks.length m.tC m.gO W.groups.length m.gC t fun wr hx => by
    have h := (h.ext hx).less (cs := []) (by simp)
    intro _ _
    have hgl := ha.gl
    have hm9 := maxLen_big
    refine ⟨h.t.ix encT_c t0 t1, _, _, _, _, _, _, _, _, _, h.t t t0 t1, fun _ _ => ⟨fun g => ?_, fun g => ?_⟩⟩
    · have hs : (gi W.tasks t).state = 0 := by simpa using g
      refine ⟨_, fun wq => run_eql_of flat_Task (fe_Task (gi W.tasks t) zeroT) _ _ wq, boolP ?_⟩
      rw [tsk_beq, decide_eq_true_eq]
      constructor
      · exact fun e => .inl ⟨hs, e⟩
      · rintro (⟨_, e⟩ | ⟨e, _⟩)
        · exact e
        · exact absurd hs e
    · have hs : (gi W.tasks t).state ≠ 0 := by simpa using g
      have no : ∀ {q : TskP W t}, TskU W (gi W.tasks t) := fun {q} => by
        rcases q with ⟨e, _⟩ | ⟨_, q⟩
        · exact absurd e hs
        · exact q
      refine ⟨_, fun _ => k_spec_l6Used (c := m.gC) h.g, _, fun _ => k_spec_WeightOf, _, fun _ => k_spec_MaskOk, fun g2 => noP fun p => ?_, fun g2 => ?_⟩
      · have q := no (q := p)
        have e3 : (weightOf (gi W.tasks t).nice == 0) = false := by simpa using q.n
        have e4 : ((gi W.tasks t).mask == 0) = false := by simpa using q.m0
        rw [q.g, e3, q.m, e4] at g2
        simp only [Bool.not_true, Bool.or_false, Bool.and_eq_true, bne_iff_ne] at g2
        have := q.st
        omega
      · simp only [Bool.or_eq_false_iff, Bool.not_eq_false', beq_eq_false_iff_ne] at g2
        obtain ⟨⟨⟨⟨a1, a2⟩, a3⟩, a4⟩, a5⟩ := g2
        have st : (gi W.tasks t).state = 1 ∨ (gi W.tasks t).state = 2 := by
          by_cases h1 : (gi W.tasks t).state = 1
          · exact .inl h1
          · refine .inr ?_
            have : ((gi W.tasks t).state != 1) = true := by simpa using h1
            rw [this, Bool.true_and] at a1
            simpa using a1
        refine ⟨_, k_spec_l4Time, _, fun _ => k_spec_l4Time, _, fun _ => k_spec_l4Time, _, fun _ => k_spec_l1In, whereD W (gi W.tasks t).group (gi W.tasks t).mask, fun _ => k_spec_l8Where h ha.c2 ha.tree a2, _, fun _ => k_spec_MaskHas, fun g3 => noP fun p => ?_, fun g3 => ?_⟩
        · have q := no (q := p)
          have e4 : inB (gi W.tasks t).load 0 8000000 = true := inB_t.2 ⟨q.l1, q.l2⟩
          rw [q.v, q.s, q.u, e4, q.c] at g3
          simp at g3
        · simp only [Bool.or_eq_false_iff, Bool.not_eq_false', inB_t] at g3
          obtain ⟨⟨⟨⟨b1, b2⟩, b3⟩, b4⟩, b5⟩ := g3
          obtain ⟨u1, u2, _⟩ := usedD_iff.1 a2
          obtain ⟨c0, c1⟩ := cpu_of ha b5
          have hsl := ha.sl a2
          have c2 : (gi W.tasks t).cpu < ((gi W.groups (gi W.tasks t).group).shelves.length : Int) := by omega
          refine ⟨fun _ => h.g.ix u1 u2, _, _, _, fun _ => h.g.shelf u1 u2, fun _ => (h.g.shelves _ u1 u2).ix encS_c c0 c2, _, fun _ => RdS.f (h.g.shelves _ u1 u2) c0 c2 (j := 0) rfl, _, fun _ => k_spec_WeightOf, _, fun _ => k_spec_l8Stand, boolP ?_⟩
          simp only [Bool.or_eq_true, beq_iff_eq]
          constructor
          · intro e
            exact .inr ⟨hs, ⟨st, a2, a3, a4, a5, b1, b2, b3, b4.1, b4.2, b5, fun e1 => by
              rcases e with e | e
              · have e : (gi W.tasks t).state = 2 := e
                have e1 : (gi W.tasks t).state = 1 := e1
                omega
              · exact e⟩⟩
          · intro p
            have q := no (q := p)
            rcases st with e | e
            · exact .inr (q.f e)
            · exact .inl e
theorem k_spec_l8ShelfOk {k c : Int} (h : RdW bs w W m) (ha : WA W) (k0 : 0 ≤ k) (k1 : k < (W.groups.length : Int)) (c0 : 0 ≤ c) (c2 : c < ((gi W.groups k).shelves.length : Int)) : PureX bs Tryz.prog fn_spec_l8ShelfOk #[.agg (encW W m).toArray, .int .i64 k, .int .i64 c] w (.bool (decB (ShfP W k c))) :=
  p_spec_l8ShelfOk W.now m.cO W.cpus.length m.cC m.tO W.tasks.length m.tC m.gO W.groups.length m.gC k c fun wr hx => by
    have h := (h.ext hx).less (cs := []) (by simp)
    intro _ _
    have hgl := ha.gl
    have hus : (gi W.groups k).used = true := by
      cases hu : (gi W.groups k).used with
      | true => rfl
      | false =>
        have := ((ha.grp k k0 (by omega)).1 hu).l
        omega
    have hu : usedD W.groups k = true := usedD_iff.2 ⟨k0, k1, hus⟩
    have hsl := ha.sl hu
    have c1 : c < (W.cpus.length : Int) := by omega
    refine ⟨h.g.ix k0 k1, _, _, _, _, _, _, _, _, _, _, _, _, _, _, _, _, _, _, _, _, h.g.cells k k0 k1, fun _ _ => ⟨(h.g.shelves k k0 k1).ix encS_c c0 c2, _, _, _, _, _, (h.g.shelves k k0 k1) c c0 c2, fun _ _ => ⟨_, k_spec_l4Time, _, fun _ => k_spec_l4Time, _, fun _ => k_spec_l4Time, _, fun _ => k_spec_l1Weight, fun g => noP fun p => ?_, fun g => ⟨fun g2 => boolP ?_, fun g2 => ⟨_, k_spec_l8Active h ha c0 c1, _, fun _ => k_spec_l8Dry h ha hu c0 c1, fun g3 => noP fun p => ?_, fun g3 => ?_⟩⟩⟩⟩⟩
    · have e1 := p.f
      have e2 := p.v
      have e3 := p.s
      have e4 : inB (shf W k c).w 1 20 = true := inB_t.2 ⟨p.w1, p.w2⟩
      have g' : (((!tmOk (shf W k c).floor || !tmOk (shf W k c).v) || !tmOk (shf W k c).sum) || !inB (shf W k c).w 1 20) = true := g
      rw [e1, e2, e3, e4] at g'
      cases g'
    · have g' : (((!tmOk (shf W k c).floor || !tmOk (shf W k c).v) || !tmOk (shf W k c).sum) || !inB (shf W k c).w 1 20) = false := g
      simp only [Bool.or_eq_false_iff, Bool.not_eq_false', inB_t] at g'
      obtain ⟨⟨⟨a1, a2⟩, a3⟩, a4⟩ := g'
      have hk : k = 0 := by simpa using g2
      show ((!(shf W k c).on && ((shf W k c).v == 0)) && ((shf W k c).w == 10)) = true ↔ _
      simp only [Bool.and_eq_true, Bool.not_eq_true', beq_iff_eq]
      constructor
      · rintro ⟨⟨e1, e2⟩, e3⟩
        exact ⟨a1, a2, a3, a4.1, a4.2, fun _ => ⟨e1, e2, e3⟩, fun hne => absurd hk hne, fun hne => absurd hk hne⟩
      · intro p
        have q := p.root hk
        exact ⟨⟨q.1, q.2.1⟩, q.2.2⟩
    · have hk : k ≠ 0 := by simpa using g2
      have g3' : (!((shf W k c).on == (activeD W k c && !dryD W k c))) = true := g3
      rw [p.on hk] at g3'
      simp at g3'
    · have g' : (((!tmOk (shf W k c).floor || !tmOk (shf W k c).v) || !tmOk (shf W k c).sum) || !inB (shf W k c).w 1 20) = false := g
      simp only [Bool.or_eq_false_iff, Bool.not_eq_false', inB_t] at g'
      obtain ⟨⟨⟨a1, a2⟩, a3⟩, a4⟩ := g'
      have hk : k ≠ 0 := by simpa using g2
      have hon : (shf W k c).on = (activeD W k c && !dryD W k c) := by
        have g3' : (!((shf W k c).on == (activeD W k c && !dryD W k c))) = false := g3
        simpa using g3'
      have hp := ha.up hu hk
      obtain ⟨v1, v2, _⟩ := usedD_iff.1 hp
      have hpl := ha.sl hp
      have c3 : c < ((gi W.groups (gi W.groups k).parent).shelves.length : Int) := by omega
      refine ⟨fun _ => h.g.ix v1 v2, _, _, _, fun _ => h.g.shelf v1 v2, fun _ => (h.g.shelves _ v1 v2).ix encS_c c0 c3, _, fun _ => RdS.f (h.g.shelves _ v1 v2) c0 c3 (j := 0) rfl, _, fun _ => k_spec_l8Stand, boolP ?_⟩
      show (!(shf W k c).on || standW (shf W k c).v (shf W (gi W.groups k).parent c).floor (shf W k c).w) = true ↔ _
      simp only [Bool.or_eq_true, Bool.not_eq_true']
      constructor
      · intro e
        exact ⟨a1, a2, a3, a4.1, a4.2, fun e0 => absurd e0 hk, fun _ => hon, fun _ ho => by
          rcases e with e | e
          · rw [ho] at e; cases e
          · exact e⟩
      · intro p
        cases ho : (shf W k c).on with
        | false => exact .inl rfl
        | true => exact .inr (p.st hk ho)
/-- A task that is in line stands where it may. -/
theorem line_ok {t : Int} (ht : TskP W t) (hl : lineD W t = true) : TskU W (tkk W t) ∧ (tkk W t).state = 1 := by
  have hs : (tkk W t).state = 1 := by
    unfold lineD at hl
    simp only [Bool.and_eq_true, beq_iff_eq] at hl
    exact hl.1
  rcases ht with ⟨e, _⟩ | ⟨_, q⟩
  · omega
  · exact ⟨q, hs⟩
theorem inR_tm {a b : Int} (ha : tmOk a = true) (hb : tmOk b = true) : InR .i64 (a - b) := by
  have := tmOk_t.1 ha
  have := tmOk_t.1 hb
  exact ⟨by omega, by omega⟩
theorem k_spec_l8Stayed {c : Int} (h : RdW bs w W m) (ha : WA W) (hts : ∀ t : Int, 0 ≤ t → t < 12 → TskP W t) (hss : ∀ k c : Int, 0 ≤ k → k < 8 → 0 ≤ c → c < ((gi W.groups k).shelves.length : Int) → ShfP W k c) (c0 : 0 ≤ c) (c1 : c < (W.cpus.length : Int)) (t0 : 0 ≤ (gi W.cpus c).cur) (t1 : (gi W.cpus c).cur < (W.tasks.length : Int)) (hl : lineD W (gi W.cpus c).cur = true) :
    PureX bs Tryz.prog fn_spec_l8Stayed #[.agg (encW W m).toArray, .int .i64 c] w (.bool (stayD W c)) :=
  p_spec_l8Stayed W.now m.cO W.cpus.length m.cC m.tO W.tasks.length m.tC m.gO W.groups.length m.gC c fun wr hx => by
    have h := (h.ext hx).less (cs := []) (by simp)
    intro _ _
    have htl := ha.t
    have hgl := ha.gl
    obtain ⟨q, _⟩ := line_ok (hts _ t0 (by omega)) hl
    have a2 := q.g
    obtain ⟨u1, u2, _⟩ := usedD_iff.1 a2
    have sl : ∀ {x : Int}, usedD W.groups x = true → 0 ≤ x ∧ x < (W.groups.length : Int) ∧ c < ((gi W.groups x).shelves.length : Int) ∧ ShfP W x c := fun {x} hx => by
      obtain ⟨v1, v2, _⟩ := usedD_iff.1 hx
      have e := ha.sl hx
      have c3 : c < ((gi W.groups x).shelves.length : Int) := by omega
      exact ⟨v1, v2, c3, hss x c v1 (by omega) c0 c3⟩
    obtain ⟨_, _, c2, sp⟩ := sl a2
    refine ⟨h.c.ix encC_c c0 c1, _, _, _, _, _, h.c c c0 c1, fun _ _ => ⟨h.t.ix encT_c t0 t1, _, _, _, _, _, _, _, _, _, h.t _ t0 t1, fun _ _ => ⟨h.g.ix u1 u2, _, _, _, h.g.shelf u1 u2, (h.g.shelves _ u1 u2).ix encS_c c0 c2, _, RdS.f (h.g.shelves _ u1 u2) c0 c2 (j := 0) rfl, inR_tm q.v sp.f, _, k_spec_WeightOf, _, k_spec_VirtualStep, fun g => ?_, fun g => ?_⟩⟩⟩
    · have g := of_decide_eq_true g
      have hd : ¬ ((tkk W (gi W.cpus c).cur).v - (shf W (tkk W (gi W.cpus c).cur).group c).floor ≤ vstep (gi W.cpus c).ran (weightOf (tkk W (gi W.cpus c).cur).nice)) := Int.not_le.2 g
      unfold stayD
      rw [decide_eq_false hd]
      rfl
    · have g := of_decide_eq_false g
      have hS : stayD W c = stayG W (tkk W (gi W.cpus c).cur).group c (gi W.cpus c).ran := by
        have hd : (tkk W (gi W.cpus c).cur).v - (shf W (tkk W (gi W.cpus c).cur).group c).floor ≤ vstep (gi W.cpus c).ran (weightOf (tkk W (gi W.cpus c).cur).nice) := Int.not_lt.1 g
        unfold stayD
        rw [decide_eq_true hd, Bool.true_and]
      rw [hS]
      refine ⟨fun vs => ∃ x : Int, vs = [.int .i64 x] ∧ usedD W.groups x = true ∧ stayG W x c (gi W.cpus c).ran = stayG W (tkk W (gi W.cpus c).cur).group c (gi W.cpus c).ran, fun vs => (dep 3 W.groups (ctrAt 0 vs)).toNat, ⟨_, rfl, a2, rfl⟩, ?_⟩
      rintro x ⟨x', he, hux, hI⟩
      simp only [List.cons.injEq, Value.int.injEq, true_and, and_true] at he
      subst he
      refine ⟨fun hz => ?_, fun hz => ?_⟩
      · have hz : x ≠ 0 := by simpa using hz
        obtain ⟨hp, a, b, d, e, e2, hd⟩ := climb ha.tree hux hz
        obtain ⟨x1, x2, x3, xs⟩ := sl hux
        obtain ⟨p1, p2, p3, ps⟩ := sl hp
        unfold stayG at hI
        rw [path_step ha.tree hux hz, List.all_cons] at hI
        refine ⟨h.g.ix x1 x2, _, _, _, h.g.shelf x1 x2, (h.g.shelves _ x1 x2).ix encS_c c0 x3, _, _, _, _, _, (h.g.shelves _ x1 x2) c c0 x3, fun _ _ => ⟨h.g.ix x1 x2, _, h.g.parent x1 x2, h.g.ix p1 p2, _, _, _, h.g.shelf p1 p2, (h.g.shelves _ p1 p2).ix encS_c c0 p3, _, RdS.f (h.g.shelves _ p1 p2) c0 p3 (j := 0) rfl, inR_tm xs.v ps.f, _, k_spec_VirtualStep, fun g2 => ?_, fun g2 => ⟨h.g.ix x1 x2, _, h.g.parent x1 x2, ⟨_, rfl, hp, ?_⟩, by
          show (dep 3 W.groups (gi W.groups x).parent).toNat < (dep 3 W.groups x).toNat
          omega⟩⟩⟩
        · have g2 := of_decide_eq_true g2
          have hd : ¬ ((shf W x c).v - (shf W (gi W.groups x).parent c).floor ≤ vstep (gi W.cpus c).ran (shf W x c).w) := Int.not_le.2 g2
          rw [decide_eq_false hd, Bool.false_and] at hI
          unfold stayG
          rw [← hI]
        · have g2 := of_decide_eq_false g2
          have hd : (shf W x c).v - (shf W (gi W.groups x).parent c).floor ≤ vstep (gi W.cpus c).ran (shf W x c).w := Int.not_lt.1 g2
          rw [decide_eq_true hd, Bool.true_and] at hI
          exact hI
      · have hz : x = 0 := by simpa using hz
        subst hz
        unfold stayG at hI
        rw [show pathW W.groups 0 = [] from path_root _ _, List.all_nil] at hI
        unfold stayG
        rw [← hI]
theorem line_use {t : Int} (ha : WA W) (ht : TskP W t) (hs : (tkk W t).state = 1) : usedD W.groups (tkk W t).group = true ∧ 0 ≤ (tkk W t).cpu ∧ (tkk W t).cpu < (W.cpus.length : Int) := by
  rcases ht with ⟨e, _⟩ | ⟨_, q⟩
  · omega
  · exact ⟨q.g, cpu_of ha q.c⟩
theorem k_spec_l8CpuOk {c : Int} (h : RdW bs w W m) (ha : WA W) (hts : ∀ t : Int, 0 ≤ t → t < 12 → TskP W t) (hss : ∀ k c : Int, 0 ≤ k → k < 8 → 0 ≤ c → c < ((gi W.groups k).shelves.length : Int) → ShfP W k c) (c0 : 0 ≤ c) (c1 : c < (W.cpus.length : Int)) :
    PureX bs Tryz.prog fn_spec_l8CpuOk #[.agg (encW W m).toArray, .int .i64 c] w (.bool (decB (CpuP W c))) :=
  p_spec_l8CpuOk W.now m.cO W.cpus.length m.cC m.tO W.tasks.length m.tC m.gO W.groups.length m.gC c fun wr hx => by
    have h := (h.ext hx).less (cs := []) (by simp)
    intro _ _
    have htl := ha.t
    refine ⟨h.c.ix encC_c c0 c1, _, _, _, _, _, h.c c c0 c1, fun _ _ => ⟨_, k_spec_l4Time, _, fun _ => k_spec_l4Time, fun _ => ⟨by omega, by omega⟩, _, fun _ => k_spec_l1In, fun g => noP fun p => ?_, fun g => ⟨fun g2 => boolP ?_, fun g2 => ?_⟩⟩⟩
    · have e3 : inB (gi W.cpus c).cur (-1) (((W.tasks.length : Nat) : Int) - 1) = true := inB_t.2 (by have := p.c1; have := p.c2; omega)
      rw [p.b, p.i, e3] at g
      cases g
    · simp only [Bool.or_eq_false_iff, Bool.not_eq_false', inB_t] at g
      obtain ⟨⟨a1, a2⟩, a3⟩ := g
      have g2 := of_decide_eq_true g2
      rw [beq_iff_eq]
      exact ⟨fun e => ⟨a1, a2, a3.1, by omega, fun _ => e, fun hc => by omega⟩, fun p => p.no g2⟩
    · simp only [Bool.or_eq_false_iff, Bool.not_eq_false', inB_t] at g
      obtain ⟨⟨a1, a2⟩, a3⟩ := g
      have g2 := of_decide_eq_false g2
      have t0 : 0 ≤ (gi W.cpus c).cur := by omega
      have t1 : (gi W.cpus c).cur < (W.tasks.length : Int) := by omega
      refine ⟨_, fun _ => k_spec_l1In, fun _ => h.t.ix encT_c t0 t1, _, fun _ => h.t.f t0 t1 (j := 2) rfl, lineD W (gi W.cpus c).cur, fun _ => k_spec_l8InLine h ha t0 t1 fun hs => line_use ha (hts _ t0 (by omega)) hs, stayD W c, fun g3 => k_spec_l8Stayed h ha hts hss c0 c1 t0 t1 (by simp only [Bool.and_eq_true] at g3; exact g3.2), boolP ?_⟩
      simp only [Bool.and_eq_true, beq_iff_eq, inB_t]
      constructor
      · rintro ⟨⟨⟨⟨e1, e2⟩, e3⟩, e4⟩, e5⟩
        exact ⟨a1, a2, a3.1, by omega, fun hc => by omega, fun _ => ⟨e1, e2.1, e2.2, e3, e4, e5⟩⟩
      · intro p
        have q := p.yes t0
        exact ⟨⟨⟨⟨q.1, q.2.1, q.2.2.1⟩, q.2.2.2.1⟩, q.2.2.2.2.1⟩, q.2.2.2.2.2⟩
theorem k_spec_WorldOk (h : RdW bs w W m) (lc : W.cpus.length ≤ maxLen) (lt : W.tasks.length ≤ maxLen) (lg : W.groups.length ≤ maxLen) (hf : ∀ i : Int, 0 ≤ i → i < (W.groups.length : Int) → FitG (gi W.groups i)) :
    PureX bs Tryz.prog fn_spec_WorldOk #[.agg (encW W m).toArray] w (.bool (worldB W)) :=
  p_spec_WorldOk W.now m.cO W.cpus.length m.cC m.tO W.tasks.length m.tC m.gO W.groups.length m.gC fun wr hx => by
    have h := (h.ext hx).less (cs := []) (by simp)
    intro _ _
    have hm9 := maxLen_le
    refine ⟨_, k_spec_l1In, _, fun _ => k_spec_l1In, treeB W.groups, fun _ => k_spec_TreeOk h.g lg, upsD W.cpus, fun g => k_spec_l8Ups h ?_, fun g => noP fun p => ?_, fun g => ?_⟩
    · simp only [Bool.or_eq_false_iff, Bool.not_eq_false', inB_t] at g
      omega
    · have a := p.a
      have e1 : inB W.now 0 100000000000000000 = true := inB_t.2 ⟨a.n1, a.n2⟩
      have e2 : inB ((W.cpus.length : Nat) : Int) 1 4 = true := inB_t.2 (by have := a.c1; have := a.c2; omega)
      have e3 : ((W.tasks.length : Nat) : Int) = 12 := by have := a.t; omega
      have e5 : (upsD W.cpus == 0) = false := by simpa using a.ups
      rw [e1, e2, e3, treeB_iff.2 a.tree, e5] at g
      simp at g
    simp only [Bool.or_eq_false_iff, Bool.not_eq_false', inB_t, bne_eq_false_iff_eq, beq_eq_false_iff_ne] at g
    obtain ⟨⟨⟨⟨g1, g2⟩, g3⟩, g4⟩, g5⟩ := g
    have ht := treeB_iff.1 g4
    have hgl := ht.len
    refine loop1 W.groups.length 0 rfl (fun k => k ≤ W.groups.length ∧ ∀ j : Int, 0 ≤ j → j < (k : Int) → GrpP W j) ⟨Nat.zero_le _, fun j h0 h1 => by omega⟩ fun k ⟨hk, hI⟩ => ⟨fun hlt => ?_, fun hge => ?_⟩
    · have hlt := of_decide_eq_true hlt
      refine ⟨_, k_spec_l8GroupOk h g1.1 (by omega) hlt (hf _ (by omega) hlt), fun g6 => noP fun p => ?_, fun g6 => ⟨⟨by omega, by omega⟩, loop1_next (by omega) ⟨by omega, fun j h0 h1 => ?_⟩⟩⟩
      · have g6 : decB (GrpP W (k : Int)) = false := by simpa using g6
        exact decB_f.1 g6 (p.a.grp _ (by omega) (by omega))
      · by_cases hjk : j < (k : Int)
        · exact hI j h0 hjk
        · have : j = (k : Int) := by omega
          subst this
          exact decB_t.1 (by simpa using g6)
    have hge := of_decide_eq_false hge
    have ha : WA W := ⟨g1.1, g1.2, by omega, by omega, by omega, ht, g5, fun j h0 h1 => hI j h0 (by omega)⟩
    refine loop1 W.tasks.length 0 rfl (fun k => k ≤ W.tasks.length ∧ ∀ j : Int, 0 ≤ j → j < (k : Int) → TskP W j) ⟨Nat.zero_le _, fun j h0 h1 => by omega⟩ fun k2 ⟨hk2, hI2⟩ => ⟨fun hlt => ?_, fun hge2 => ?_⟩
    · have hlt := of_decide_eq_true hlt
      refine ⟨_, k_spec_l8TaskOk h ha (by omega) hlt, fun g6 => noP fun p => ?_, fun g6 => ⟨⟨by omega, by omega⟩, loop1_next (by omega) ⟨by omega, fun j h0 h1 => ?_⟩⟩⟩
      · have g6 : decB (TskP W (k2 : Int)) = false := by simpa using g6
        exact decB_f.1 g6 (p.t _ (by omega) (by omega))
      · by_cases hjk : j < (k2 : Int)
        · exact hI2 j h0 hjk
        · have : j = (k2 : Int) := by omega
          subst this
          exact decB_t.1 (by simpa using g6)
    have hge2 := of_decide_eq_false hge2
    have hts : ∀ t : Int, 0 ≤ t → t < 12 → TskP W t := fun t h0 h1 => hI2 t h0 (by omega)
    refine loop1 W.groups.length 0 rfl (fun k => k ≤ W.groups.length ∧ ∀ j c : Int, 0 ≤ j → j < (k : Int) → 0 ≤ c → c < ((gi W.groups j).shelves.length : Int) → ShfP W j c) ⟨Nat.zero_le _, fun j c h0 h1 => by omega⟩ fun k3 ⟨hk3, hI3⟩ => ⟨fun hlt => ?_, fun hge3 => ?_⟩
    · have hlt := of_decide_eq_true hlt
      have k30 : (0 : Int) ≤ (k3 : Int) := by omega
      refine loop1 (gi W.groups (k3 : Int)).shelves.length 0 rfl (fun c => c ≤ (gi W.groups (k3 : Int)).shelves.length ∧ ∀ d : Int, 0 ≤ d → d < (c : Int) → ShfP W (k3 : Int) d) ⟨Nat.zero_le _, fun j h0 h1 => by omega⟩ fun c ⟨hc, hJ⟩ => ⟨h.g.ix k30 hlt, _, _, _, h.g.shelf k30 hlt, fun hltc => ?_, fun hgec => ?_⟩
      · have hltc := of_decide_eq_true hltc
        have hsm : (gi W.groups (k3 : Int)).shelves.length ≤ maxLen := (hf _ k30 hlt).sh
        refine ⟨_, k_spec_l8ShelfOk h ha k30 hlt (by omega) hltc, fun g6 => noP fun p => ?_, fun g6 => ⟨⟨by omega, by omega⟩, loop1_next (by omega) ⟨by omega, fun d h0 h1 => ?_⟩⟩⟩
        · have g6 : decB (ShfP W (k3 : Int) (c : Int)) = false := by simpa using g6
          exact decB_f.1 g6 (p.s _ _ (by omega) (by omega) (by omega) hltc)
        · by_cases hjk : d < (c : Int)
          · exact hJ d h0 hjk
          · have : d = (c : Int) := by omega
            subst this
            exact decB_t.1 (by simpa using g6)
      · have hgec := of_decide_eq_false hgec
        refine ⟨⟨by omega, by omega⟩, loop1_next (by omega) ⟨by omega, fun j d h0 h1 h2 h3 => ?_⟩⟩
        by_cases hjk : j < (k3 : Int)
        · exact hI3 j d h0 hjk h2 h3
        · have : j = (k3 : Int) := by omega
          subst this
          exact hJ d h2 (by omega)
    have hge3 := of_decide_eq_false hge3
    have hss : ∀ k c : Int, 0 ≤ k → k < 8 → 0 ≤ c → c < ((gi W.groups k).shelves.length : Int) → ShfP W k c := fun k c h0 h1 h2 h3 => hI3 k c h0 (by omega) h2 h3
    refine loop1 W.cpus.length 0 rfl (fun k => k ≤ W.cpus.length ∧ ∀ j : Int, 0 ≤ j → j < (k : Int) → CpuP W j) ⟨Nat.zero_le _, fun j h0 h1 => by omega⟩ fun k4 ⟨hk4, hI4⟩ => ⟨fun hlt => ?_, fun hge4 => ?_⟩
    · have hlt := of_decide_eq_true hlt
      refine ⟨_, k_spec_l8CpuOk h ha hts hss (by omega) hlt, fun g6 => noP fun p => ?_, fun g6 => ⟨⟨by omega, by omega⟩, loop1_next (by omega) ⟨by omega, fun j h0 h1 => ?_⟩⟩⟩
      · have g6 : decB (CpuP W (k4 : Int)) = false := by simpa using g6
        exact decB_f.1 g6 (p.c _ (by omega) hlt)
      · by_cases hjk : j < (k4 : Int)
        · exact hI4 j h0 hjk
        · have : j = (k4 : Int) := by omega
          subst this
          exact decB_t.1 (by simpa using g6)
    · have hge4 := of_decide_eq_false hge4
      exact yesP ⟨ha, hts, hss, fun c h0 h1 => hI4 c h0 (by omega)⟩
end
end Go.Proofs.YthojnihahmlboaaGreat
