/- Worlds: the program's WorldOk. -/
import Derived.Test.YthojnihahmlboaaGreatWldI
namespace Go.Proofs.YthojnihahmlboaaGreat
open Go.RowKit
set_option linter.unusedVariables false
set_option linter.unusedSimpArgs false
set_option maxRecDepth 10000

/-- The shape of a world. -/
structure ShP (W : Wld) : Prop where
  n1 : 0 ≤ W.now
  n2 : W.now ≤ 100000000000000000
  c1 : 1 ≤ W.cpus.length
  c2 : W.cpus.length ≤ 4
  t : W.tasks.length = 12
  tree : TreeP W.groups
  ups : upsD W.cpus ≠ 0
structure QuoP (W : Wld) (g : Grp) : Prop where
  none : g.band.quota = 0 → noBand g.band = true ∧ g.period = 0 ∧ g.next = 0
  band : g.band.quota ≠ 0 → BndP g.band ∧ g.band.locals.length = W.cpus.length ∧ 1 ≤ g.period ∧ g.period ≤ 1000 ∧ W.now < g.next ∧ g.next - W.now ≤ g.period
/-- A used group, but for what is asked of the root. -/
structure GrpV (W : Wld) (g : Grp) : Prop where
  w1 : 1 ≤ g.weight
  w2 : g.weight ≤ 20
  m : mOk g.cpus = true
  m0 : g.cpus ≠ 0
  s : tmOk g.sum = true
  len : g.shelves.length = W.cpus.length
  q : QuoP W g
def GrpQ (W : Wld) (k : Int) : Prop := ((gi W.groups k).used = false → GrpN (gi W.groups k)) ∧ ((gi W.groups k).used = true → GrpV W (gi W.groups k))
theorem grpP_iff {W : Wld} {k : Int} : GrpP W k ↔ GrpQ W k ∧ ((gi W.groups k).used = true → k = 0 → (gi W.groups k).weight = 10 ∧ (gi W.groups k).cpus = 15 ∧ (gi W.groups k).band.quota = 0) := by
  constructor
  · intro p
    exact ⟨⟨p.1, fun hu => by have q := p.2 hu; exact ⟨q.w1, q.w2, q.m, q.m0, q.s, q.len, ⟨q.none, q.band⟩⟩⟩, fun hu => (p.2 hu).root⟩
  · rintro ⟨p, r⟩
    exact ⟨p.1, fun hu => by have q := p.2 hu; exact ⟨q.w1, q.w2, q.m, q.m0, q.s, q.len, r hu, q.q.none, q.q.band⟩⟩
section
variable {W : Wld} {m : MW} {w : World} {bs : List Nat} {p : Option Addr}
theorem k_impl_quotaOk {k : Int} (h : WPt bs w p W m) (n1 : 0 ≤ W.now) (n2 : W.now ≤ 100000000000000000) (k0 : 0 ≤ k) (k1 : k < (W.groups.length : Int)) (hf : FitG (gi W.groups k)) :
    PureX bs Tryz.prog fn_impl_World_quotaOk #[.pointer p, .agg (encG (gi W.groups k) (m.ms k.toNat)).toArray] w (.bool (decB (QuoP W (gi W.groups k)))) :=
  p_impl_World_quotaOk p (gi W.groups k).used (gi W.groups k).parent (gi W.groups k).name (gi W.groups k).weight (gi W.groups k).cpus (gi W.groups k).period (gi W.groups k).next (gi W.groups k).sum (gi W.groups k).band.quota (gi W.groups k).band.pool (gi W.groups k).band.spent (m.ms k.toNat).lO (gi W.groups k).band.locals.length (m.ms k.toNat).lC (m.ms k.toNat).dO (gi W.groups k).band.dry.length (m.ms k.toNat).dC (m.ms k.toNat).sO (gi W.groups k).shelves.length (m.ms k.toNat).sC fun wr hx => by
    have h := (h.ext hx).less (cs := []) (by simp)
    have hp : ((decB (BndP (gi W.groups k).band) && (((gi W.groups k).band.locals.length : Nat) : Int) == ((W.cpus.length : Nat) : Int)) && inB (gi W.groups k).period 1 1000) = true → 1 ≤ (gi W.groups k).period ∧ (gi W.groups k).period ≤ 1000 := fun q => by
      simp only [Bool.and_eq_true] at q
      exact inB_t.1 q.2
    refine fun _ _ => ⟨_, k_impl_bandZero (b := (gi W.groups k).band) (m := m.ms k.toNat), fun g => boolP ?_, fun g => ⟨_, k_impl_BandOk (b := (gi W.groups k).band) (m := m.ms k.toNat) (h.rd.g.locals k k0 k1) (h.rd.g.dry k k0 k1) hf.lo, fun _ => h.some, _, _, _, fun _ => h.cpus, _, fun _ => k_impl_inRange, fun _ => h.some, _, fun _ => h.now, fun _ => ⟨by omega, by omega⟩, fun _ => h.some, _, fun _ => h.now, fun q => ⟨by have := hp q; omega, by have := hp q; omega⟩, _, fun _ => k_impl_inRange, boolP ?_⟩⟩
    · have q0 := (noBand_q g).1
      simp only [Bool.and_eq_true, beq_iff_eq]
      exact ⟨fun e => ⟨fun _ => ⟨g, e.1, e.2⟩, fun hne => absurd q0 hne⟩, fun q => (q.none q0).2⟩
    · simp only [Bool.and_eq_true, beq_iff_eq, decB_t, inB_t]
      constructor
      · rintro ⟨⟨⟨e1, e2⟩, e3⟩, e4⟩
        have := e1.q1
        exact ⟨fun hz => by omega, fun _ => ⟨e1, by omega, e3.1, e3.2, by omega, by omega⟩⟩
      · intro q
        have hq : (gi W.groups k).band.quota ≠ 0 := fun e => by
          have := (q.none e).1
          rw [this] at g; cases g
        have r := q.band hq
        exact ⟨⟨⟨r.1, by have := r.2.1; omega⟩, r.2.2.1, r.2.2.2.1⟩, by have := r.2.2.2.2.1; omega, by have := r.2.2.2.2.2; omega⟩
theorem k_impl_groupsOk (h : WPt bs w p W m) (hs : ShP W) (hf : ∀ i : Int, 0 ≤ i → i < (W.groups.length : Int) → FitG (gi W.groups i)) : PureX bs Tryz.prog fn_impl_World_groupsOk #[.pointer p] w (.bool (decB (∀ k : Int, 0 ≤ k → k < 8 → GrpP W k))) :=
  p_impl_World_groupsOk p fun wr hx => by
    have h := (h.ext hx).less (cs := []) (by simp)
    have hgl := hs.tree.len
    refine ⟨h.some, _, _, _, h.groups, ?_⟩
    refine loop1 W.groups.length 0 rfl (fun k => k ≤ W.groups.length ∧ ∀ j : Int, 0 ≤ j → j < (k : Int) → GrpQ W j) ⟨Nat.zero_le _, fun j h0 h1 => by omega⟩ fun k ⟨hk, hI⟩ => ⟨fun hlt => ?_, fun hge => ?_⟩
    · have hlt := of_decide_eq_true hlt
      have k0 : (0 : Int) ≤ (k : Int) := by omega
      have nxt : GrpQ W (k : Int) → ∀ j : Int, 0 ≤ j → j < ((k + 1 : Nat) : Int) → GrpQ W j := fun hq j h0 h1 => by
        by_cases hjk : j < (k : Int)
        · exact hI j h0 hjk
        · have : j = (k : Int) := by omega
          subst this; exact hq
      refine ⟨h.rd.g.ix k0 hlt, _, _, _, _, _, _, _, _, _, _, _, _, _, _, _, _, _, _, _, _, h.rd.g.cells k k0 hlt, fun _ _ => ⟨fun g => ?_, fun g => ?_⟩⟩
      · have hu : (gi W.groups (k : Int)).used = false := by simpa using g
        refine ⟨_, k_impl_groupZero (g := gi W.groups (k : Int)) (m := m.ms (k : Int).toNat) hu, fun g2 => noP fun pp => ?_, fun g2 => ⟨⟨by omega, by omega⟩, loop1_next (by omega) ⟨by omega, nxt ⟨fun _ => decB_t.1 (by simpa using g2), fun hu' => by rw [hu'] at hu; cases hu⟩⟩⟩⟩
        have g2 : decB (GrpN (gi W.groups (k : Int))) = false := by simpa using g2
        exact decB_f.1 g2 ((grpP_iff.1 (pp (k : Int) k0 (by omega))).1.1 hu)
      · have hu : (gi W.groups (k : Int)).used = true := by simpa using g
        have bad : ¬ GrpV W (gi W.groups (k : Int)) → ¬ ∀ k : Int, 0 ≤ k → k < 8 → GrpP W k := fun hn pp => hn ((grpP_iff.1 (pp (k : Int) k0 (by omega))).1.2 hu)
        refine ⟨_, k_impl_weightOk, _, fun _ => k_impl_maskFull, fun g2 b1 hb1 => ⟨tmOk (gi W.groups (k : Int)).sum, fun _ wx hxw hcx => tm1 hcx, fun _ => h.some, _, _, _, fun _ => h.cpus, _, fun _ => k_impl_quotaOk h hs.n1 hs.n2 k0 hlt (hf _ k0 hlt), fun g3 => noP (bad fun q => ?_), fun g3 => ⟨⟨by omega, by omega⟩, loop1_next (by omega) ⟨by omega, nxt ⟨fun hu' => (by rw [hu'] at hu; cases hu), fun _ => ?_⟩⟩⟩⟩, fun g2 => ⟨fun e => (by cases e), none, 0, 0, fun e => (by cases e), false, fun e => (by simp at e), fun g3 => noP (bad fun q => g2 ?_), fun g3 => (by simp at g3)⟩⟩
        · have e1 : inB (gi W.groups (k : Int)).weight 1 20 = true := inB_t.2 ⟨q.w1, q.w2⟩
          have e2 : ((gi W.groups (k : Int)).cpus != 0) = true := by simpa using q.m0
          have e5 : (((gi W.groups (k : Int)).shelves.length : Nat) : Int) = ((W.cpus.length : Nat) : Int) := by have := q.len; omega
          rw [e1, e2, q.m, q.s, e5, decB_t.2 q.q] at g3
          simp at g3
        · simp only [Bool.or_eq_false_iff, Bool.not_eq_false', bne_eq_false_iff_eq, inB_t, Bool.and_eq_true, bne_iff_ne, decB_t] at g3
          obtain ⟨⟨⟨⟨a1, a2⟩, a3⟩, a4⟩, a5⟩ := g3
          exact ⟨a1.1, a1.2, a2.2, a2.1, a3, by omega, a5⟩
        · have e1 : inB (gi W.groups (k : Int)).weight 1 20 = true := inB_t.2 ⟨q.w1, q.w2⟩
          have e2 : ((gi W.groups (k : Int)).cpus != 0) = true := by simpa using q.m0
          rw [e1, e2, q.m]; rfl
    · have hge := of_decide_eq_false hge
      have h0 : (0 : Int) < (W.groups.length : Int) := by omega
      refine ⟨h.some, _, _, _, h.groups, h.rd.g.ix (by decide) h0, _, _, _, _, _, _, _, _, _, _, _, _, _, _, _, _, _, _, _, _, h.rd.g.cells 0 (by decide) h0, fun _ _ => boolP ?_⟩
      simp only [Bool.and_eq_true, beq_iff_eq]
      constructor
      · rintro ⟨⟨e1, e2⟩, e3⟩ j j0 j1
        exact grpP_iff.2 ⟨hI j j0 (by omega), fun _ hj => by subst hj; exact ⟨e1, e2, e3⟩⟩
      · intro pp
        have r := (grpP_iff.1 (pp 0 (by decide) (by decide))).2 hs.tree.ru rfl
        exact ⟨⟨r.1, r.2.1⟩, r.2.2⟩
theorem ShP.wa (hs : ShP W) (hg : ∀ k : Int, 0 ≤ k → k < 8 → GrpP W k) : WA W := ⟨hs.n1, hs.n2, hs.c1, hs.c2, hs.t, hs.tree, hs.ups, hg⟩
theorem nice_w {n : Int} : inB n (-10) 9 = true ↔ weightOf n ≠ 0 := by
  unfold weightOf
  cases h : inB n (-10) 9 with
  | true =>
    have := inB_t.1 h
    simp; omega
  | false => simp
/-- Tasks, as the program asks: also whether the floor is a time. -/
def TskQ (W : Wld) (t : Int) : Prop := TskP W t ∧ ((tkk W t).state = 1 → tmOk (shf W (tkk W t).group (tkk W t).cpu).floor = true)
theorem k_impl_tasksOk (h : WPt bs w p W m) (ha : WA W) (lg : W.groups.length ≤ maxLen) : PureX bs Tryz.prog fn_impl_World_tasksOk #[.pointer p] w (.bool (decB (∀ t : Int, 0 ≤ t → t < 12 → TskQ W t))) :=
  p_impl_World_tasksOk p fun wr hx => by
    have h := (h.ext hx).less (cs := []) (by simp)
    have hgl := ha.gl
    have htl := ha.t
    refine ⟨h.some, _, _, _, h.tasks, ?_⟩
    refine loop1 W.tasks.length 0 rfl (fun k => k ≤ W.tasks.length ∧ ∀ j : Int, 0 ≤ j → j < (k : Int) → TskQ W j) ⟨Nat.zero_le _, fun j h0 h1 => by omega⟩ fun k ⟨hk, hI⟩ => ⟨fun hlt => ?_, fun hge => ?_⟩
    · have hlt := of_decide_eq_true hlt
      have k0 : (0 : Int) ≤ (k : Int) := by omega
      have nxt : TskQ W (k : Int) → InR .i64 ((k : Int) + 1) ∧ cntI (fun k => k ≤ W.tasks.length ∧ ∀ j : Int, 0 ≤ j → j < (k : Int) → TskQ W j) [.int .i64 ((k : Int) + 1)] ∧ cntM W.tasks.length 0 [.int .i64 ((k : Int) + 1)] < cntM W.tasks.length 0 [.int .i64 (k : Int)] := fun hq => ⟨⟨by omega, by omega⟩, loop1_next (by omega) ⟨by omega, fun j h0 h1 => by
        by_cases hjk : j < (k : Int)
        · exact hI j h0 hjk
        · have : j = (k : Int) := by omega
          subst this; exact hq⟩⟩
      have bad : ¬ TskQ W (k : Int) → ¬ ∀ t : Int, 0 ≤ t → t < 12 → TskQ W t := fun hn pp => hn (pp (k : Int) k0 (by omega))
      refine ⟨h.rd.t.ix encT_c k0 hlt, _, _, _, _, _, _, _, _, _, h.rd.t k k0 hlt, fun _ _ => ⟨_, fun wq => run_eql_of flat_Task (fe_Task (gi W.tasks (k : Int)) zeroT) _ _ wq, fun g => ?_, fun g => ?_⟩⟩
      · rw [tsk_beq, decide_eq_true_eq] at g
        have hz : tkk W (k : Int) = zeroT := g
        exact nxt ⟨.inl ⟨by rw [hz]; rfl, hz⟩, fun e => by rw [hz] at e; cases e⟩
      · rw [tsk_beq, decide_eq_false_iff_not] at g
        have hz : ¬ tkk W (k : Int) = zeroT := g
        have get : TskQ W (k : Int) → TskU W (gi W.tasks (k : Int)) := fun q => by
          rcases q.1 with ⟨_, e⟩ | ⟨_, q⟩
          · exact absurd e hz
          · exact q
        refine ⟨fun _ => h.some, _, _, _, fun _ => h.groups, _, fun _ => k_impl_groupUsed (c := m.gC) h.rd.g lg, _, fun _ => k_impl_niceOk, _, fun _ => k_impl_maskFull, fun g2 => noP (bad fun q => ?_), fun g2 b1 hb1 => ?_⟩
        · have q := get q
          have e3 : inB (gi W.tasks (k : Int)).nice (-10) 9 = true := nice_w.2 q.n
          have e4 : ((gi W.tasks (k : Int)).mask != 0) = true := by simpa using q.m0
          rw [q.g, e3, q.m, e4] at g2
          simp only [Bool.not_true, Bool.or_false, Bool.and_true, Bool.and_eq_true, bne_iff_ne] at g2
          have := q.st
          omega
        · simp only [Bool.or_eq_false_iff, Bool.not_eq_false', Bool.and_eq_true, bne_iff_ne] at g2
          obtain ⟨⟨⟨a1, a2⟩, a3⟩, a4⟩ := g2
          have st : (gi W.tasks (k : Int)).state = 1 ∨ (gi W.tasks (k : Int)).state = 2 := by
            by_cases h1 : (gi W.tasks (k : Int)).state = 1
            · exact .inl h1
            · refine .inr ?_
              have : ((gi W.tasks (k : Int)).state != 1) = true := by simpa using h1
              rw [this, Bool.true_and] at a1
              simpa using a1
          refine ⟨_, fun wx hxw hcx => tm3 hcx, _, fun _ => k_impl_loadOk, _, fun _ => k_impl_allowed h ha.c2 ha.tree k0 hlt a2, _, fun _ => k_impl_MaskHas, fun g3 => noP (bad fun q => ?_), fun g3 => ?_⟩
          · have q := get q
            have e4 : inB (gi W.tasks (k : Int)).load 0 8000000 = true := inB_t.2 ⟨q.l1, q.l2⟩
            have e5 : mHas (whereD W (tkk W (k : Int)).group (tkk W (k : Int)).mask) (gi W.tasks (k : Int)).cpu = true := q.c
            rw [q.v, q.s, q.u, e4, e5] at g3
            cases g3
          · simp only [Bool.or_eq_false_iff, Bool.not_eq_false', inB_t, Bool.and_eq_true] at g3
            obtain ⟨⟨b1', b2⟩, b3⟩ := g3
            obtain ⟨u1, u2, _⟩ := usedD_iff.1 a2
            obtain ⟨c0, c1⟩ := cpu_of ha b3
            have hsl := ha.sl a2
            have c2 : (gi W.tasks (k : Int)).cpu < ((gi W.groups (gi W.tasks (k : Int)).group).shelves.length : Int) := by omega
            have sh := h.sh (g := (gi W.tasks (k : Int)).group) u1 u2 c0 c2
            have mk : (((tkk W (k : Int)).state = 1 → tmOk (shf W (tkk W (k : Int)).group (tkk W (k : Int)).cpu).floor = true ∧ standW (gi W.tasks (k : Int)).v (shf W (gi W.tasks (k : Int)).group (gi W.tasks (k : Int)).cpu).floor (weightOf (gi W.tasks (k : Int)).nice) = true)) → TskQ W (k : Int) := fun hf => ⟨.inr ⟨fun e => by
                have e : (gi W.tasks (k : Int)).state = 0 := e
                omega, ⟨st, a2, nice_w.1 a3, a4.2, a4.1, b1'.1, b1'.2.1, b1'.2.2, b2.1, b2.2, b3, fun e => (hf e).2⟩⟩, fun e => (hf e).1⟩
            refine ⟨_, _, k_impl_lane, _, k_impl_shelf h u1 u2 c0 c2, sh.1, _, sh.2 (j := 0) rfl, fun _ b2 hb2 => ⟨tmOk (shf W (gi W.tasks (k : Int)).group (gi W.tasks (k : Int)).cpu).floor, fun _ wx hxw hcx => tm1 hcx, _, fun _ _ => k_impl_WeightOf, _, fun g4 _ => k_impl_placedW b1'.1 (by simpa using g4), fun g4 => noP (bad fun q => ?_), fun g4 => nxt (mk fun e => ?_)⟩, fun g4 => ⟨fun e => (by cases e), fun _ => nxt (mk fun e => absurd (beq_iff_eq.2 e) g4)⟩⟩
            · simp only [Bool.and_eq_true, beq_iff_eq, Bool.or_eq_true, Bool.not_eq_true'] at g4
              have e1 := (get q).f g4.1
              have e2 := q.2 g4.1
              rcases g4.2 with g5 | g5
              · have e2 : tmOk (shf W (gi W.tasks (k : Int)).group (gi W.tasks (k : Int)).cpu).floor = true := e2
                rw [e2] at g5; cases g5
              · rw [e1] at g5; cases g5
            · have e' : ((gi W.tasks (k : Int)).state == 1) = true := beq_iff_eq.2 e
              rw [e', Bool.true_and] at g4
              simp only [Bool.or_eq_false_iff, Bool.not_eq_false'] at g4
              exact g4
    · have hge := of_decide_eq_false hge
      exact yesP fun t h0 h1 => hI t h0 (by omega)
theorem k_impl_shelvesOk (h : WPt bs w p W m) (ha : WA W) (hf : ∀ i : Int, 0 ≤ i → i < (W.groups.length : Int) → FitG (gi W.groups i)) : PureX bs Tryz.prog fn_impl_World_shelvesOk #[.pointer p] w (.bool (decB (∀ k c : Int, 0 ≤ k → k < 8 → 0 ≤ c → c < ((gi W.groups k).shelves.length : Int) → ShfP W k c))) :=
  p_impl_World_shelvesOk p fun wr hx => by
    have h := (h.ext hx).less (cs := []) (by simp)
    have hgl := ha.gl
    have hcl := ha.c2
    let TS := fun (k c : Int) => tmOk (shf W k c).floor = true ∧ tmOk (shf W k c).v = true ∧ tmOk (shf W k c).sum = true ∧ 1 ≤ (shf W k c).w ∧ (shf W k c).w ≤ 20
    have ts : (∀ k c : Int, 0 ≤ k → k < 8 → 0 ≤ c → c < ((gi W.groups k).shelves.length : Int) → ShfP W k c) → ∀ k c : Int, 0 ≤ k → k < 8 → 0 ≤ c → c < ((gi W.groups k).shelves.length : Int) → TS k c := fun q k c h0 h1 h2 h3 => by
      have r := q k c h0 h1 h2 h3
      exact ⟨r.f, r.v, r.s, r.w1, r.w2⟩
    refine ⟨h.some, _, _, _, h.groups, ?_⟩
    refine loop1 W.groups.length 0 rfl (fun k => k ≤ W.groups.length ∧ ∀ j c : Int, 0 ≤ j → j < (k : Int) → 0 ≤ c → c < ((gi W.groups j).shelves.length : Int) → TS j c) ⟨Nat.zero_le _, fun j c h0 h1 => by omega⟩ fun k ⟨hk, hI⟩ => ⟨fun hlt => ?_, fun hge => ?_⟩
    · have hlt := of_decide_eq_true hlt
      have k0 : (0 : Int) ≤ (k : Int) := by omega
      have hsm : (gi W.groups (k : Int)).shelves.length ≤ maxLen := (hf _ k0 hlt).sh
      refine ⟨h.rd.g.ix k0 hlt, _, _, _, _, _, _, _, _, _, _, _, _, _, _, _, _, _, _, _, _, h.rd.g.cells k k0 hlt, fun _ _ => ?_⟩
      refine loop1 (gi W.groups (k : Int)).shelves.length 0 rfl (fun c => c ≤ (gi W.groups (k : Int)).shelves.length ∧ ∀ d : Int, 0 ≤ d → d < (c : Int) → TS (k : Int) d) ⟨Nat.zero_le _, fun j h0 h1 => by omega⟩ fun c ⟨hc, hJ⟩ => ⟨fun hltc => ?_, fun hgec => ?_⟩
      · have hltc := of_decide_eq_true hltc
        have c0 : (0 : Int) ≤ (c : Int) := by omega
        have rs := h.rd.g.shelves (k : Int) k0 hlt
        refine ⟨rs.ix encS_c c0 hltc, _, _, _, _, _, rs c c0 hltc, fun _ _ b2 hb2 => ⟨_, fun wx hxw hcx => tm3 hcx, _, fun _ => k_impl_weightOk, fun g => noP fun q => ?_, fun g => ⟨inR_nat hltc hsm, loop1_next (by omega) ⟨by omega, fun d h0 h1 => ?_⟩⟩⟩⟩
        · have r := ts q (k : Int) (c : Int) k0 (by omega) c0 hltc
          have e4 : inB (shf W (k : Int) (c : Int)).w 1 20 = true := inB_t.2 ⟨r.2.2.2.1, r.2.2.2.2⟩
          have g' : ((!(tmOk (shf W (k : Int) (c : Int)).floor && (tmOk (shf W (k : Int) (c : Int)).v && tmOk (shf W (k : Int) (c : Int)).sum))) || !inB (shf W (k : Int) (c : Int)).w 1 20) = true := g
          rw [r.1, r.2.1, r.2.2.1, e4] at g'
          cases g'
        · by_cases hjk : d < (c : Int)
          · exact hJ d h0 hjk
          · have : d = (c : Int) := by omega
            subst this
            have g' : ((!(tmOk (shf W (k : Int) (c : Int)).floor && (tmOk (shf W (k : Int) (c : Int)).v && tmOk (shf W (k : Int) (c : Int)).sum))) || !inB (shf W (k : Int) (c : Int)).w 1 20) = false := g
            simp only [Bool.or_eq_false_iff, Bool.not_eq_false', Bool.and_eq_true, inB_t] at g'
            exact ⟨g'.1.1, g'.1.2.1, g'.1.2.2, g'.2.1, g'.2.2⟩
      · have hgec := of_decide_eq_false hgec
        refine ⟨⟨by omega, by omega⟩, loop1_next (by omega) ⟨by omega, fun j d h0 h1 h2 h3 => ?_⟩⟩
        by_cases hjk : j < (k : Int)
        · exact hI j d h0 hjk h2 h3
        · have : j = (k : Int) := by omega
          subst this
          exact hJ d h2 (by omega)
    have hge := of_decide_eq_false hge
    have hT : ∀ j c : Int, 0 ≤ j → j < 8 → 0 ≤ c → c < ((gi W.groups j).shelves.length : Int) → TS j c := fun j c h0 h1 => hI j c h0 (by omega)
    refine ⟨h.some, _, _, _, h.cpus, ?_⟩
    refine loop1 W.cpus.length 0 rfl (fun c => c ≤ W.cpus.length ∧ ∀ d k : Int, 0 ≤ d → d < (c : Int) → 0 ≤ k → k < 8 → d < ((gi W.groups k).shelves.length : Int) → ShfP W k d) ⟨Nat.zero_le _, fun j k h0 h1 => by omega⟩ fun c ⟨hc, hJ⟩ => ⟨fun hltc => ?_, fun hgec => ?_⟩
    · have hltc := of_decide_eq_true hltc
      have c0 : (0 : Int) ≤ (c : Int) := by omega
      obtain ⟨r1, r2, _⟩ := usedD_iff.1 ha.root
      have hrc : (c : Int) < ((gi W.groups 0).shelves.length : Int) := by rw [ha.sl ha.root]; exact hltc
      have sh := h.sh (g := 0) r1 r2 c0 hrc
      have tr := hT 0 (c : Int) (by decide) (by decide) c0 hrc
      refine ⟨_, _, k_impl_lane, fun _ _ => ⟨_, k_impl_shelf h r1 r2 c0 hrc, sh.1, (shf W 0 (c : Int)).on, sh.2 (j := 1) rfl, fun _ => sh.1, (shf W 0 (c : Int)).v, fun _ => sh.2 (j := 2) rfl, fun _ => sh.1, (shf W 0 (c : Int)).w, fun _ => sh.2 (j := 3) rfl, fun g => noP fun q => ?_, fun g => ?_⟩⟩
      · have r := (q 0 (c : Int) (by decide) (by decide) c0 hrc).root rfl
        rw [r.1, r.2.1, r.2.2] at g
        simp at g
      simp only [Bool.or_eq_false_iff, bne_eq_false_iff_eq] at g
      have root : ShfP W 0 (c : Int) := ⟨tr.1, tr.2.1, tr.2.2.1, tr.2.2.2.1, tr.2.2.2.2, fun _ => ⟨g.1.1, g.1.2, g.2⟩, fun hne => absurd rfl hne, fun hne => absurd rfl hne⟩
      refine loop1 8 1 rfl (fun k => 1 ≤ k ∧ k ≤ 8 ∧ ∀ j : Int, 0 ≤ j → j < (k : Int) → (c : Int) < ((gi W.groups j).shelves.length : Int) → ShfP W j (c : Int)) ⟨Nat.le_refl _, by omega, fun j h0 h1 _ => by
        have : j = 0 := by omega
        subst this; exact root⟩ fun k ⟨hk1, hk, hK⟩ => ⟨fun hlt => ?_, fun hge2 => ?_⟩
      · have hlt := of_decide_eq_true hlt
        have k0 : (0 : Int) ≤ (k : Int) := by omega
        have kl : (k : Int) < (W.groups.length : Int) := by omega
        have nxt : ((c : Int) < ((gi W.groups (k : Int)).shelves.length : Int) → ShfP W (k : Int) (c : Int)) → InR .i64 ((k : Int) + 1) ∧ cntI (fun k => 1 ≤ k ∧ k ≤ 8 ∧ ∀ j : Int, 0 ≤ j → j < (k : Int) → (c : Int) < ((gi W.groups j).shelves.length : Int) → ShfP W j (c : Int)) [.int .i64 ((k : Int) + 1)] ∧ cntM 8 0 [.int .i64 ((k : Int) + 1)] < cntM 8 0 [.int .i64 (k : Int)] := fun hq => ⟨⟨by omega, by omega⟩, loop1_next (by omega) ⟨by omega, by omega, fun j h0 h1 h2 => by
          by_cases hjk : j < (k : Int)
          · exact hK j h0 hjk h2
          · have : j = (k : Int) := by omega
            subst this; exact hq h2⟩⟩
        refine ⟨h.some, _, _, _, h.groups, h.rd.g.ix k0 kl, _, h.rd.g.used k0 kl, fun g2 => nxt fun hh => ?_, fun g2 => ?_⟩
        · have hu : (gi W.groups (k : Int)).used = false := by simpa using g2
          have := ((ha.grp (k : Int) k0 (by omega)).1 hu).l
          omega
        · have hus : (gi W.groups (k : Int)).used = true := by simpa using g2
          have hu : usedD W.groups (k : Int) = true := usedD_iff.2 ⟨k0, kl, hus⟩
          have hkc : (c : Int) < ((gi W.groups (k : Int)).shelves.length : Int) := by rw [ha.sl hu]; exact hltc
          have hp := ha.up hu (by omega)
          obtain ⟨v1, v2, _⟩ := usedD_iff.1 hp
          have hpc : (c : Int) < ((gi W.groups (gi W.groups (k : Int)).parent).shelves.length : Int) := by rw [ha.sl hp]; exact hltc
          have sk := h.sh (g := (k : Int)) k0 kl c0 hkc
          have sp := h.sh (g := (gi W.groups (k : Int)).parent) v1 v2 c0 hpc
          have tk := hT (k : Int) (c : Int) k0 (by omega) c0 hkc
          have tp := hT (gi W.groups (k : Int)).parent (c : Int) v1 (by omega) c0 hpc
          refine ⟨_, k_impl_shelf h k0 kl c0 hkc, sk.1, (shf W (k : Int) (c : Int)).on, sk.2 (j := 1) rfl, _, k_impl_active h ha c0 hltc, _, fun _ => k_impl_dry h ha hu c0 hltc, fun _ => sk.1, (shf W (k : Int) (c : Int)).on, fun _ => sk.2 (j := 1) rfl, fun _ _ => sk.1, (shf W (k : Int) (c : Int)).v, fun _ _ => sk.2 (j := 2) rfl, fun _ _ => h.some, _, _, _, fun _ _ => h.groups, fun _ _ => h.rd.g.ix k0 kl, _, fun _ _ => h.rd.g.parent k0 kl, _, fun _ _ => k_impl_shelf h v1 v2 c0 hpc, fun _ _ => sp.1, (shf W (gi W.groups (k : Int)).parent (c : Int)).floor, fun _ _ => sp.2 (j := 0) rfl, fun _ _ => sk.1, (shf W (k : Int) (c : Int)).w, fun _ _ => sk.2 (j := 3) rfl, _, fun _ _ => k_impl_placedW tk.2.1 tp.1, fun g3 => noP fun q => ?_, fun g3 => nxt fun _ => ?_⟩
          · have r := q (k : Int) (c : Int) k0 (by omega) c0 hkc
            have r1 := r.on (by omega)
            simp only [Bool.or_eq_true, Bool.and_eq_true, Bool.not_eq_true', beq_eq_false_iff_ne] at g3
            rcases g3 with g3 | g3
            · exact g3 r1
            · have := r.st (by omega) g3.1
              rw [this] at g3
              cases g3.2
          · simp only [Bool.or_eq_false_iff, Bool.not_eq_false', beq_iff_eq] at g3
            refine ⟨tk.1, tk.2.1, tk.2.2.1, tk.2.2.2.1, tk.2.2.2.2, fun e => by omega, fun _ => g3.1, fun _ ho => ?_⟩
            have := g3.2
            rw [ho, Bool.true_and] at this
            simpa using this
      · have hge2 := of_decide_eq_false hge2
        refine ⟨⟨by omega, by omega⟩, loop1_next (by omega) ⟨by omega, fun d k' h0 h1 h2 h3 h4 => ?_⟩⟩
        by_cases hdc : d < (c : Int)
        · exact hJ d k' h0 hdc h2 h3 h4
        · have : d = (c : Int) := by omega
          subst this
          exact hK k' h2 (by omega) h4
    · have hgec := of_decide_eq_false hgec
      refine yesP fun k d h0 h1 h2 h3 => hJ d k h2 ?_ h0 h1 h3
      have hus : (gi W.groups k).used = true := by
        cases hu : (gi W.groups k).used with
        | true => rfl
        | false =>
          have := ((ha.grp k h0 h1).1 hu).l
          omega
      have := ha.sl (usedD_iff.2 ⟨h0, by omega, hus⟩)
      omega
theorem k_impl_cpusOk (h : WPt bs w p W m) (ha : WA W) (hts : ∀ t : Int, 0 ≤ t → t < 12 → TskP W t) (hss : ∀ k c : Int, 0 ≤ k → k < 8 → 0 ≤ c → c < ((gi W.groups k).shelves.length : Int) → ShfP W k c) : PureX bs Tryz.prog fn_impl_World_cpusOk #[.pointer p] w (.bool (decB (∀ c : Int, 0 ≤ c → c < (W.cpus.length : Int) → CpuP W c))) :=
  p_impl_World_cpusOk p fun wr hx => by
    have h := (h.ext hx).less (cs := []) (by simp)
    have hgl := ha.gl
    have htl := ha.t
    have hcl := ha.c2
    have hm9 := maxLen_big
    refine ⟨h.some, _, _, _, h.cpus, ?_⟩
    refine loop1 W.cpus.length 0 rfl (fun c => c ≤ W.cpus.length ∧ ∀ j : Int, 0 ≤ j → j < (c : Int) → CpuP W j) ⟨Nat.zero_le _, fun j h0 h1 => by omega⟩ fun c ⟨hc, hI⟩ => ⟨fun hlt => ?_, fun hge => ?_⟩
    · have hlt := of_decide_eq_true hlt
      have c0 : (0 : Int) ≤ (c : Int) := by omega
      have nxt : CpuP W (c : Int) → InR .i64 ((c : Int) + 1) ∧ cntI (fun c => c ≤ W.cpus.length ∧ ∀ j : Int, 0 ≤ j → j < (c : Int) → CpuP W j) [.int .i64 ((c : Int) + 1)] ∧ cntM W.cpus.length 0 [.int .i64 ((c : Int) + 1)] < cntM W.cpus.length 0 [.int .i64 (c : Int)] := fun hq => ⟨⟨by omega, by omega⟩, loop1_next (by omega) ⟨by omega, fun j h0 h1 => by
        by_cases hjk : j < (c : Int)
        · exact hI j h0 hjk
        · have : j = (c : Int) := by omega
          subst this; exact hq⟩⟩
      have bad : ¬ CpuP W (c : Int) → ¬ ∀ c : Int, 0 ≤ c → c < (W.cpus.length : Int) → CpuP W c := fun hn pp => hn (pp (c : Int) c0 hlt)
      refine ⟨h.rd.c.ix encC_c c0 hlt, _, _, _, _, _, h.rd.c c c0 hlt, fun _ _ b1 hb1 => ⟨_, fun wx hxw hcx => tm2 hcx, fun g => noP (bad fun q => ?_), fun g => ⟨fun g2 => nxt ?_, fun g2 => ?_⟩⟩⟩
      · rw [q.b, q.i] at g; cases g
      · simp only [Bool.not_eq_false', Bool.and_eq_true] at g
        simp only [Bool.and_eq_true, beq_iff_eq] at g2
        exact ⟨g.1, g.2, by omega, by omega, fun _ => g2.2, fun hh => by omega⟩
      · simp only [Bool.not_eq_false', Bool.and_eq_true] at g
        have ne : CpuP W (c : Int) → 0 ≤ (gi W.cpus (c : Int)).cur := fun q => by
          rcases Int.lt_or_le (gi W.cpus (c : Int)).cur 0 with hneg | hpos
          · have e1 := q.c1
            have e2 := q.no hneg
            have e3 : (gi W.cpus (c : Int)).cur = -1 := by omega
            rw [e3, e2] at g2
            simp at g2
          · exact hpos
        have there : (inB (gi W.cpus (c : Int)).cur 0 ((W.tasks.length : Int) - 1) && ((tkk W (gi W.cpus (c : Int)).cur).state != 0)) = true → 0 ≤ (gi W.cpus (c : Int)).cur ∧ (gi W.cpus (c : Int)).cur < (W.tasks.length : Int) := fun q => by
          simp only [Bool.and_eq_true] at q
          have := inB_t.1 q.1
          omega
        have lu : 0 ≤ (gi W.cpus (c : Int)).cur ∧ (gi W.cpus (c : Int)).cur < (W.tasks.length : Int) → (tkk W (gi W.cpus (c : Int)).cur).state = 1 → usedD W.groups (tkk W (gi W.cpus (c : Int)).cur).group = true := fun q hs => (line_use ha (hts _ q.1 (by omega)) hs).1
        refine ⟨_, _, k_impl_lane, fun _ _ => ⟨_, fun _ => k_impl_taskThere h (by omega), ((tkk W (gi W.cpus (c : Int)).cur).cpu == (c : Int)) && lineD W (gi W.cpus (c : Int)).cur, fun q => ?_, _, fun _ => k_impl_inRange, fun g3 => noP (bad fun q => ?_), fun g3 => ?_⟩⟩
        · simp only [Bool.or_eq_false_iff, Bool.not_eq_false'] at q
          have := there q.2
          exact k_impl_inLine h ha this.1 this.2 c0 hlt (lu this)
        · have t0 := ne q
          have t1 := q.c2
          have y := q.yes t0
          have e2 : inB (gi W.cpus (c : Int)).cur 0 ((W.tasks.length : Int) - 1) = true := inB_t.2 (by omega)
          have hst : (tkk W (gi W.cpus (c : Int)).cur).state = 1 := (line_ok (hts _ t0 (by omega)) y.2.2.2.2.1).2
          have e4 : inB (gi W.cpus (c : Int)).ran 1 149 = true := inB_t.2 ⟨y.2.1, y.2.2.1⟩
          rw [y.1, e2, hst, y.2.2.2.1, y.2.2.2.2.1, e4] at g3
          simp at g3
        · simp only [Bool.or_eq_false_iff, Bool.not_eq_false'] at g3
          obtain ⟨⟨⟨a1, a2⟩, a3⟩, a4⟩ := g3
          obtain ⟨t0, t1⟩ := there a2
          have a4 := inB_t.1 a4
          simp only [Bool.and_eq_true, beq_iff_eq] at a3
          obtain ⟨hcpu, hline⟩ := a3
          obtain ⟨q, _⟩ := line_ok (hts _ t0 (by omega)) hline
          have au := q.g
          obtain ⟨u1, u2, _⟩ := usedD_iff.1 au
          have sl : ∀ {x : Int}, usedD W.groups x = true → 0 ≤ x ∧ x < (W.groups.length : Int) ∧ (c : Int) < ((gi W.groups x).shelves.length : Int) ∧ ShfP W x (c : Int) := fun {x} hx => by
            obtain ⟨v1, v2, _⟩ := usedD_iff.1 hx
            have c3 : (c : Int) < ((gi W.groups x).shelves.length : Int) := by rw [ha.sl hx]; exact hlt
            exact ⟨v1, v2, c3, hss x (c : Int) v1 (by omega) c0 c3⟩
          obtain ⟨_, _, c2, sp⟩ := sl au
          have sh := h.sh (g := (tkk W (gi W.cpus (c : Int)).cur).group) u1 u2 c0 c2
          have mk : stayD W (c : Int) = true → CpuP W (c : Int) := fun hst => ⟨g.1, g.2, by omega, t1, fun hh => by omega, fun _ => ⟨a1, a4.1, a4.2, hcpu, hline, hst⟩⟩
          refine ⟨h.some, _, _, _, h.tasks, h.rd.t.ix encT_c t0 t1, _, _, _, _, _, _, _, _, _, h.rd.t _ t0 t1, fun _ _ => ⟨h.rd.t _ t0 t1, rfl, h.tasks, _, k_impl_shelf h u1 u2 c0 c2, sh.1, _, sh.2 (j := 0) rfl, inR_tm q.v sp.f, _, k_impl_WeightOf, _, k_impl_VirtualStep, fun g4 => noP (bad fun qq => ?_), fun g4 => ?_⟩⟩
          · have g4 := of_decide_eq_true g4
            have hd : ¬ ((tkk W (gi W.cpus (c : Int)).cur).v - (shf W (tkk W (gi W.cpus (c : Int)).cur).group (c : Int)).floor ≤ vstep (gi W.cpus (c : Int)).ran (weightOf (tkk W (gi W.cpus (c : Int)).cur).nice)) := Int.not_le.2 g4
            have := (qq.yes t0).2.2.2.2.2
            unfold stayD at this
            rw [decide_eq_false hd] at this
            cases this
          · have g4 := of_decide_eq_false g4
            have hd : (tkk W (gi W.cpus (c : Int)).cur).v - (shf W (tkk W (gi W.cpus (c : Int)).cur).group (c : Int)).floor ≤ vstep (gi W.cpus (c : Int)).ran (weightOf (tkk W (gi W.cpus (c : Int)).cur).nice) := Int.not_lt.1 g4
            have hS : stayD W (c : Int) = stayG W (tkk W (gi W.cpus (c : Int)).cur).group (c : Int) (gi W.cpus (c : Int)).ran := by
              unfold stayD
              rw [decide_eq_true hd, Bool.true_and]
            refine ⟨fun vs => ∃ x : Int, vs = [.int .i64 x] ∧ usedD W.groups x = true ∧ stayG W x (c : Int) (gi W.cpus (c : Int)).ran = stayG W (tkk W (gi W.cpus (c : Int)).cur).group (c : Int) (gi W.cpus (c : Int)).ran, fun vs => (dep 3 W.groups (ctrAt 0 vs)).toNat, ⟨_, rfl, au, rfl⟩, ?_⟩
            rintro x ⟨x', he, hux, hJ⟩
            simp only [List.cons.injEq, Value.int.injEq, true_and, and_true] at he
            subst he
            refine ⟨fun hz => ?_, fun hz => ?_⟩
            · have hz : x ≠ 0 := by simpa using hz
              obtain ⟨hp, a, b, d, e, e2, hd⟩ := climb ha.tree hux hz
              obtain ⟨x1, x2, x3, xs⟩ := sl hux
              obtain ⟨p1, p2, p3, ps⟩ := sl hp
              have sx := h.sh (g := x) x1 x2 c0 x3
              have spp := h.sh (g := (gi W.groups x).parent) p1 p2 c0 p3
              unfold stayG at hJ
              rw [path_step ha.tree hux hz, List.all_cons] at hJ
              refine ⟨_, k_impl_shelf h x1 x2 c0 x3, sx.1, _, sx.2 (j := 2) rfl, h.some, _, _, _, h.groups, h.rd.g.ix x1 x2, _, h.rd.g.parent x1 x2, _, k_impl_shelf h p1 p2 c0 p3, spp.1, _, spp.2 (j := 0) rfl, inR_tm xs.v ps.f, sx.1, _, sx.2 (j := 3) rfl, _, k_impl_VirtualStep, fun g5 => noP (bad fun qq => ?_), fun g5 => ⟨h.some, _, _, _, h.groups, h.rd.g.ix x1 x2, _, h.rd.g.parent x1 x2, ⟨_, rfl, hp, ?_⟩, by
                show (dep 3 W.groups (gi W.groups x).parent).toNat < (dep 3 W.groups x).toNat
                omega⟩⟩
              · have g5 := of_decide_eq_true g5
                have hd : ¬ ((shf W x (c : Int)).v - (shf W (gi W.groups x).parent (c : Int)).floor ≤ vstep (gi W.cpus (c : Int)).ran (shf W x (c : Int)).w) := Int.not_le.2 g5
                rw [decide_eq_false hd, Bool.false_and] at hJ
                have := (qq.yes t0).2.2.2.2.2
                rw [hS] at this
                unfold stayG at this
                rw [← hJ] at this
                cases this
              · have g5 := of_decide_eq_false g5
                have hd : (shf W x (c : Int)).v - (shf W (gi W.groups x).parent (c : Int)).floor ≤ vstep (gi W.cpus (c : Int)).ran (shf W x (c : Int)).w := Int.not_lt.1 g5
                rw [decide_eq_true hd, Bool.true_and] at hJ
                exact hJ
            · have hz : x = 0 := by simpa using hz
              subst hz
              refine nxt (mk ?_)
              rw [hS, ← hJ]
              unfold stayG
              rw [show pathW W.groups 0 = [] from path_root _ _, List.all_nil]
    · have hge := of_decide_eq_false hge
      exact yesP fun t h0 h1 => hI t h0 (by omega)
theorem k_impl_shapeOk (h : WPt bs w p W m) (lc : W.cpus.length ≤ maxLen) (lg : W.groups.length ≤ maxLen) : PureX bs Tryz.prog fn_impl_World_shapeOk #[.pointer p] w (.bool (decB (ShP W))) :=
  p_impl_World_shapeOk p fun wr hx => by
    have h := (h.ext hx).less (cs := []) (by simp)
    refine ⟨h.some, _, h.now, fun b hb => ⟨tmOk W.now, fun wx hxw hcx => tm1 hcx, fun _ => h.some, _, _, _, fun _ => h.cpus, _, fun _ => k_impl_inRange, upsD W.cpus, fun g => k_impl_online h ?_, fun _ => h.some, _, _, _, fun _ => h.tasks, fun _ => h.some, _, _, _, fun _ => h.groups, treeB W.groups, fun _ => k_impl_TreeOk h.rd.g lg, boolP ?_⟩⟩
    · simp only [Bool.and_eq_true, inB_t] at g
      omega
    · simp only [Bool.and_eq_true, inB_t, beq_iff_eq, bne_iff_ne, tmOk_t, treeB_iff]
      constructor
      · rintro ⟨⟨⟨⟨e1, e2⟩, e3⟩, e4⟩, e5⟩
        exact ⟨e1.1, e1.2, by omega, by omega, by omega, e5, e3⟩
      · intro q
        have := q.t
        have := q.c1
        have := q.c2
        exact ⟨⟨⟨⟨⟨q.n1, q.n2⟩, by omega⟩, q.ups⟩, by omega⟩, q.tree⟩
theorem k_impl_WorldOk (h : RdW bs w W m) (lc : W.cpus.length ≤ maxLen) (lg : W.groups.length ≤ maxLen) (hf : ∀ i : Int, 0 ≤ i → i < (W.groups.length : Int) → FitG (gi W.groups i)) :
    PureX bs Tryz.prog fn_impl_WorldOk #[.agg (encW W m).toArray] w (.bool (worldB W)) := by
  refine pureX_of fun wr0 hx0 => e_impl_WorldOk W.now m.cO W.cpus.length m.cC m.tO W.tasks.length m.tC m.gO W.groups.length m.gC (R := fun v w' => v = .bool (worldB W) ∧ ExtX [] wr0 w') ?_
  have h := (h.ext hx0).less (cs := []) (by simp)
  intro b wb hxb hb hcell _ b1 hb1
  have hP : ∀ {bs : List Nat} {w1 : World}, ExtX [] wb w1 → (∀ x ∈ bs, wb.heap.size ≤ x) → WPt bs w1 (some ⟨b, 0, none⟩) W m := fun {bs w1} hx hbs => by
    have hbn : b ∉ bs := fun hm => by
      have := hbs b hm
      have := blk_lt hcell
      omega
    have hrd : RdW bs w1 W m := ((h.ext hxb).wide (cs := bs) fun x hm => .inr (hbs x hm)).ext hx.of_nil
    exact ⟨cellsX_blk (blk_ext hcell hx (by simp)) hbn (k0 := 0) fun j v hj => by rw [Nat.zero_add, Nat.zero_add]; exact hj, hrd⟩
  -- the five conditions
  let Cn := fun (k : Nat) => match k with
    | 0 => ShP W
    | 1 => ∀ k : Int, 0 ≤ k → k < 8 → GrpP W k
    | 2 => ∀ t : Int, 0 ≤ t → t < 12 → TskQ W t
    | 3 => ∀ k c : Int, 0 ≤ k → k < 8 → 0 ≤ c → c < ((gi W.groups k).shelves.length : Int) → ShfP W k c
    | _ => ∀ c : Int, 0 ≤ c → c < (W.cpus.length : Int) → CpuP W c
  have all : WldP W → ∀ k : Nat, k < 5 → Cn k := fun q k hk => by
    have : k = 0 ∨ k = 1 ∨ k = 2 ∨ k = 3 ∨ k = 4 := by omega
    rcases this with rfl | rfl | rfl | rfl | rfl
    · exact ⟨q.a.n1, q.a.n2, q.a.c1, q.a.c2, q.a.t, q.a.tree, q.a.ups⟩
    · exact q.a.grp
    · refine fun t h0 h1 => ⟨q.t t h0 h1, fun hs => ?_⟩
      have hu := line_use q.a (q.t t h0 h1) hs
      obtain ⟨u1, u2, _⟩ := usedD_iff.1 hu.1
      have := q.a.gl
      exact (q.s _ _ u1 (by omega) hu.2.1 (by rw [q.a.sl hu.1]; exact hu.2.2)).f
    · exact q.s
    · exact q.c
  have back : (∀ k : Nat, k < 5 → Cn k) → WldP W := fun q => by
    have q0 : ShP W := q 0 (by decide)
    have q1 : ∀ k : Int, 0 ≤ k → k < 8 → GrpP W k := q 1 (by decide)
    have q2 : ∀ t : Int, 0 ≤ t → t < 12 → TskQ W t := q 2 (by decide)
    exact ⟨q0.wa q1, fun t h0 h1 => (q2 t h0 h1).1, q 3 (by decide), q 4 (by decide)⟩
  have cond : ∀ k : Nat, k < 5 → (∀ j : Nat, j < k → Cn j) → ∀ {w1 : World}, ExtX [] wb w1 → ∃ F : FuncId, (#[.func (.func fn_impl_World_shapeOk) #[] #[], .func (.func fn_impl_World_groupsOk) #[] #[], .func (.func fn_impl_World_tasksOk) #[] #[], .func (.func fn_impl_World_shelvesOk) #[] #[], .func (.func fn_impl_World_cpusOk) #[] #[]] : Array Value)[k]? = some (.func (.func F) #[] #[]) ∧ (∀ (w : World) (x : Value), (callV (.func (.func F) #[] #[]) [x]).run Tryz.prog w = .ok (.enter F #[x]) w) ∧ ∃ rv : Bool, (rv = true ↔ Cn k) ∧ PureX [b1] Tryz.prog F #[.pointer (some ⟨b, 0, none⟩)] w1 (.bool rv) := fun k hk hj {w1} hx => by
    have hp := hP (bs := [b1]) hx (by simpa using hb1)
    have : k = 0 ∨ k = 1 ∨ k = 2 ∨ k = 3 ∨ k = 4 := by omega
    rcases this with rfl | rfl | rfl | rfl | rfl
    · exact ⟨_, rfl, fun _ _ => rfl, _, decB_t, k_impl_shapeOk hp lc lg⟩
    · have q0 : ShP W := hj 0 (by decide)
      exact ⟨_, rfl, fun _ _ => rfl, _, decB_t, k_impl_groupsOk hp q0 hf⟩
    · have q0 : ShP W := hj 0 (by decide)
      have q1 : ∀ k : Int, 0 ≤ k → k < 8 → GrpP W k := hj 1 (by decide)
      exact ⟨_, rfl, fun _ _ => rfl, _, decB_t, k_impl_tasksOk hp (q0.wa q1) lg⟩
    · have q0 : ShP W := hj 0 (by decide)
      have q1 : ∀ k : Int, 0 ≤ k → k < 8 → GrpP W k := hj 1 (by decide)
      exact ⟨_, rfl, fun _ _ => rfl, _, decB_t, k_impl_shelvesOk hp (q0.wa q1) hf⟩
    · have q0 : ShP W := hj 0 (by decide)
      have q1 : ∀ k : Int, 0 ≤ k → k < 8 → GrpP W k := hj 1 (by decide)
      have q2 : ∀ t : Int, 0 ≤ t → t < 12 → TskQ W t := hj 2 (by decide)
      have q3 : ∀ k c : Int, 0 ≤ k → k < 8 → 0 ≤ c → c < ((gi W.groups k).shelves.length : Int) → ShfP W k c := hj 3 (by decide)
      exact ⟨_, rfl, fun _ _ => rfl, _, decB_t, k_impl_cpusOk hp (q0.wa q1) (fun t h0 h1 => (q2 t h0 h1).1) q3⟩
  refine ⟨fun vs w1 => ∃ k : Nat, vs = [.bool true, .int .i64 (k : Int)] ∧ k ≤ 5 ∧ ExtX [] wb w1 ∧ ∀ j : Nat, j < k → Cn j, cntMw 5 1, fun wr hx _ => ⟨0, rfl, by omega, hx, fun j hj => absurd hj (Nat.not_lt_zero j)⟩, ?_⟩
  rintro ok x w1 hs1 ⟨k, he, hk, hX, hI⟩
  simp only [List.cons.injEq, Value.int.injEq, Value.bool.injEq, true_and, and_true] at he
  obtain ⟨rfl, rfl⟩ := he
  have fr : ∀ {w2 : World}, ExtX [b1] w1 w2 → ExtX [] wb w2 := fun {w2} hx => hX.fresh hx fun y hm => .inl (by
    have : y = b1 := by simpa using hm
    omega)
  refine ⟨fun hlt => ?_, fun hge wr hx => ⟨?_, hxb.trans (fr hx)⟩⟩
  · have hlt := of_decide_eq_true hlt
    obtain ⟨F, hF, _⟩ := cond k (by omega) hI hX
    refine ⟨F, #[], #[], ⟨by omega, by omega, by rw [Int.toNat_natCast]; exact hF⟩, fun wr1 hx1 hs2 => ?_⟩
    obtain ⟨F', hF', hcv, rv, hrv, hpu⟩ := cond k (by omega) hI (fr hx1)
    rw [hF] at hF'
    simp only [Option.some.injEq, Value.func.injEq, Fn.func.injEq, and_self, and_true] at hF'
    subst hF'
    refine ⟨F, #[.pointer (some ⟨b, 0, none⟩)], ?_, ?_⟩
    · exact hcv _ _
    · refine (hpu wr1 (ExtX.refl _ _)).mono fun e w3 ⟨he, hx3⟩ => ⟨rv, he, kept_of hx3 hs2, fun g wr2 hx4 => ⟨?_, hxb.trans ((fr hx1).trans hx3 |>.fresh hx4 fun y hm => .inl (by
        have : y = b1 := by simpa using hm
        omega))⟩, fun g => ⟨⟨by omega, by omega⟩, fun wr3 hx4 _ => ⟨⟨k + 1, by simp, by omega, ((fr hx1).trans hx3).fresh hx4 fun y hm => .inl (by
        have : y = b1 := by simpa using hm
        omega), fun j hj => ?_⟩, cntM_ltW (k := k) rfl rfl (by omega)⟩⟩⟩
      · have g : rv = false := by simpa using g
        exact noP fun q => by
          rw [hrv.2 (all q k (by omega))] at g; cases g
      · by_cases hjk : j < k
        · exact hI j hjk
        · have : j = k := by omega
          subst this
          exact hrv.1 (by simpa using g)
  · have hge := of_decide_eq_false hge
    have : k = 5 := by omega
    subst this
    exact yesP (back hI)
end
end Go.Proofs.YthojnihahmlboaaGreat
