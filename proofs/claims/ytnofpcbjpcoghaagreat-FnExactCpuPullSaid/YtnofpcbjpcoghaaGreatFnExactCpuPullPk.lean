/- Part 11 of what the law FnExactCpuPull needs: the engine, the functions' propositions, the contracts. -/
import Derived.Test.YtnofpcbjpcoghaaGreatFnExactCpuPullPj
namespace Go.Proofs.YtnofpcbjpcoghaaGreat
open Go.RowKit
set_option linter.unusedVariables false
set_option linter.unusedSimpArgs false
set_option maxRecDepth 10000
structure ShP (W : Wld) : Prop where
  n1 : 0 ≤ W.now
  n2 : W.now ≤ 100000000000000000
  c1 : 1 ≤ W.cpus.length
  c2 : W.cpus.length ≤ 4
  t : W.tasks.length = 12
  tree : TreeP W.groups
  ups : upsD W.cpus ≠ 0
structure QuoP (W : Wld) (g : Grp) : Prop where
  none : g.band.quota = 0 → noBand g.band = true ∧ g.period = 0 ∧ g.next = 0
  band : g.band.quota ≠ 0 → BndP g.band ∧ g.band.locals.length = W.cpus.length ∧ 1 ≤ g.period ∧ g.period ≤ 1000 ∧ W.now < g.next ∧ g.next - W.now ≤ g.period
structure GrpV (W : Wld) (g : Grp) : Prop where
  w1 : 1 ≤ g.weight
  w2 : g.weight ≤ 20
  m : mOk g.cpus = true
  m0 : g.cpus ≠ 0
  s : tmOk g.sum = true
  len : g.shelves.length = W.cpus.length
  q : QuoP W g
def GrpQ (W : Wld) (k : Int) : Prop := ((gi W.groups k).used = false → GrpN (gi W.groups k)) ∧ ((gi W.groups k).used = true → GrpV W (gi W.groups k))
theorem grpP_iff {W : Wld} {k : Int} : GrpP W k ↔ GrpQ W k ∧ ((gi W.groups k).used = true → k = 0 → (gi W.groups k).weight = 10 ∧ (gi W.groups k).cpus = 15 ∧ (gi W.groups k).band.quota = 0) := by
  constructor
  · intro p
    exact ⟨⟨p.1, fun hu => by have q := p.2 hu; exact ⟨q.w1, q.w2, q.m, q.m0, q.s, q.len, ⟨q.none, q.band⟩⟩⟩, fun hu => (p.2 hu).root⟩
  · rintro ⟨p, r⟩
    exact ⟨p.1, fun hu => by have q := p.2 hu; exact ⟨q.w1, q.w2, q.m, q.m0, q.s, q.len, r hu, q.q.none, q.q.band⟩⟩
section
variable {W : Wld} {m : MW} {w : World} {bs : List Nat} {p : Option Addr}
theorem k_impl_quotaOk {k : Int} (h : WPt bs w p W m) (n1 : 0 ≤ W.now) (n2 : W.now ≤ 100000000000000000) (k0 : 0 ≤ k) (k1 : k < (W.groups.length : Int)) (hf : FitG (gi W.groups k)) :
    PureX bs Tryz.prog fn_impl_World_quotaOk #[.pointer p, .agg (encG (gi W.groups k) (m.ms k.toNat)).toArray] w (.bool (decB (QuoP W (gi W.groups k)))) :=
  p_impl_World_quotaOk p (gi W.groups k).used (gi W.groups k).parent (gi W.groups k).name (gi W.groups k).weight (gi W.groups k).cpus (gi W.groups k).period (gi W.groups k).next (gi W.groups k).sum (gi W.groups k).band.quota (gi W.groups k).band.pool (gi W.groups k).band.spent (m.ms k.toNat).lO (gi W.groups k).band.locals.length (m.ms k.toNat).lC (m.ms k.toNat).dO (gi W.groups k).band.dry.length (m.ms k.toNat).dC (m.ms k.toNat).sO (gi W.groups k).shelves.length (m.ms k.toNat).sC fun wr hx => by
    have h := (h.ext hx).less (cs := []) (by simp)
    have hp : ((decB (BndP (gi W.groups k).band) && (((gi W.groups k).band.locals.length : Nat) : Int) == ((W.cpus.length : Nat) : Int)) && inB (gi W.groups k).period 1 1000) = true → 1 ≤ (gi W.groups k).period ∧ (gi W.groups k).period ≤ 1000 := fun q => by
      simp only [Bool.and_eq_true] at q
      exact inB_t.1 q.2
    refine fun _ _ => ⟨_, k_impl_bandZero (b := (gi W.groups k).band) (m := m.ms k.toNat), fun g => boolP ?_, fun g => ⟨_, k_impl_BandOk (b := (gi W.groups k).band) (m := m.ms k.toNat) (h.rd.g.locals k k0 k1) (h.rd.g.dry k k0 k1) hf.lo, fun _ => h.some, _, _, _, fun _ => h.cpus, _, fun _ => k_impl_inRange, fun _ => h.some, _, fun _ => h.now, fun _ => ⟨by omega, by omega⟩, fun _ => h.some, _, fun _ => h.now, fun q => ⟨by have := hp q; omega, by have := hp q; omega⟩, _, fun _ => k_impl_inRange, boolP ?_⟩⟩
    · have q0 := (noBand_q g).1
      simp only [Bool.and_eq_true, beq_iff_eq]
      exact ⟨fun e => ⟨fun _ => ⟨g, e.1, e.2⟩, fun hne => absurd q0 hne⟩, fun q => (q.none q0).2⟩
    · simp only [Bool.and_eq_true, beq_iff_eq, decB_t, inB_t]
      constructor
      · rintro ⟨⟨⟨e1, e2⟩, e3⟩, e4⟩
        have := e1.q1
        exact ⟨fun hz => by omega, fun _ => ⟨e1, by omega, e3.1, e3.2, by omega, by omega⟩⟩
      · intro q
        have hq : (gi W.groups k).band.quota ≠ 0 := fun e => by
          have := (q.none e).1
          rw [this] at g; cases g
        have r := q.band hq
        exact ⟨⟨⟨r.1, by have := r.2.1; omega⟩, r.2.2.1, r.2.2.2.1⟩, by have := r.2.2.2.2.1; omega, by have := r.2.2.2.2.2; omega⟩
theorem k_impl_groupsOk (h : WPt bs w p W m) (hs : ShP W) (hf : ∀ i : Int, 0 ≤ i → i < (W.groups.length : Int) → FitG (gi W.groups i)) : PureX bs Tryz.prog fn_impl_World_groupsOk #[.pointer p] w (.bool (decB (∀ k : Int, 0 ≤ k → k < 8 → GrpP W k))) :=
  p_impl_World_groupsOk p fun wr hx => by
    have h := (h.ext hx).less (cs := []) (by simp)
    have hgl := hs.tree.len
    refine ⟨h.some, _, _, _, h.groups, ?_⟩
    refine loop1 W.groups.length 0 rfl (fun k => k ≤ W.groups.length ∧ ∀ j : Int, 0 ≤ j → j < (k : Int) → GrpQ W j) ⟨Nat.zero_le _, fun j h0 h1 => by omega⟩ fun k ⟨hk, hI⟩ => ⟨fun hlt => ?_, fun hge => ?_⟩
    · have hlt := of_decide_eq_true hlt
      have k0 : (0 : Int) ≤ (k : Int) := by omega
      have nxt : GrpQ W (k : Int) → ∀ j : Int, 0 ≤ j → j < ((k + 1 : Nat) : Int) → GrpQ W j := fun hq j h0 h1 => by
        by_cases hjk : j < (k : Int)
        · exact hI j h0 hjk
        · have : j = (k : Int) := by omega
          subst this; exact hq
      refine ⟨h.rd.g.ix k0 hlt, _, _, _, _, _, _, _, _, _, _, _, _, _, _, _, _, _, _, _, _, h.rd.g.cells k k0 hlt, fun _ _ => ⟨fun g => ?_, fun g => ?_⟩⟩
      · have hu : (gi W.groups (k : Int)).used = false := by simpa using g
        refine ⟨_, k_impl_groupZero (g := gi W.groups (k : Int)) (m := m.ms (k : Int).toNat) hu, fun g2 => noP fun pp => ?_, fun g2 => ⟨⟨by omega, by omega⟩, loop1_next (by omega) ⟨by omega, nxt ⟨fun _ => decB_t.1 (by simpa using g2), fun hu' => by rw [hu'] at hu; cases hu⟩⟩⟩⟩
        have g2 : decB (GrpN (gi W.groups (k : Int))) = false := by simpa using g2
        exact decB_f.1 g2 ((grpP_iff.1 (pp (k : Int) k0 (by omega))).1.1 hu)
      · have hu : (gi W.groups (k : Int)).used = true := by simpa using g
        have bad : ¬ GrpV W (gi W.groups (k : Int)) → ¬ ∀ k : Int, 0 ≤ k → k < 8 → GrpP W k := fun hn pp => hn ((grpP_iff.1 (pp (k : Int) k0 (by omega))).1.2 hu)
        refine ⟨_, k_impl_weightOk, _, fun _ => k_impl_maskFull, fun g2 b1 hb1 => ⟨tmOk (gi W.groups (k : Int)).sum, fun _ wx hxw hcx => tm1 hcx, fun _ => h.some, _, _, _, fun _ => h.cpus, _, fun _ => k_impl_quotaOk h hs.n1 hs.n2 k0 hlt (hf _ k0 hlt), fun g3 => noP (bad fun q => ?_), fun g3 => ⟨⟨by omega, by omega⟩, loop1_next (by omega) ⟨by omega, nxt ⟨fun hu' => (by rw [hu'] at hu; cases hu), fun _ => ?_⟩⟩⟩⟩, fun g2 => ⟨fun e => (by cases e), none, 0, 0, fun e => (by cases e), false, fun e => (by simp at e), fun g3 => noP (bad fun q => g2 ?_), fun g3 => (by simp at g3)⟩⟩
        · have e1 : inB (gi W.groups (k : Int)).weight 1 20 = true := inB_t.2 ⟨q.w1, q.w2⟩
          have e2 : ((gi W.groups (k : Int)).cpus != 0) = true := by simpa using q.m0
          have e5 : (((gi W.groups (k : Int)).shelves.length : Nat) : Int) = ((W.cpus.length : Nat) : Int) := by have := q.len; omega
          rw [e1, e2, q.m, q.s, e5, decB_t.2 q.q] at g3
          simp at g3
        · simp only [Bool.or_eq_false_iff, Bool.not_eq_false', bne_eq_false_iff_eq, inB_t, Bool.and_eq_true, bne_iff_ne, decB_t] at g3
          obtain ⟨⟨⟨⟨a1, a2⟩, a3⟩, a4⟩, a5⟩ := g3
          exact ⟨a1.1, a1.2, a2.2, a2.1, a3, by omega, a5⟩
        · have e1 : inB (gi W.groups (k : Int)).weight 1 20 = true := inB_t.2 ⟨q.w1, q.w2⟩
          have e2 : ((gi W.groups (k : Int)).cpus != 0) = true := by simpa using q.m0
          rw [e1, e2, q.m]; rfl
    · have hge := of_decide_eq_false hge
      have h0 : (0 : Int) < (W.groups.length : Int) := by omega
      refine ⟨h.some, _, _, _, h.groups, h.rd.g.ix (by decide) h0, _, _, _, _, _, _, _, _, _, _, _, _, _, _, _, _, _, _, _, _, h.rd.g.cells 0 (by decide) h0, fun _ _ => boolP ?_⟩
      simp only [Bool.and_eq_true, beq_iff_eq]
      constructor
      · rintro ⟨⟨e1, e2⟩, e3⟩ j j0 j1
        exact grpP_iff.2 ⟨hI j j0 (by omega), fun _ hj => by subst hj; exact ⟨e1, e2, e3⟩⟩
      · intro pp
        have r := (grpP_iff.1 (pp 0 (by decide) (by decide))).2 hs.tree.ru rfl
        exact ⟨⟨r.1, r.2.1⟩, r.2.2⟩
theorem ShP.wa (hs : ShP W) (hg : ∀ k : Int, 0 ≤ k → k < 8 → GrpP W k) : WA W := ⟨hs.n1, hs.n2, hs.c1, hs.c2, hs.t, hs.tree, hs.ups, hg⟩
theorem nice_w {n : Int} : inB n (-10) 9 = true ↔ weightOf n ≠ 0 := by
  unfold weightOf
  cases h : inB n (-10) 9 with
  | true =>
    have := inB_t.1 h
    simp; omega
  | false => simp
def TskQ (W : Wld) (t : Int) : Prop := TskP W t ∧ ((tkk W t).state = 1 → tmOk (shf W (tkk W t).group (tkk W t).cpu).floor = true)
theorem k_impl_tasksOk (h : WPt bs w p W m) (ha : WA W) (lg : W.groups.length ≤ maxLen) : PureX bs Tryz.prog fn_impl_World_tasksOk #[.pointer p] w (.bool (decB (∀ t : Int, 0 ≤ t → t < 12 → TskQ W t))) :=
  p_impl_World_tasksOk p fun wr hx => by
    have h := (h.ext hx).less (cs := []) (by simp)
    have hgl := ha.gl
    have htl := ha.t
    refine ⟨h.some, _, _, _, h.tasks, ?_⟩
    refine loop1 W.tasks.length 0 rfl (fun k => k ≤ W.tasks.length ∧ ∀ j : Int, 0 ≤ j → j < (k : Int) → TskQ W j) ⟨Nat.zero_le _, fun j h0 h1 => by omega⟩ fun k ⟨hk, hI⟩ => ⟨fun hlt => ?_, fun hge => ?_⟩
    · have hlt := of_decide_eq_true hlt
      have k0 : (0 : Int) ≤ (k : Int) := by omega
      have nxt : TskQ W (k : Int) → InR .i64 ((k : Int) + 1) ∧ cntI (fun k => k ≤ W.tasks.length ∧ ∀ j : Int, 0 ≤ j → j < (k : Int) → TskQ W j) [.int .i64 ((k : Int) + 1)] ∧ cntM W.tasks.length 0 [.int .i64 ((k : Int) + 1)] < cntM W.tasks.length 0 [.int .i64 (k : Int)] := fun hq => ⟨⟨by omega, by omega⟩, loop1_next (by omega) ⟨by omega, fun j h0 h1 => by
        by_cases hjk : j < (k : Int)
        · exact hI j h0 hjk
        · have : j = (k : Int) := by omega
          subst this; exact hq⟩⟩
      have bad : ¬ TskQ W (k : Int) → ¬ ∀ t : Int, 0 ≤ t → t < 12 → TskQ W t := fun hn pp => hn (pp (k : Int) k0 (by omega))
      refine ⟨h.rd.t.ix encT_c k0 hlt, _, _, _, _, _, _, _, _, _, h.rd.t k k0 hlt, fun _ _ => ⟨_, fun wq => run_eql_of flat_Task (fe_Task (gi W.tasks (k : Int)) zeroT) _ _ wq, fun g => ?_, fun g => ?_⟩⟩
      · rw [tsk_beq, decide_eq_true_eq] at g
        have hz : tkk W (k : Int) = zeroT := g
        exact nxt ⟨.inl ⟨by rw [hz]; rfl, hz⟩, fun e => by rw [hz] at e; cases e⟩
      · rw [tsk_beq, decide_eq_false_iff_not] at g
        have hz : ¬ tkk W (k : Int) = zeroT := g
        have get : TskQ W (k : Int) → TskU W (gi W.tasks (k : Int)) := fun q => by
          rcases q.1 with ⟨_, e⟩ | ⟨_, q⟩
          · exact absurd e hz
          · exact q
        refine ⟨fun _ => h.some, _, _, _, fun _ => h.groups, _, fun _ => k_impl_groupUsed (c := m.gC) h.rd.g lg, _, fun _ => k_impl_niceOk, _, fun _ => k_impl_maskFull, fun g2 => noP (bad fun q => ?_), fun g2 b1 hb1 => ?_⟩
        · have q := get q
          have e3 : inB (gi W.tasks (k : Int)).nice (-10) 9 = true := nice_w.2 q.n
          have e4 : ((gi W.tasks (k : Int)).mask != 0) = true := by simpa using q.m0
          rw [q.g, e3, q.m, e4] at g2
          simp only [Bool.not_true, Bool.or_false, Bool.and_true, Bool.and_eq_true, bne_iff_ne] at g2
          have := q.st
          omega
        · simp only [Bool.or_eq_false_iff, Bool.not_eq_false', Bool.and_eq_true, bne_iff_ne] at g2
          obtain ⟨⟨⟨a1, a2⟩, a3⟩, a4⟩ := g2
          have st : (gi W.tasks (k : Int)).state = 1 ∨ (gi W.tasks (k : Int)).state = 2 := by
            by_cases h1 : (gi W.tasks (k : Int)).state = 1
            · exact .inl h1
            · refine .inr ?_
              have : ((gi W.tasks (k : Int)).state != 1) = true := by simpa using h1
              rw [this, Bool.true_and] at a1
              simpa using a1
          refine ⟨_, fun wx hxw hcx => tm3 hcx, _, fun _ => k_impl_loadOk, _, fun _ => k_impl_allowed h ha.c2 ha.tree k0 hlt a2, _, fun _ => k_impl_MaskHas, fun g3 => noP (bad fun q => ?_), fun g3 => ?_⟩
          · have q := get q
            have e4 : inB (gi W.tasks (k : Int)).load 0 8000000 = true := inB_t.2 ⟨q.l1, q.l2⟩
            have e5 : mHas (whereD W (tkk W (k : Int)).group (tkk W (k : Int)).mask) (gi W.tasks (k : Int)).cpu = true := q.c
            rw [q.v, q.s, q.u, e4, e5] at g3
            cases g3
          · simp only [Bool.or_eq_false_iff, Bool.not_eq_false', inB_t, Bool.and_eq_true] at g3
            obtain ⟨⟨b1', b2⟩, b3⟩ := g3
            obtain ⟨u1, u2, _⟩ := usedD_iff.1 a2
            obtain ⟨c0, c1⟩ := cpu_of ha b3
            have hsl := ha.sl a2
            have c2 : (gi W.tasks (k : Int)).cpu < ((gi W.groups (gi W.tasks (k : Int)).group).shelves.length : Int) := by omega
            have sh := h.sh (g := (gi W.tasks (k : Int)).group) u1 u2 c0 c2
            have mk : (((tkk W (k : Int)).state = 1 → tmOk (shf W (tkk W (k : Int)).group (tkk W (k : Int)).cpu).floor = true ∧ standW (gi W.tasks (k : Int)).v (shf W (gi W.tasks (k : Int)).group (gi W.tasks (k : Int)).cpu).floor (weightOf (gi W.tasks (k : Int)).nice) = true)) → TskQ W (k : Int) := fun hf => ⟨.inr ⟨fun e => by
                have e : (gi W.tasks (k : Int)).state = 0 := e
                omega, ⟨st, a2, nice_w.1 a3, a4.2, a4.1, b1'.1, b1'.2.1, b1'.2.2, b2.1, b2.2, b3, fun e => (hf e).2⟩⟩, fun e => (hf e).1⟩
            refine ⟨_, _, k_impl_lane, _, k_impl_shelf h u1 u2 c0 c2, sh.1, _, sh.2 (j := 0) rfl, fun _ b2 hb2 => ⟨tmOk (shf W (gi W.tasks (k : Int)).group (gi W.tasks (k : Int)).cpu).floor, fun _ wx hxw hcx => tm1 hcx, _, fun _ _ => k_impl_WeightOf, _, fun g4 _ => k_impl_placedW b1'.1 (by simpa using g4), fun g4 => noP (bad fun q => ?_), fun g4 => nxt (mk fun e => ?_)⟩, fun g4 => ⟨fun e => (by cases e), fun _ => nxt (mk fun e => absurd (beq_iff_eq.2 e) g4)⟩⟩
            · simp only [Bool.and_eq_true, beq_iff_eq, Bool.or_eq_true, Bool.not_eq_true'] at g4
              have e1 := (get q).f g4.1
              have e2 := q.2 g4.1
              rcases g4.2 with g5 | g5
              · have e2 : tmOk (shf W (gi W.tasks (k : Int)).group (gi W.tasks (k : Int)).cpu).floor = true := e2
                rw [e2] at g5; cases g5
              · rw [e1] at g5; cases g5
            · have e' : ((gi W.tasks (k : Int)).state == 1) = true := beq_iff_eq.2 e
              rw [e', Bool.true_and] at g4
              simp only [Bool.or_eq_false_iff, Bool.not_eq_false'] at g4
              exact g4
    · have hge := of_decide_eq_false hge
      exact yesP fun t h0 h1 => hI t h0 (by omega)
theorem k_impl_shelvesOk (h : WPt bs w p W m) (ha : WA W) (hf : ∀ i : Int, 0 ≤ i → i < (W.groups.length : Int) → FitG (gi W.groups i)) : PureX bs Tryz.prog fn_impl_World_shelvesOk #[.pointer p] w (.bool (decB (∀ k c : Int, 0 ≤ k → k < 8 → 0 ≤ c → c < ((gi W.groups k).shelves.length : Int) → ShfP W k c))) :=
  p_impl_World_shelvesOk p fun wr hx => by
    have h := (h.ext hx).less (cs := []) (by simp)
    have hgl := ha.gl
    have hcl := ha.c2
    let TS := fun (k c : Int) => tmOk (shf W k c).floor = true ∧ tmOk (shf W k c).v = true ∧ tmOk (shf W k c).sum = true ∧ 1 ≤ (shf W k c).w ∧ (shf W k c).w ≤ 20
    have ts : (∀ k c : Int, 0 ≤ k → k < 8 → 0 ≤ c → c < ((gi W.groups k).shelves.length : Int) → ShfP W k c) → ∀ k c : Int, 0 ≤ k → k < 8 → 0 ≤ c → c < ((gi W.groups k).shelves.length : Int) → TS k c := fun q k c h0 h1 h2 h3 => by
      have r := q k c h0 h1 h2 h3
      exact ⟨r.f, r.v, r.s, r.w1, r.w2⟩
    refine ⟨h.some, _, _, _, h.groups, ?_⟩
    refine loop1 W.groups.length 0 rfl (fun k => k ≤ W.groups.length ∧ ∀ j c : Int, 0 ≤ j → j < (k : Int) → 0 ≤ c → c < ((gi W.groups j).shelves.length : Int) → TS j c) ⟨Nat.zero_le _, fun j c h0 h1 => by omega⟩ fun k ⟨hk, hI⟩ => ⟨fun hlt => ?_, fun hge => ?_⟩
    · have hlt := of_decide_eq_true hlt
      have k0 : (0 : Int) ≤ (k : Int) := by omega
      have hsm : (gi W.groups (k : Int)).shelves.length ≤ maxLen := (hf _ k0 hlt).sh
      refine ⟨h.rd.g.ix k0 hlt, _, _, _, _, _, _, _, _, _, _, _, _, _, _, _, _, _, _, _, _, h.rd.g.cells k k0 hlt, fun _ _ => ?_⟩
      refine loop1 (gi W.groups (k : Int)).shelves.length 0 rfl (fun c => c ≤ (gi W.groups (k : Int)).shelves.length ∧ ∀ d : Int, 0 ≤ d → d < (c : Int) → TS (k : Int) d) ⟨Nat.zero_le _, fun j h0 h1 => by omega⟩ fun c ⟨hc, hJ⟩ => ⟨fun hltc => ?_, fun hgec => ?_⟩
      · have hltc := of_decide_eq_true hltc
        have c0 : (0 : Int) ≤ (c : Int) := by omega
        have rs := h.rd.g.shelves (k : Int) k0 hlt
        refine ⟨rs.ix encS_c c0 hltc, _, _, _, _, _, rs c c0 hltc, fun _ _ b2 hb2 => ⟨_, fun wx hxw hcx => tm3 hcx, _, fun _ => k_impl_weightOk, fun g => noP fun q => ?_, fun g => ⟨inR_nat hltc hsm, loop1_next (by omega) ⟨by omega, fun d h0 h1 => ?_⟩⟩⟩⟩
        · have r := ts q (k : Int) (c : Int) k0 (by omega) c0 hltc
          have e4 : inB (shf W (k : Int) (c : Int)).w 1 20 = true := inB_t.2 ⟨r.2.2.2.1, r.2.2.2.2⟩
          have g' : ((!(tmOk (shf W (k : Int) (c : Int)).floor && (tmOk (shf W (k : Int) (c : Int)).v && tmOk (shf W (k : Int) (c : Int)).sum))) || !inB (shf W (k : Int) (c : Int)).w 1 20) = true := g
          rw [r.1, r.2.1, r.2.2.1, e4] at g'
          cases g'
        · by_cases hjk : d < (c : Int)
          · exact hJ d h0 hjk
          · have : d = (c : Int) := by omega
            subst this
            have g' : ((!(tmOk (shf W (k : Int) (c : Int)).floor && (tmOk (shf W (k : Int) (c : Int)).v && tmOk (shf W (k : Int) (c : Int)).sum))) || !inB (shf W (k : Int) (c : Int)).w 1 20) = false := g
            simp only [Bool.or_eq_false_iff, Bool.not_eq_false', Bool.and_eq_true, inB_t] at g'
            exact ⟨g'.1.1, g'.1.2.1, g'.1.2.2, g'.2.1, g'.2.2⟩
      · have hgec := of_decide_eq_false hgec
        refine ⟨⟨by omega, by omega⟩, loop1_next (by omega) ⟨by omega, fun j d h0 h1 h2 h3 => ?_⟩⟩
        by_cases hjk : j < (k : Int)
        · exact hI j d h0 hjk h2 h3
        · have : j = (k : Int) := by omega
          subst this
          exact hJ d h2 (by omega)
    have hge := of_decide_eq_false hge
    have hT : ∀ j c : Int, 0 ≤ j → j < 8 → 0 ≤ c → c < ((gi W.groups j).shelves.length : Int) → TS j c := fun j c h0 h1 => hI j c h0 (by omega)
    refine ⟨h.some, _, _, _, h.cpus, ?_⟩
    refine loop1 W.cpus.length 0 rfl (fun c => c ≤ W.cpus.length ∧ ∀ d k : Int, 0 ≤ d → d < (c : Int) → 0 ≤ k → k < 8 → d < ((gi W.groups k).shelves.length : Int) → ShfP W k d) ⟨Nat.zero_le _, fun j k h0 h1 => by omega⟩ fun c ⟨hc, hJ⟩ => ⟨fun hltc => ?_, fun hgec => ?_⟩
    · have hltc := of_decide_eq_true hltc
      have c0 : (0 : Int) ≤ (c : Int) := by omega
      obtain ⟨r1, r2, _⟩ := usedD_iff.1 ha.root
      have hrc : (c : Int) < ((gi W.groups 0).shelves.length : Int) := by rw [ha.sl ha.root]; exact hltc
      have sh := h.sh (g := 0) r1 r2 c0 hrc
      have tr := hT 0 (c : Int) (by decide) (by decide) c0 hrc
      refine ⟨_, _, k_impl_lane, fun _ _ => ⟨_, k_impl_shelf h r1 r2 c0 hrc, sh.1, (shf W 0 (c : Int)).on, sh.2 (j := 1) rfl, fun _ => sh.1, (shf W 0 (c : Int)).v, fun _ => sh.2 (j := 2) rfl, fun _ => sh.1, (shf W 0 (c : Int)).w, fun _ => sh.2 (j := 3) rfl, fun g => noP fun q => ?_, fun g => ?_⟩⟩
      · have r := (q 0 (c : Int) (by decide) (by decide) c0 hrc).root rfl
        rw [r.1, r.2.1, r.2.2] at g
        simp at g
      simp only [Bool.or_eq_false_iff, bne_eq_false_iff_eq] at g
      have root : ShfP W 0 (c : Int) := ⟨tr.1, tr.2.1, tr.2.2.1, tr.2.2.2.1, tr.2.2.2.2, fun _ => ⟨g.1.1, g.1.2, g.2⟩, fun hne => absurd rfl hne, fun hne => absurd rfl hne⟩
      refine loop1 8 1 rfl (fun k => 1 ≤ k ∧ k ≤ 8 ∧ ∀ j : Int, 0 ≤ j → j < (k : Int) → (c : Int) < ((gi W.groups j).shelves.length : Int) → ShfP W j (c : Int)) ⟨Nat.le_refl _, by omega, fun j h0 h1 _ => by
        have : j = 0 := by omega
        subst this; exact root⟩ fun k ⟨hk1, hk, hK⟩ => ⟨fun hlt => ?_, fun hge2 => ?_⟩
      · have hlt := of_decide_eq_true hlt
        have k0 : (0 : Int) ≤ (k : Int) := by omega
        have kl : (k : Int) < (W.groups.length : Int) := by omega
        have nxt : ((c : Int) < ((gi W.groups (k : Int)).shelves.length : Int) → ShfP W (k : Int) (c : Int)) → InR .i64 ((k : Int) + 1) ∧ cntI (fun k => 1 ≤ k ∧ k ≤ 8 ∧ ∀ j : Int, 0 ≤ j → j < (k : Int) → (c : Int) < ((gi W.groups j).shelves.length : Int) → ShfP W j (c : Int)) [.int .i64 ((k : Int) + 1)] ∧ cntM 8 0 [.int .i64 ((k : Int) + 1)] < cntM 8 0 [.int .i64 (k : Int)] := fun hq => ⟨⟨by omega, by omega⟩, loop1_next (by omega) ⟨by omega, by omega, fun j h0 h1 h2 => by
          by_cases hjk : j < (k : Int)
          · exact hK j h0 hjk h2
          · have : j = (k : Int) := by omega
            subst this; exact hq h2⟩⟩
        refine ⟨h.some, _, _, _, h.groups, h.rd.g.ix k0 kl, _, h.rd.g.used k0 kl, fun g2 => nxt fun hh => ?_, fun g2 => ?_⟩
        · have hu : (gi W.groups (k : Int)).used = false := by simpa using g2
          have := ((ha.grp (k : Int) k0 (by omega)).1 hu).l
          omega
        · have hus : (gi W.groups (k : Int)).used = true := by simpa using g2
          have hu : usedD W.groups (k : Int) = true := usedD_iff.2 ⟨k0, kl, hus⟩
          have hkc : (c : Int) < ((gi W.groups (k : Int)).shelves.length : Int) := by rw [ha.sl hu]; exact hltc
          have hp := ha.up hu (by omega)
          obtain ⟨v1, v2, _⟩ := usedD_iff.1 hp
          have hpc : (c : Int) < ((gi W.groups (gi W.groups (k : Int)).parent).shelves.length : Int) := by rw [ha.sl hp]; exact hltc
          have sk := h.sh (g := (k : Int)) k0 kl c0 hkc
          have sp := h.sh (g := (gi W.groups (k : Int)).parent) v1 v2 c0 hpc
          have tk := hT (k : Int) (c : Int) k0 (by omega) c0 hkc
          have tp := hT (gi W.groups (k : Int)).parent (c : Int) v1 (by omega) c0 hpc
          refine ⟨_, k_impl_shelf h k0 kl c0 hkc, sk.1, (shf W (k : Int) (c : Int)).on, sk.2 (j := 1) rfl, _, k_impl_active h ha c0 hltc, _, fun _ => k_impl_dry h ha hu c0 hltc, fun _ => sk.1, (shf W (k : Int) (c : Int)).on, fun _ => sk.2 (j := 1) rfl, fun _ _ => sk.1, (shf W (k : Int) (c : Int)).v, fun _ _ => sk.2 (j := 2) rfl, fun _ _ => h.some, _, _, _, fun _ _ => h.groups, fun _ _ => h.rd.g.ix k0 kl, _, fun _ _ => h.rd.g.parent k0 kl, _, fun _ _ => k_impl_shelf h v1 v2 c0 hpc, fun _ _ => sp.1, (shf W (gi W.groups (k : Int)).parent (c : Int)).floor, fun _ _ => sp.2 (j := 0) rfl, fun _ _ => sk.1, (shf W (k : Int) (c : Int)).w, fun _ _ => sk.2 (j := 3) rfl, _, fun _ _ => k_impl_placedW tk.2.1 tp.1, fun g3 => noP fun q => ?_, fun g3 => nxt fun _ => ?_⟩
          · have r := q (k : Int) (c : Int) k0 (by omega) c0 hkc
            have r1 := r.on (by omega)
            simp only [Bool.or_eq_true, Bool.and_eq_true, Bool.not_eq_true', beq_eq_false_iff_ne] at g3
            rcases g3 with g3 | g3
            · exact g3 r1
            · have := r.st (by omega) g3.1
              rw [this] at g3
              cases g3.2
          · simp only [Bool.or_eq_false_iff, Bool.not_eq_false', beq_iff_eq] at g3
            refine ⟨tk.1, tk.2.1, tk.2.2.1, tk.2.2.2.1, tk.2.2.2.2, fun e => by omega, fun _ => g3.1, fun _ ho => ?_⟩
            have := g3.2
            rw [ho, Bool.true_and] at this
            simpa using this
      · have hge2 := of_decide_eq_false hge2
        refine ⟨⟨by omega, by omega⟩, loop1_next (by omega) ⟨by omega, fun d k' h0 h1 h2 h3 h4 => ?_⟩⟩
        by_cases hdc : d < (c : Int)
        · exact hJ d k' h0 hdc h2 h3 h4
        · have : d = (c : Int) := by omega
          subst this
          exact hK k' h2 (by omega) h4
    · have hgec := of_decide_eq_false hgec
      refine yesP fun k d h0 h1 h2 h3 => hJ d k h2 ?_ h0 h1 h3
      have hus : (gi W.groups k).used = true := by
        cases hu : (gi W.groups k).used with
        | true => rfl
        | false =>
          have := ((ha.grp k h0 h1).1 hu).l
          omega
      have := ha.sl (usedD_iff.2 ⟨h0, by omega, hus⟩)
      omega
theorem k_impl_cpusOk (h : WPt bs w p W m) (ha : WA W) (hts : ∀ t : Int, 0 ≤ t → t < 12 → TskP W t) (hss : ∀ k c : Int, 0 ≤ k → k < 8 → 0 ≤ c → c < ((gi W.groups k).shelves.length : Int) → ShfP W k c) : PureX bs Tryz.prog fn_impl_World_cpusOk #[.pointer p] w (.bool (decB (∀ c : Int, 0 ≤ c → c < (W.cpus.length : Int) → CpuP W c))) :=
  p_impl_World_cpusOk p fun wr hx => by
    have h := (h.ext hx).less (cs := []) (by simp)
    have hgl := ha.gl
    have htl := ha.t
    have hcl := ha.c2
    have hm9 := maxLen_big
    refine ⟨h.some, _, _, _, h.cpus, ?_⟩
    refine loop1 W.cpus.length 0 rfl (fun c => c ≤ W.cpus.length ∧ ∀ j : Int, 0 ≤ j → j < (c : Int) → CpuP W j) ⟨Nat.zero_le _, fun j h0 h1 => by omega⟩ fun c ⟨hc, hI⟩ => ⟨fun hlt => ?_, fun hge => ?_⟩
    · have hlt := of_decide_eq_true hlt
      have c0 : (0 : Int) ≤ (c : Int) := by omega
      have nxt : CpuP W (c : Int) → InR .i64 ((c : Int) + 1) ∧ cntI (fun c => c ≤ W.cpus.length ∧ ∀ j : Int, 0 ≤ j → j < (c : Int) → CpuP W j) [.int .i64 ((c : Int) + 1)] ∧ cntM W.cpus.length 0 [.int .i64 ((c : Int) + 1)] < cntM W.cpus.length 0 [.int .i64 (c : Int)] := fun hq => ⟨⟨by omega, by omega⟩, loop1_next (by omega) ⟨by omega, fun j h0 h1 => by
        by_cases hjk : j < (c : Int)
        · exact hI j h0 hjk
        · have : j = (c : Int) := by omega
          subst this; exact hq⟩⟩
      have bad : ¬ CpuP W (c : Int) → ¬ ∀ c : Int, 0 ≤ c → c < (W.cpus.length : Int) → CpuP W c := fun hn pp => hn (pp (c : Int) c0 hlt)
      refine ⟨h.rd.c.ix encC_c c0 hlt, _, _, _, _, _, h.rd.c c c0 hlt, fun _ _ b1 hb1 => ⟨_, fun wx hxw hcx => tm2 hcx, fun g => noP (bad fun q => ?_), fun g => ⟨fun g2 => nxt ?_, fun g2 => ?_⟩⟩⟩
      · rw [q.b, q.i] at g; cases g
      · simp only [Bool.not_eq_false', Bool.and_eq_true] at g
        simp only [Bool.and_eq_true, beq_iff_eq] at g2
        exact ⟨g.1, g.2, by omega, by omega, fun _ => g2.2, fun hh => by omega⟩
      · simp only [Bool.not_eq_false', Bool.and_eq_true] at g
        have ne : CpuP W (c : Int) → 0 ≤ (gi W.cpus (c : Int)).cur := fun q => by
          rcases Int.lt_or_le (gi W.cpus (c : Int)).cur 0 with hneg | hpos
          · have e1 := q.c1
            have e2 := q.no hneg
            have e3 : (gi W.cpus (c : Int)).cur = -1 := by omega
            rw [e3, e2] at g2
            simp at g2
          · exact hpos
        have there : (inB (gi W.cpus (c : Int)).cur 0 ((W.tasks.length : Int) - 1) && ((tkk W (gi W.cpus (c : Int)).cur).state != 0)) = true → 0 ≤ (gi W.cpus (c : Int)).cur ∧ (gi W.cpus (c : Int)).cur < (W.tasks.length : Int) := fun q => by
          simp only [Bool.and_eq_true] at q
          have := inB_t.1 q.1
          omega
        have lu : 0 ≤ (gi W.cpus (c : Int)).cur ∧ (gi W.cpus (c : Int)).cur < (W.tasks.length : Int) → (tkk W (gi W.cpus (c : Int)).cur).state = 1 → usedD W.groups (tkk W (gi W.cpus (c : Int)).cur).group = true := fun q hs => (line_use ha (hts _ q.1 (by omega)) hs).1
        refine ⟨_, _, k_impl_lane, fun _ _ => ⟨_, fun _ => k_impl_taskThere h (by omega), ((tkk W (gi W.cpus (c : Int)).cur).cpu == (c : Int)) && lineD W (gi W.cpus (c : Int)).cur, fun q => ?_, _, fun _ => k_impl_inRange, fun g3 => noP (bad fun q => ?_), fun g3 => ?_⟩⟩
        · simp only [Bool.or_eq_false_iff, Bool.not_eq_false'] at q
          have := there q.2
          exact k_impl_inLine h ha this.1 this.2 c0 hlt (lu this)
        · have t0 := ne q
          have t1 := q.c2
          have y := q.yes t0
          have e2 : inB (gi W.cpus (c : Int)).cur 0 ((W.tasks.length : Int) - 1) = true := inB_t.2 (by omega)
          have hst : (tkk W (gi W.cpus (c : Int)).cur).state = 1 := (line_ok (hts _ t0 (by omega)) y.2.2.2.2.1).2
          have e4 : inB (gi W.cpus (c : Int)).ran 1 149 = true := inB_t.2 ⟨y.2.1, y.2.2.1⟩
          rw [y.1, e2, hst, y.2.2.2.1, y.2.2.2.2.1, e4] at g3
          simp at g3
        · simp only [Bool.or_eq_false_iff, Bool.not_eq_false'] at g3
          obtain ⟨⟨⟨a1, a2⟩, a3⟩, a4⟩ := g3
          obtain ⟨t0, t1⟩ := there a2
          have a4 := inB_t.1 a4
          simp only [Bool.and_eq_true, beq_iff_eq] at a3
          obtain ⟨hcpu, hline⟩ := a3
          obtain ⟨q, _⟩ := line_ok (hts _ t0 (by omega)) hline
          have au := q.g
          obtain ⟨u1, u2, _⟩ := usedD_iff.1 au
          have sl : ∀ {x : Int}, usedD W.groups x = true → 0 ≤ x ∧ x < (W.groups.length : Int) ∧ (c : Int) < ((gi W.groups x).shelves.length : Int) ∧ ShfP W x (c : Int) := fun {x} hx => by
            obtain ⟨v1, v2, _⟩ := usedD_iff.1 hx
            have c3 : (c : Int) < ((gi W.groups x).shelves.length : Int) := by rw [ha.sl hx]; exact hlt
            exact ⟨v1, v2, c3, hss x (c : Int) v1 (by omega) c0 c3⟩
          obtain ⟨_, _, c2, sp⟩ := sl au
          have sh := h.sh (g := (tkk W (gi W.cpus (c : Int)).cur).group) u1 u2 c0 c2
          have mk : stayD W (c : Int) = true → CpuP W (c : Int) := fun hst => ⟨g.1, g.2, by omega, t1, fun hh => by omega, fun _ => ⟨a1, a4.1, a4.2, hcpu, hline, hst⟩⟩
          refine ⟨h.some, _, _, _, h.tasks, h.rd.t.ix encT_c t0 t1, _, _, _, _, _, _, _, _, _, h.rd.t _ t0 t1, fun _ _ => ⟨h.rd.t _ t0 t1, rfl, h.tasks, _, k_impl_shelf h u1 u2 c0 c2, sh.1, _, sh.2 (j := 0) rfl, inR_tm q.v sp.f, _, k_impl_WeightOf, _, k_impl_VirtualStep, fun g4 => noP (bad fun qq => ?_), fun g4 => ?_⟩⟩
          · have g4 := of_decide_eq_true g4
            have hd : ¬ ((tkk W (gi W.cpus (c : Int)).cur).v - (shf W (tkk W (gi W.cpus (c : Int)).cur).group (c : Int)).floor ≤ vstep (gi W.cpus (c : Int)).ran (weightOf (tkk W (gi W.cpus (c : Int)).cur).nice)) := Int.not_le.2 g4
            have := (qq.yes t0).2.2.2.2.2
            unfold stayD at this
            rw [decide_eq_false hd] at this
            cases this
          · have g4 := of_decide_eq_false g4
            have hd : (tkk W (gi W.cpus (c : Int)).cur).v - (shf W (tkk W (gi W.cpus (c : Int)).cur).group (c : Int)).floor ≤ vstep (gi W.cpus (c : Int)).ran (weightOf (tkk W (gi W.cpus (c : Int)).cur).nice) := Int.not_lt.1 g4
            have hS : stayD W (c : Int) = stayG W (tkk W (gi W.cpus (c : Int)).cur).group (c : Int) (gi W.cpus (c : Int)).ran := by
              unfold stayD
              rw [decide_eq_true hd, Bool.true_and]
            refine ⟨fun vs => ∃ x : Int, vs = [.int .i64 x] ∧ usedD W.groups x = true ∧ stayG W x (c : Int) (gi W.cpus (c : Int)).ran = stayG W (tkk W (gi W.cpus (c : Int)).cur).group (c : Int) (gi W.cpus (c : Int)).ran, fun vs => (dep 3 W.groups (ctrAt 0 vs)).toNat, ⟨_, rfl, au, rfl⟩, ?_⟩
            rintro x ⟨x', he, hux, hJ⟩
            simp only [List.cons.injEq, Value.int.injEq, true_and, and_true] at he
            subst he
            refine ⟨fun hz => ?_, fun hz => ?_⟩
            · have hz : x ≠ 0 := by simpa using hz
              obtain ⟨hp, a, b, d, e, e2, hd⟩ := climb ha.tree hux hz
              obtain ⟨x1, x2, x3, xs⟩ := sl hux
              obtain ⟨p1, p2, p3, ps⟩ := sl hp
              have sx := h.sh (g := x) x1 x2 c0 x3
              have spp := h.sh (g := (gi W.groups x).parent) p1 p2 c0 p3
              unfold stayG at hJ
              rw [path_step ha.tree hux hz, List.all_cons] at hJ
              refine ⟨_, k_impl_shelf h x1 x2 c0 x3, sx.1, _, sx.2 (j := 2) rfl, h.some, _, _, _, h.groups, h.rd.g.ix x1 x2, _, h.rd.g.parent x1 x2, _, k_impl_shelf h p1 p2 c0 p3, spp.1, _, spp.2 (j := 0) rfl, inR_tm xs.v ps.f, sx.1, _, sx.2 (j := 3) rfl, _, k_impl_VirtualStep, fun g5 => noP (bad fun qq => ?_), fun g5 => ⟨h.some, _, _, _, h.groups, h.rd.g.ix x1 x2, _, h.rd.g.parent x1 x2, ⟨_, rfl, hp, ?_⟩, by
                show (dep 3 W.groups (gi W.groups x).parent).toNat < (dep 3 W.groups x).toNat
                omega⟩⟩
              · have g5 := of_decide_eq_true g5
                have hd : ¬ ((shf W x (c : Int)).v - (shf W (gi W.groups x).parent (c : Int)).floor ≤ vstep (gi W.cpus (c : Int)).ran (shf W x (c : Int)).w) := Int.not_le.2 g5
                rw [decide_eq_false hd, Bool.false_and] at hJ
                have := (qq.yes t0).2.2.2.2.2
                rw [hS] at this
                unfold stayG at this
                rw [← hJ] at this
                cases this
              · have g5 := of_decide_eq_false g5
                have hd : (shf W x (c : Int)).v - (shf W (gi W.groups x).parent (c : Int)).floor ≤ vstep (gi W.cpus (c : Int)).ran (shf W x (c : Int)).w := Int.not_lt.1 g5
                rw [decide_eq_true hd, Bool.true_and] at hJ
                exact hJ
            · have hz : x = 0 := by simpa using hz
              subst hz
              refine nxt (mk ?_)
              rw [hS, ← hJ]
              unfold stayG
              rw [show pathW W.groups 0 = [] from path_root _ _, List.all_nil]
    · have hge := of_decide_eq_false hge
      exact yesP fun t h0 h1 => hI t h0 (by omega)
theorem k_impl_shapeOk (h : WPt bs w p W m) (lc : W.cpus.length ≤ maxLen) (lg : W.groups.length ≤ maxLen) : PureX bs Tryz.prog fn_impl_World_shapeOk #[.pointer p] w (.bool (decB (ShP W))) :=
  p_impl_World_shapeOk p fun wr hx => by
    have h := (h.ext hx).less (cs := []) (by simp)
    refine ⟨h.some, _, h.now, fun b hb => ⟨tmOk W.now, fun wx hxw hcx => tm1 hcx, fun _ => h.some, _, _, _, fun _ => h.cpus, _, fun _ => k_impl_inRange, upsD W.cpus, fun g => k_impl_online h ?_, fun _ => h.some, _, _, _, fun _ => h.tasks, fun _ => h.some, _, _, _, fun _ => h.groups, treeB W.groups, fun _ => k_impl_TreeOk h.rd.g lg, boolP ?_⟩⟩
    · simp only [Bool.and_eq_true, inB_t] at g
      omega
    · simp only [Bool.and_eq_true, inB_t, beq_iff_eq, bne_iff_ne, tmOk_t, treeB_iff]
      constructor
      · rintro ⟨⟨⟨⟨e1, e2⟩, e3⟩, e4⟩, e5⟩
        exact ⟨e1.1, e1.2, by omega, by omega, by omega, e5, e3⟩
      · intro q
        have := q.t
        have := q.c1
        have := q.c2
        exact ⟨⟨⟨⟨⟨q.n1, q.n2⟩, by omega⟩, q.ups⟩, by omega⟩, q.tree⟩
theorem k_impl_WorldOk (h : RdW bs w W m) (lc : W.cpus.length ≤ maxLen) (lg : W.groups.length ≤ maxLen) (hf : ∀ i : Int, 0 ≤ i → i < (W.groups.length : Int) → FitG (gi W.groups i)) :
    PureX bs Tryz.prog fn_impl_WorldOk #[.agg (encW W m).toArray] w (.bool (worldB W)) := by
  refine pureX_of fun wr0 hx0 => e_impl_WorldOk W.now m.cO W.cpus.length m.cC m.tO W.tasks.length m.tC m.gO W.groups.length m.gC (R := fun v w' => v = .bool (worldB W) ∧ ExtX [] wr0 w') ?_
  have h := (h.ext hx0).less (cs := []) (by simp)
  intro b wb hxb hb hcell _ b1 hb1
  have hP : ∀ {bs : List Nat} {w1 : World}, ExtX [] wb w1 → (∀ x ∈ bs, wb.heap.size ≤ x) → WPt bs w1 (some ⟨b, 0, none⟩) W m := fun {bs w1} hx hbs => by
    have hbn : b ∉ bs := fun hm => by
      have := hbs b hm
      have := blk_lt hcell
      omega
    have hrd : RdW bs w1 W m := ((h.ext hxb).wide (cs := bs) fun x hm => .inr (hbs x hm)).ext hx.of_nil
    exact ⟨cellsX_blk (blk_ext hcell hx (by simp)) hbn (k0 := 0) fun j v hj => by rw [Nat.zero_add, Nat.zero_add]; exact hj, hrd⟩
  let Cn := fun (k : Nat) => match k with
    | 0 => ShP W
    | 1 => ∀ k : Int, 0 ≤ k → k < 8 → GrpP W k
    | 2 => ∀ t : Int, 0 ≤ t → t < 12 → TskQ W t
    | 3 => ∀ k c : Int, 0 ≤ k → k < 8 → 0 ≤ c → c < ((gi W.groups k).shelves.length : Int) → ShfP W k c
    | _ => ∀ c : Int, 0 ≤ c → c < (W.cpus.length : Int) → CpuP W c
  have all : WldP W → ∀ k : Nat, k < 5 → Cn k := fun q k hk => by
    have : k = 0 ∨ k = 1 ∨ k = 2 ∨ k = 3 ∨ k = 4 := by omega
    rcases this with rfl | rfl | rfl | rfl | rfl
    · exact ⟨q.a.n1, q.a.n2, q.a.c1, q.a.c2, q.a.t, q.a.tree, q.a.ups⟩
    · exact q.a.grp
    · refine fun t h0 h1 => ⟨q.t t h0 h1, fun hs => ?_⟩
      have hu := line_use q.a (q.t t h0 h1) hs
      obtain ⟨u1, u2, _⟩ := usedD_iff.1 hu.1
      have := q.a.gl
      exact (q.s _ _ u1 (by omega) hu.2.1 (by rw [q.a.sl hu.1]; exact hu.2.2)).f
    · exact q.s
    · exact q.c
  have back : (∀ k : Nat, k < 5 → Cn k) → WldP W := fun q => by
    have q0 : ShP W := q 0 (by decide)
    have q1 : ∀ k : Int, 0 ≤ k → k < 8 → GrpP W k := q 1 (by decide)
    have q2 : ∀ t : Int, 0 ≤ t → t < 12 → TskQ W t := q 2 (by decide)
    exact ⟨q0.wa q1, fun t h0 h1 => (q2 t h0 h1).1, q 3 (by decide), q 4 (by decide)⟩
  have cond : ∀ k : Nat, k < 5 → (∀ j : Nat, j < k → Cn j) → ∀ {w1 : World}, ExtX [] wb w1 → ∃ F : FuncId, (#[.func (.func fn_impl_World_shapeOk) #[] #[], .func (.func fn_impl_World_groupsOk) #[] #[], .func (.func fn_impl_World_tasksOk) #[] #[], .func (.func fn_impl_World_shelvesOk) #[] #[], .func (.func fn_impl_World_cpusOk) #[] #[]] : Array Value)[k]? = some (.func (.func F) #[] #[]) ∧ (∀ (w : World) (x : Value), (callV (.func (.func F) #[] #[]) [x]).run Tryz.prog w = .ok (.enter F #[x]) w) ∧ ∃ rv : Bool, (rv = true ↔ Cn k) ∧ PureX [b1] Tryz.prog F #[.pointer (some ⟨b, 0, none⟩)] w1 (.bool rv) := fun k hk hj {w1} hx => by
    have hp := hP (bs := [b1]) hx (by simpa using hb1)
    have : k = 0 ∨ k = 1 ∨ k = 2 ∨ k = 3 ∨ k = 4 := by omega
    rcases this with rfl | rfl | rfl | rfl | rfl
    · exact ⟨_, rfl, fun _ _ => rfl, _, decB_t, k_impl_shapeOk hp lc lg⟩
    · have q0 : ShP W := hj 0 (by decide)
      exact ⟨_, rfl, fun _ _ => rfl, _, decB_t, k_impl_groupsOk hp q0 hf⟩
    · have q0 : ShP W := hj 0 (by decide)
      have q1 : ∀ k : Int, 0 ≤ k → k < 8 → GrpP W k := hj 1 (by decide)
      exact ⟨_, rfl, fun _ _ => rfl, _, decB_t, k_impl_tasksOk hp (q0.wa q1) lg⟩
    · have q0 : ShP W := hj 0 (by decide)
      have q1 : ∀ k : Int, 0 ≤ k → k < 8 → GrpP W k := hj 1 (by decide)
      exact ⟨_, rfl, fun _ _ => rfl, _, decB_t, k_impl_shelvesOk hp (q0.wa q1) hf⟩
    · have q0 : ShP W := hj 0 (by decide)
      have q1 : ∀ k : Int, 0 ≤ k → k < 8 → GrpP W k := hj 1 (by decide)
      have q2 : ∀ t : Int, 0 ≤ t → t < 12 → TskQ W t := hj 2 (by decide)
      have q3 : ∀ k c : Int, 0 ≤ k → k < 8 → 0 ≤ c → c < ((gi W.groups k).shelves.length : Int) → ShfP W k c := hj 3 (by decide)
      exact ⟨_, rfl, fun _ _ => rfl, _, decB_t, k_impl_cpusOk hp (q0.wa q1) (fun t h0 h1 => (q2 t h0 h1).1) q3⟩
  refine ⟨fun vs w1 => ∃ k : Nat, vs = [.bool true, .int .i64 (k : Int)] ∧ k ≤ 5 ∧ ExtX [] wb w1 ∧ ∀ j : Nat, j < k → Cn j, cntMw 5 1, fun wr hx _ => ⟨0, rfl, by omega, hx, fun j hj => absurd hj (Nat.not_lt_zero j)⟩, ?_⟩
  rintro ok x w1 hs1 ⟨k, he, hk, hX, hI⟩
  simp only [List.cons.injEq, Value.int.injEq, Value.bool.injEq, true_and, and_true] at he
  obtain ⟨rfl, rfl⟩ := he
  have fr : ∀ {w2 : World}, ExtX [b1] w1 w2 → ExtX [] wb w2 := fun {w2} hx => hX.fresh hx fun y hm => .inl (by
    have : y = b1 := by simpa using hm
    omega)
  refine ⟨fun hlt => ?_, fun hge wr hx => ⟨?_, hxb.trans (fr hx)⟩⟩
  · have hlt := of_decide_eq_true hlt
    obtain ⟨F, hF, _⟩ := cond k (by omega) hI hX
    refine ⟨.func F, #[], #[], ⟨by omega, by omega, by rw [Int.toNat_natCast]; exact hF⟩, fun wr1 hx1 hs2 => ?_⟩
    obtain ⟨F', hF', hcv, rv, hrv, hpu⟩ := cond k (by omega) hI (fr hx1)
    rw [hF] at hF'
    simp only [Option.some.injEq, Value.func.injEq, Fn.func.injEq, and_self, and_true] at hF'
    subst hF'
    refine .inl ⟨F, #[.pointer (some ⟨b, 0, none⟩)], ?_, ?_⟩
    · exact hcv _ _
    · refine (hpu wr1 (ExtX.refl _ _)).mono fun e w3 ⟨he, hx3⟩ => ⟨rv, he, kept_of hx3 hs2, fun g wr2 hx4 => ⟨?_, hxb.trans ((fr hx1).trans hx3 |>.fresh hx4 fun y hm => .inl (by
        have : y = b1 := by simpa using hm
        omega))⟩, fun g => ⟨⟨by omega, by omega⟩, fun wr3 hx4 _ => ⟨⟨k + 1, by simp, by omega, ((fr hx1).trans hx3).fresh hx4 fun y hm => .inl (by
        have : y = b1 := by simpa using hm
        omega), fun j hj => ?_⟩, cntM_ltW (k := k) rfl rfl (by omega)⟩⟩⟩
      · have g : rv = false := by simpa using g
        exact noP fun q => by
          rw [hrv.2 (all q k (by omega))] at g; cases g
      · by_cases hjk : j < k
        · exact hI j hjk
        · have : j = k := by omega
          subst this
          exact hrv.1 (by simpa using g)
  · have hge := of_decide_eq_false hge
    have : k = 5 := by omega
    subst this
    exact yesP (back hI)
end
end Go.Proofs.YtnofpcbjpcoghaaGreat
namespace Go.Proofs.YtnofpcbjpcoghaaGreat
open Go.RowKit
set_option linter.unusedVariables false
set_option linter.unusedSimpArgs false
set_option maxRecDepth 10000
theorem elt_Cpu : Elt Tryz.prog encC 5 ty_impl_Cpu 40 (⟨false, 0, 0, 0, 0⟩ : Cpu) := elt_of (by kernel_rfl) fun _ => rfl
theorem u_sl_impl_Cpu : Tryz.prog.underlying ty_sl_impl_Cpu = some (.slice ty_impl_Cpu) := by kernel_rfl
theorem k_szCpuS {o : Option Addr} {n c : Nat} {left : Int} {w : World} {bs : List Nat} (hn : n ≤ maxLen) (hl : 0 ≤ left) (hl2 : left ≤ 1048576) : PureX bs Tryz.prog fn_laws_szCpuS #[.slice o n c, .int .i64 left] w (.int .i64 (szN n left)) :=
  p_laws_szCpuS o n c left fun wr hx => by
    have := maxLen_le
    exact ⟨⟨by omega, by omega⟩, fun h => by rw [szN, if_pos (of_decide_eq_true h)], fun h => by rw [szN, if_neg (of_decide_eq_false h)]⟩
theorem k_eqCpu {a b : Cpu} {w : World} {bs : List Nat} : PureX bs Tryz.prog fn_laws_eqCpu #[.agg (encC a).toArray, .agg (encC b).toArray] w (.bool (decide (a = b))) :=
  p_laws_eqCpu a.up a.cur a.ran a.busy a.idle b.up b.cur b.ran b.busy b.idle fun wr hx => by
    cases a; cases b
    intro _ _ _ _
    repeat' (apply And.intro <;> intro h)
    all_goals (congr 1; simp_all)
theorem k_toCpu {a : Cpu} {w : World} {bs : List Nat} : PureX bs Tryz.prog fn_laws_toCpu #[.agg (encC a).toArray] w (.agg (encC a).toArray) :=
  p_laws_toCpu a.up a.cur a.ran a.busy a.idle fun wr hx => by
    intro _ _ _ _ _ _
    rfl
theorem k_eqCpuS {a b : List Cpu} {aO bO : Option Addr} {aC bC : Nat} {w : World} {bs : List Nat} (ha : RdC bs w aO a) (hb : RdC bs w bO b) (ha9 : a.length ≤ maxLen) : PureX bs Tryz.prog fn_laws_eqCpuS #[.slice aO a.length aC, .slice bO b.length bC] w (.bool (decide (a = b))) :=
  p_laws_eqCpuS aO a.length aC bO b.length bC fun wr hx => by
    have ha := (ha.ext hx).less (cs := []) (by simp)
    have hb := (hb.ext hx).less (cs := []) (by simp)
    refine ⟨fun h => ?_, fun h => ?_⟩
    · have h : a.length ≠ b.length := by simpa [Int.ofNat_inj] using h
      rw [decide_eq_false fun e => h (by rw [e])]
    · have hl : a.length = b.length := by simpa [Int.ofNat_inj] using h
      refine loop1 a.length 0 rfl (fun k => k ≤ a.length ∧ ∀ j : Nat, j < k → gi a (j : Int) = gi b (j : Int)) ⟨Nat.zero_le _, fun j hj => absurd hj (Nat.not_lt_zero j)⟩ fun k ⟨hk, hI⟩ => ⟨fun hlt => ?_, fun hge => ?_⟩
      · have hlt := of_decide_eq_true hlt
        refine ⟨ha.ix encC_c (by omega) hlt, _, _, _, _, _, ha k (by omega) hlt, hb.ix encC_c (by omega) (by omega), _, _, _, _, _, hb k (by omega) (by omega), _, k_eqCpu (a := gi a k) (b := gi b k), fun hne => ?_, fun heq => ⟨inR_nat hlt ha9, loop1_next (by omega) ?_⟩⟩
        · have hne : gi a (k : Int) ≠ gi b (k : Int) := by simpa using hne
          rw [decide_eq_false fun e => hne (by rw [e])]
        · have heq : gi a (k : Int) = gi b (k : Int) := by simpa using heq
          exact ⟨by omega, fun j hj => by
            by_cases hjk : j < k
            · exact hI j hjk
            · have : j = k := by omega
              subst this; exact heq⟩
      · have hge := of_decide_eq_false hge
        have hk : k = a.length := by omega
        subst hk
        rw [decide_eq_true (gi_ext hl hI)]
theorem k_toCpuS {l : List Cpu} {o : Option Addr} {c : Nat} {w : World} (h : RdC [] w o l) (hl : l.length ≤ 1048576) :
    Calls Tryz.prog fn_laws_toCpuS #[.slice o l.length c] w fun e w' => ∃ o' c', e = .returned (.slice o' l.length c') ∧ Own encC 5 ty_impl_Cpu w.heap.size w' o' c' l ∧ ExtX [] w w' := by
  refine (e_laws_toCpuS o l.length c (R := fun v w' => ∃ o' c', v = .slice o' l.length c' ∧ Own encC 5 ty_impl_Cpu w.heap.size w' o' c' l ∧ ExtX [] w w') ?_).mono fun e w' ⟨v, he, o', c', hv, h1, h2⟩ => ⟨o', c', by rw [he, hv], h1, h2⟩
  have hm := maxLen_big
  refine fun wr hx _ => ⟨_, _, _, _, run_mk elt_Cpu u_sl_impl_Cpu l.length (by omega) (by omega) wr, kept_nil, ?_⟩
  refine loop1w l.length 0 rfl (fun k w1 => k ≤ l.length ∧ Own encC 5 ty_impl_Cpu wr.heap.size w1 (some ⟨wr.heap.size, 0, none⟩) l.length (l.take k ++ List.replicate (l.length - k) (⟨false, 0, 0, 0, 0⟩ : Cpu)) ∧ ExtX [] wr w1) (fun w1 hx1 _ => ⟨Nat.zero_le _, by simpa using (own_made (enc := encC) elt_Cpu.len ty_impl_Cpu l.length (⟨false, 0, 0, 0, 0⟩ : Cpu) wr).ext0 hx1, (ext_alloc wr _).trans hx1⟩) fun k w1 _ ⟨hk, hO, hX⟩ => ⟨fun hlt => ?_, fun hge => ?_⟩
  · have hlt := of_decide_eq_true hlt
    have hr := (h.ext hx).ext hX
    have hlen : (l.take k ++ List.replicate (l.length - k) (⟨false, 0, 0, 0, 0⟩ : Cpu)).length = l.length := by simp; omega
    have hi : ((k : Int)) < ((l.take k ++ List.replicate (l.length - k) (⟨false, 0, 0, 0, 0⟩ : Cpu)).length : Int) := by rw [hlen]; exact hlt
    refine ⟨hr.ix encC_c (by omega) hlt, _, _, _, _, _, hr k (by omega) hlt, _, _, _, _, _, (k_toCpu (a := gi l k)), by have := hO.ix (i := (k : Int)) (by omega) hi; rwa [hlen] at this, hO.wr elt_Cpu.len (by simp) (by omega) hi (j := 0) (by omega), inR_nat hlt (by omega), fun w2 hx2 _ => loop1w_next (by omega) ⟨by omega, ?_, ?_⟩⟩
    · have := (hO.sto elt_Cpu.len (i := (k : Int)) (by omega) hi (j := 0) (vs := encC (gi l k)) (x := gi l k) (by rw [List.take_zero, List.nil_append, List.drop_eq_nil_iff.2 (by rw [Nat.zero_add, elt_Cpu.len, elt_Cpu.len]; exact Nat.le_refl _), List.append_nil]) (by rw [Nat.zero_add, elt_Cpu.len]; exact Nat.le_refl _)).ext0 hx2
      rwa [Int.toNat_natCast, fill_step l k (by omega)] at this
    · exact (hO.stoB _ _ hX (Nat.le_refl _)).trans hx2
  · have hge := of_decide_eq_false hge
    have hk : k = l.length := by omega
    subst hk
    simp only [List.take_length, Nat.sub_self, List.replicate_zero, List.append_nil] at hO
    exact fun w2 hx2 => ⟨_, _, rfl, (hO.ext0 hx2).mono hx.size, (hx.trans hX).trans hx2⟩
theorem elt_Task : Elt Tryz.prog encT 9 ty_impl_Task 72 (⟨0, 0, 0, 0, 0, 0, 0, 0, 0⟩ : Tsk) := elt_of (by kernel_rfl) fun _ => rfl
theorem u_sl_impl_Task : Tryz.prog.underlying ty_sl_impl_Task = some (.slice ty_impl_Task) := by kernel_rfl
theorem k_szTaskS {o : Option Addr} {n c : Nat} {left : Int} {w : World} {bs : List Nat} (hn : n ≤ maxLen) (hl : 0 ≤ left) (hl2 : left ≤ 1048576) : PureX bs Tryz.prog fn_laws_szTaskS #[.slice o n c, .int .i64 left] w (.int .i64 (szN n left)) :=
  p_laws_szTaskS o n c left fun wr hx => by
    have := maxLen_le
    exact ⟨⟨by omega, by omega⟩, fun h => by rw [szN, if_pos (of_decide_eq_true h)], fun h => by rw [szN, if_neg (of_decide_eq_false h)]⟩
theorem k_eqTask {a b : Tsk} {w : World} {bs : List Nat} : PureX bs Tryz.prog fn_laws_eqTask #[.agg (encT a).toArray, .agg (encT b).toArray] w (.bool (decide (a = b))) :=
  p_laws_eqTask a.state a.group a.cpu a.nice a.mask a.v a.sum a.used a.load b.state b.group b.cpu b.nice b.mask b.v b.sum b.used b.load fun wr hx => by
    cases a; cases b
    intro _ _ _ _
    repeat' (apply And.intro <;> intro h)
    all_goals (congr 1; simp_all)
theorem k_toTask {a : Tsk} {w : World} {bs : List Nat} : PureX bs Tryz.prog fn_laws_toTask #[.agg (encT a).toArray] w (.agg (encT a).toArray) :=
  p_laws_toTask a.state a.group a.cpu a.nice a.mask a.v a.sum a.used a.load fun wr hx => by
    intro _ _ _ _ _ _
    rfl
theorem k_eqTaskS {a b : List Tsk} {aO bO : Option Addr} {aC bC : Nat} {w : World} {bs : List Nat} (ha : RdT bs w aO a) (hb : RdT bs w bO b) (ha9 : a.length ≤ maxLen) : PureX bs Tryz.prog fn_laws_eqTaskS #[.slice aO a.length aC, .slice bO b.length bC] w (.bool (decide (a = b))) :=
  p_laws_eqTaskS aO a.length aC bO b.length bC fun wr hx => by
    have ha := (ha.ext hx).less (cs := []) (by simp)
    have hb := (hb.ext hx).less (cs := []) (by simp)
    refine ⟨fun h => ?_, fun h => ?_⟩
    · have h : a.length ≠ b.length := by simpa [Int.ofNat_inj] using h
      rw [decide_eq_false fun e => h (by rw [e])]
    · have hl : a.length = b.length := by simpa [Int.ofNat_inj] using h
      refine loop1 a.length 0 rfl (fun k => k ≤ a.length ∧ ∀ j : Nat, j < k → gi a (j : Int) = gi b (j : Int)) ⟨Nat.zero_le _, fun j hj => absurd hj (Nat.not_lt_zero j)⟩ fun k ⟨hk, hI⟩ => ⟨fun hlt => ?_, fun hge => ?_⟩
      · have hlt := of_decide_eq_true hlt
        refine ⟨ha.ix encT_c (by omega) hlt, _, _, _, _, _, _, _, _, _, ha k (by omega) hlt, hb.ix encT_c (by omega) (by omega), _, _, _, _, _, _, _, _, _, hb k (by omega) (by omega), _, k_eqTask (a := gi a k) (b := gi b k), fun hne => ?_, fun heq => ⟨inR_nat hlt ha9, loop1_next (by omega) ?_⟩⟩
        · have hne : gi a (k : Int) ≠ gi b (k : Int) := by simpa using hne
          rw [decide_eq_false fun e => hne (by rw [e])]
        · have heq : gi a (k : Int) = gi b (k : Int) := by simpa using heq
          exact ⟨by omega, fun j hj => by
            by_cases hjk : j < k
            · exact hI j hjk
            · have : j = k := by omega
              subst this; exact heq⟩
      · have hge := of_decide_eq_false hge
        have hk : k = a.length := by omega
        subst hk
        rw [decide_eq_true (gi_ext hl hI)]
theorem k_toTaskS {l : List Tsk} {o : Option Addr} {c : Nat} {w : World} (h : RdT [] w o l) (hl : l.length ≤ 1048576) :
    Calls Tryz.prog fn_laws_toTaskS #[.slice o l.length c] w fun e w' => ∃ o' c', e = .returned (.slice o' l.length c') ∧ Own encT 9 ty_impl_Task w.heap.size w' o' c' l ∧ ExtX [] w w' := by
  refine (e_laws_toTaskS o l.length c (R := fun v w' => ∃ o' c', v = .slice o' l.length c' ∧ Own encT 9 ty_impl_Task w.heap.size w' o' c' l ∧ ExtX [] w w') ?_).mono fun e w' ⟨v, he, o', c', hv, h1, h2⟩ => ⟨o', c', by rw [he, hv], h1, h2⟩
  have hm := maxLen_big
  refine fun wr hx _ => ⟨_, _, _, _, run_mk elt_Task u_sl_impl_Task l.length (by omega) (by omega) wr, kept_nil, ?_⟩
  refine loop1w l.length 0 rfl (fun k w1 => k ≤ l.length ∧ Own encT 9 ty_impl_Task wr.heap.size w1 (some ⟨wr.heap.size, 0, none⟩) l.length (l.take k ++ List.replicate (l.length - k) (⟨0, 0, 0, 0, 0, 0, 0, 0, 0⟩ : Tsk)) ∧ ExtX [] wr w1) (fun w1 hx1 _ => ⟨Nat.zero_le _, by simpa using (own_made (enc := encT) elt_Task.len ty_impl_Task l.length (⟨0, 0, 0, 0, 0, 0, 0, 0, 0⟩ : Tsk) wr).ext0 hx1, (ext_alloc wr _).trans hx1⟩) fun k w1 _ ⟨hk, hO, hX⟩ => ⟨fun hlt => ?_, fun hge => ?_⟩
  · have hlt := of_decide_eq_true hlt
    have hr := (h.ext hx).ext hX
    have hlen : (l.take k ++ List.replicate (l.length - k) (⟨0, 0, 0, 0, 0, 0, 0, 0, 0⟩ : Tsk)).length = l.length := by simp; omega
    have hi : ((k : Int)) < ((l.take k ++ List.replicate (l.length - k) (⟨0, 0, 0, 0, 0, 0, 0, 0, 0⟩ : Tsk)).length : Int) := by rw [hlen]; exact hlt
    refine ⟨hr.ix encT_c (by omega) hlt, _, _, _, _, _, _, _, _, _, hr k (by omega) hlt, _, _, _, _, _, _, _, _, _, (k_toTask (a := gi l k)), by have := hO.ix (i := (k : Int)) (by omega) hi; rwa [hlen] at this, hO.wr elt_Task.len (by simp) (by omega) hi (j := 0) (by omega), inR_nat hlt (by omega), fun w2 hx2 _ => loop1w_next (by omega) ⟨by omega, ?_, ?_⟩⟩
    · have := (hO.sto elt_Task.len (i := (k : Int)) (by omega) hi (j := 0) (vs := encT (gi l k)) (x := gi l k) (by rw [List.take_zero, List.nil_append, List.drop_eq_nil_iff.2 (by rw [Nat.zero_add, elt_Task.len, elt_Task.len]; exact Nat.le_refl _), List.append_nil]) (by rw [Nat.zero_add, elt_Task.len]; exact Nat.le_refl _)).ext0 hx2
      rwa [Int.toNat_natCast, fill_step l k (by omega)] at this
    · exact (hO.stoB _ _ hX (Nat.le_refl _)).trans hx2
  · have hge := of_decide_eq_false hge
    have hk : k = l.length := by omega
    subst hk
    simp only [List.take_length, Nat.sub_self, List.replicate_zero, List.append_nil] at hO
    exact fun w2 hx2 => ⟨_, _, rfl, (hO.ext0 hx2).mono hx.size, (hx.trans hX).trans hx2⟩
end Go.Proofs.YtnofpcbjpcoghaaGreat
namespace Go.Proofs.YtnofpcbjpcoghaaGreat
open Go.RowKit
set_option linter.unusedVariables false
set_option linter.unusedSimpArgs false
set_option maxRecDepth 10000
structure SmW (W : Wld) : Prop where
  c : W.cpus.length ≤ 1048576
  t : W.tasks.length ≤ 1048576
  g : W.groups.length ≤ 1048576
  gs : ∀ i : Int, 0 ≤ i → i < (W.groups.length : Int) → SmG (gi W.groups i)
def szWd (W : Wld) (left : Int) : Int :=
  if szN W.cpus.length left < 0 then -1 else if szN W.tasks.length (szN W.cpus.length left) < 0 then -1
  else if szGS W.groups (szN W.tasks.length (szN W.cpus.length left)) < 0 then -1 else szGS W.groups (szN W.tasks.length (szN W.cpus.length left))
theorem szWd_nn {W : Wld} {left : Int} (hl2 : left ≤ 1048576) (h : 0 ≤ szWd W left) : SmW W ∧ szWd W left ≤ left := by
  unfold szWd at h ⊢
  split at h
  · omega
  · rename_i h1
    rw [if_neg h1]
    obtain ⟨a1, a2⟩ := szN_nn (n := W.cpus.length) (left := left) (by omega)
    split at h
    · omega
    · rename_i h2
      rw [if_neg h2]
      obtain ⟨b1, b2⟩ := szN_nn (n := W.tasks.length) (left := szN W.cpus.length left) (by omega)
      split at h
      · omega
      · rename_i h3
        rw [if_neg h3]
        obtain ⟨c1, c2, c3⟩ := szGS_nn (gs := W.groups) (left := szN W.tasks.length (szN W.cpus.length left)) (by omega) (by omega)
        exact ⟨⟨by omega, by omega, c2, c3⟩, by omega⟩
section
variable {W : Wld} {m : MW} {w w' : World}
theorem k_szWorld {left : Int} (ft : FitW w W m) (hl : 0 ≤ left) (hl2 : left ≤ 1048576) : PureX [] Tryz.prog fn_laws_szWorld #[.agg (encW W m).toArray, .int .i64 left] w (.int .i64 (szWd W left)) :=
  p_laws_szWorld W.now m.cO W.cpus.length m.cC m.tO W.tasks.length m.tC m.gO W.groups.length m.gC left fun wr hx => by
    have rd := ft.rd.ext hx
    intro _ _
    refine ⟨_, k_szCpuS ft.lc hl hl2, fun g => ?_, fun g => ?_⟩
    · unfold szWd; rw [if_pos (of_decide_eq_true g)]
    · have g := of_decide_eq_false g
      obtain ⟨a1, a2⟩ := szN_nn (n := W.cpus.length) (left := left) (by omega)
      refine ⟨_, k_szTaskS ft.lt (by omega) (by omega), fun g2 => ?_, fun g2 => ?_⟩
      · unfold szWd; rw [if_neg g, if_pos (of_decide_eq_true g2)]
      · have g2 := of_decide_eq_false g2
        obtain ⟨b1, b2⟩ := szN_nn (n := W.tasks.length) (left := szN W.cpus.length left) (by omega)
        refine ⟨_, k_szGroupS rd.g ft.ft (by omega) (by omega) ft.lg, fun g3 => ?_, fun g3 => ?_⟩
        · unfold szWd; rw [if_neg g, if_neg g2, if_pos (of_decide_eq_true g3)]
        · have g3 := of_decide_eq_false g3
          unfold szWd; rw [if_neg g, if_neg g2, if_neg g3]
theorem k_eqWorld {A B : Wld} {ma mb : MW} {bs : List Nat} (ha : RdW bs w A ma) (hb : RdW bs w B mb) (hs : SmW A) :
    PureX bs Tryz.prog fn_laws_eqWorld #[.agg (encW A ma).toArray, .agg (encW B mb).toArray] w (.bool (decide (A = B))) :=
  p_laws_eqWorld A.now ma.cO A.cpus.length ma.cC ma.tO A.tasks.length ma.tC ma.gO A.groups.length ma.gC B.now mb.cO B.cpus.length mb.cC mb.tO B.tasks.length mb.tC mb.gO B.groups.length mb.gC fun wr hx => by
    have ha := (ha.ext hx).less (cs := []) (by simp)
    have hb := (hb.ext hx).less (cs := []) (by simp)
    have hm := maxLen_big
    have hc := hs.c
    have ht := hs.t
    have hg := hs.g
    intro _ _ _ _
    refine ⟨fun g => ?_, fun g => ⟨_, k_eqCpuS ha.c hb.c (by omega), fun g2 => ?_, fun g2 => ⟨_, k_eqTaskS ha.t hb.t (by omega), fun g3 => ?_, fun g3 => ⟨_, k_eqGroupS ha.g hb.g hs.gs (by omega), fun g4 => ?_, fun g4 => ?_⟩⟩⟩⟩
    · rw [decide_eq_false fun e => by rw [e] at g; simp at g]
    · rw [decide_eq_false fun e => by rw [e] at g2; simp at g2]
    · rw [decide_eq_false fun e => by rw [e] at g3; simp at g3]
    · rw [decide_eq_false fun e => by rw [e] at g4; simp at g4]
    · have e1 : A.now = B.now := by simpa using g
      have e2 : A.cpus = B.cpus := by simpa using g2
      have e3 : A.tasks = B.tasks := by simpa using g3
      have e4 : A.groups = B.groups := by simpa using g4
      have : A = B := by
        cases A; cases B
        simp only at e1 e2 e3 e4
        rw [e1, e2, e3, e4]
      rw [decide_eq_true this]
structure OwnW (base : Nat) (w : World) (W : Wld) (m : MW) : Prop where
  c : Own encC 5 ty_impl_Cpu base w m.cO m.cC W.cpus
  t : Own encT 9 ty_impl_Task base w m.tO m.tC W.tasks
  g : ∃ ps : List (Grp × MG), ps.map (·.1) = W.groups ∧ (fun k : Nat => (gi ps (k : Int)).2) = m.ms ∧ OwnG base w m.gO m.gC ps
theorem OwnG.ext {base : Nat} {o : Option Addr} {cap : Nat} {ps : List (Grp × MG)} {bs : List Nat} (h : OwnG base w o cap ps) (hx : ExtX bs w w') (hb : ∀ x ∈ bs, x < base) : OwnG base w' o cap ps :=
  ⟨h.row.ext hx fun b hm hm' => by have := (h.row.lt b hm).1; have := hb b hm'; omega, fun i a b => (h.each i a b).ext hx fun x hm hm' => by have := ((h.each i a b).lt x hm).1; have := hb x hm'; omega, h.dj⟩
theorem OwnW.ext {base : Nat} {bs : List Nat} (h : OwnW base w W m) (hx : ExtX bs w w') (hb : ∀ x ∈ bs, x < base) : OwnW base w' W m :=
  ⟨h.c.ext hx fun b hm hm' => by have := (h.c.lt b hm).1; have := hb b hm'; omega, h.t.ext hx fun b hm hm' => by have := (h.t.lt b hm).1; have := hb b hm'; omega, by
    obtain ⟨ps, h1, h2, h3⟩ := h.g
    exact ⟨ps, h1, h2, h3.ext hx hb⟩⟩
theorem OwnW.ext0 {base : Nat} (h : OwnW base w W m) (hx : ExtX [] w w') : OwnW base w' W m := h.ext hx (by simp)
theorem OwnW.mono {base base' : Nat} (h : OwnW base w W m) (hb : base' ≤ base) : OwnW base' w W m :=
  ⟨h.c.mono hb, h.t.mono hb, by
    obtain ⟨ps, h1, h2, h3⟩ := h.g
    exact ⟨ps, h1, h2, h3.mono hb⟩⟩
theorem OwnW.rd {base : Nat} {bs : List Nat} (h : OwnW base w W m) (hb : ∀ x ∈ bs, x < base) : RdW bs w W m := by
  obtain ⟨ps, h1, h2, h3⟩ := h.g
  have hr := h3.rd (bs := bs) fun b h1 _ hm => by have := hb b hm; omega
  rw [h1, h2] at hr
  exact ⟨h.c.rd elt_Cpu.len fun b hm hm' => by have := (h.c.lt b hm).1; have := hb b hm'; omega, h.t.rd elt_Task.len fun b hm hm' => by have := (h.t.lt b hm).1; have := hb b hm'; omega, hr⟩
theorem k_toWorld (h : RdW [] w W m) (hs : SmW W) :
    Calls Tryz.prog fn_laws_toWorld #[.agg (encW W m).toArray] w fun e w' => ∃ m', e = .returned (.agg (encW W m').toArray) ∧ OwnW w.heap.size w' W m' ∧ ExtX [] w w' := by
  refine (e_laws_toWorld W.now m.cO W.cpus.length m.cC m.tO W.tasks.length m.tC m.gO W.groups.length m.gC (R := fun v w' => ∃ m', v = .agg (encW W m').toArray ∧ OwnW w.heap.size w' W m' ∧ ExtX [] w w') ?_).mono fun e w' ⟨v, he, m', hv, h1⟩ => ⟨m', by rw [he, hv], h1⟩
  intro b hb b1 hb1 b2 hb2 wr hx hs1
  have hbs : ∀ x ∈ [b, b1, b2], w.heap.size ≤ x := fun x hm => by
    simp only [List.mem_cons, List.not_mem_nil, or_false] at hm
    rcases hm with rfl | rfl | rfl <;> assumption
  refine (k_toCpuS (h.c.ext hx) hs.c).mono fun e w1 ⟨oc, cc, he, hC, hx1⟩ => ⟨_, _, _, he, kept_of hx1 hs1, fun wr1 hy1 hs2 => ?_⟩
  have X1 : ExtX [] w wr1 := (hx.trans hx1).fresh hy1 fun x hm => .inl (hbs x hm)
  have C1 := hC.ext hy1 fun x hm hm' => by have := (hC.lt x hm).1; have := hs1 x hm'; omega
  refine (k_toTaskS (h.t.ext X1) hs.t).mono fun e w2 ⟨ot, ct, he, hT, hx2⟩ => ⟨_, _, _, he, kept_of hx2 hs2, fun wr2 hy2 hs3 => ?_⟩
  have X2 : ExtX [] w wr2 := (X1.trans hx2).fresh hy2 fun x hm => .inl (hbs x hm)
  have C2 := (C1.ext0 hx2).ext hy2 fun x hm hm' => by have := (hC.lt x hm).1; have := hs1 x hm'; omega
  have T2 := hT.ext hy2 fun x hm hm' => by have := (hT.lt x hm).1; have := hs2 x hm'; omega
  refine (k_toGroupS (h.g.ext X2) hs.gs hs.g).mono fun e w3 ⟨og, cg, ps, he, hm, hG, hx3⟩ => ⟨_, _, _, he, kept_of hx3 hs3, fun wr3 hy3 => ?_⟩
  have X3 : ExtX [] w wr3 := (X2.trans hx3).fresh hy3 fun x hm => .inl (hbs x hm)
  have C3 := (C2.ext0 hx3).ext hy3 fun x hm hm' => by have := (hC.lt x hm).1; have := hs1 x hm'; omega
  have T3 := (T2.ext0 hx3).ext hy3 fun x hm hm' => by have := (hT.lt x hm).1; have := hs2 x hm'; omega
  have G3 := hG.ext hy3 hs3
  exact ⟨⟨oc, cc, ot, ct, og, cg, fun k => (gi ps (k : Int)).2⟩, rfl, ⟨C3.mono hx.size, T3.mono X1.size, ps, hm, rfl, G3.mono X2.size⟩, X3⟩
end
theorem FitW.at {w w' : World} {W : Wld} {m : MW} (ft : FitW w W m) (hx : ExtX [] w w') : RdW [] w' W m := ft.rd.ext hx
end Go.Proofs.YtnofpcbjpcoghaaGreat
namespace Go.Proofs.YtnofpcbjpcoghaaGreat
open Go.RowKit
set_option linter.unusedVariables false
set_option linter.unusedSimpArgs false
structure Sc (w0 : World) (bs : List Nat) (w : World) : Prop where
  ext : ExtX [] w0 w
  new : ∀ x ∈ bs, w0.heap.size ≤ x
theorem Sc.start (w : World) : Sc w [] w := ⟨ExtX.refl _ _, by simp⟩
theorem Sc.step {w0 : World} {bs : List Nat} {w w' : World} (h : Sc w0 bs w) (hx : ExtX bs w w') : Sc w0 bs w' := ⟨h.ext.fresh hx fun x hm => .inl (h.new x hm), h.new⟩
theorem Sc.call {w0 : World} {bs cs : List Nat} {w w' : World} (h : Sc w0 bs w) (hx : ExtX cs w w') (hc : ∀ x ∈ cs, w0.heap.size ≤ x) : Sc w0 bs w' := ⟨h.ext.fresh hx fun x hm => .inl (hc x hm), h.new⟩
theorem Sc.call0 {w0 : World} {bs : List Nat} {w w' : World} (h : Sc w0 bs w) (hx : ExtX [] w w') : Sc w0 bs w' := ⟨h.ext.trans hx, h.new⟩
theorem Sc.add {w0 : World} {bs : List Nat} {w : World} {b : Nat} (h : Sc w0 bs w) (hb : w.heap.size ≤ b) : Sc w0 (bs ++ [b]) w := ⟨h.ext, fun x hm => by
  rcases List.mem_append.1 hm with hm | hm
  · exact h.new x hm
  · have : x = b := by simpa using hm
    have := h.ext.size
    omega⟩
theorem Sc.sub {w0 : World} {bs cs : List Nat} {w : World} (h : Sc w0 bs w) (hs : ∀ x ∈ cs, x ∈ bs) : Sc w0 cs w := ⟨h.ext, fun x hm => h.new x (hs x hm)⟩
theorem Sc.put {w0 : World} {bs : List Nat} {w w' : World} {b : Nat} (h : Sc w0 bs w) (hx : ExtX bs w w') (hb : w.heap.size ≤ b) : Sc w0 (bs ++ [b]) w' := ⟨(h.step hx).ext, (h.add hb).new⟩
structure Ob {α : Type} (enc : α → List Value) (z : Nat) (ty : TypeId) (base : Nat) (bs : List Nat) (w : World) (o : Option Addr) (cap : Nat) (l : List α) : Prop where
  own : Own enc z ty base w o cap l
  nb : ∀ x ∈ blkOf o, x ∉ bs
section
variable {α : Type} {enc : α → List Value} {z : Nat} {ty : TypeId} {base : Nat} {bs cs : List Nat} {w w' : World} {o : Option Addr} {cap : Nat} {l : List α} {b : Nat}
theorem Ob.of (h : Own enc z ty base w o cap l) (hs : ∀ x ∈ bs, x < base) : Ob enc z ty base bs w o cap l := ⟨h, fun x hx hm => by
  have := (h.lt x hx).1
  have := hs x hm
  omega⟩
theorem Ob.step (h : Ob enc z ty base bs w o cap l) (hx : ExtX bs w w') : Ob enc z ty base bs w' o cap l := ⟨h.own.ext hx h.nb, h.nb⟩
theorem Ob.call0 (h : Ob enc z ty base bs w o cap l) (hx : ExtX [] w w') : Ob enc z ty base bs w' o cap l := ⟨h.own.ext0 hx, h.nb⟩
theorem Ob.call (h : Ob enc z ty base bs w o cap l) (hx : ExtX cs w w') (hd : ∀ x ∈ blkOf o, x ∉ cs) : Ob enc z ty base bs w' o cap l := ⟨h.own.ext hx hd, h.nb⟩
theorem Ob.add (h : Ob enc z ty base bs w o cap l) (hb : w.heap.size ≤ b) : Ob enc z ty base (bs ++ [b]) w o cap l := ⟨h.own, fun x hx hm => by
  rcases List.mem_append.1 hm with hm | hm
  · exact h.nb x hx hm
  · have : x = b := by simpa using hm
    have := (h.own.lt x hx).2
    omega⟩
theorem Ob.put (h : Ob enc z ty base bs w o cap l) (hx : ExtX bs w w') (hb : w.heap.size ≤ b) : Ob enc z ty base (bs ++ [b]) w' o cap l := ⟨(h.step hx).own, (h.add hb).nb⟩
theorem Ob.sub (h : Ob enc z ty base bs w o cap l) (hs : ∀ x ∈ cs, x ∈ bs) : Ob enc z ty base cs w o cap l := ⟨h.own, fun x hx hm => h.nb x hx (hs x hm)⟩
theorem Ob.mono {base' : Nat} (h : Ob enc z ty base bs w o cap l) (hb : base' ≤ base) : Ob enc z ty base' bs w o cap l := ⟨h.own.mono hb, h.nb⟩
theorem Ob.rd [Inhabited α] (h : Ob enc z ty base bs w o cap l) (hz : ∀ x, (enc x).length = z) : Rd enc z bs w o l := h.own.rd hz h.nb
end
theorem Rd.sc {α : Type} [Inhabited α] {enc : α → List Value} {z : Nat} {w0 : World} {bs : List Nat} {w : World} {o : Option Addr} {l : List α} (h : Rd enc z [] w0 o l) (hs : Sc w0 bs w) : Rd enc z [] w o l := h.ext hs.ext
end Go.Proofs.YtnofpcbjpcoghaaGreat
namespace Go.Proofs.YtnofpcbjpcoghaaGreat
open Go.RowKit
set_option linter.unusedVariables false
set_option linter.unusedSimpArgs false
set_option maxRecDepth 10000
theorem Ob.app1 {α : Type} [Inhabited α] {P : Program} {enc : α → List Value} {z : Nat} {ty t : TypeId} {bytes : Nat} {zero : α} (E : Elt P enc z ty bytes zero) (ht : P.underlying t = some (.slice ty)) {base : Nat} {bs : List Nat} {w : World} {o : Option Addr} {cap : Nat} {l : List α} (hO : Ob enc z ty base bs w o cap l)
    (hs : ∀ x ∈ bs, x < w.heap.size) (hbase : base ≤ w.heap.size) {x : α} {b : Nat} {t' : TypeId} {fz : Nat × Nat} (hb : w.heap[b]? = some (.cells (enc x).toArray t' fz)) (h1 : oneCells (enc x) = true) (hl : l.length ≤ 1048576) (hby : bytes ≤ 1000) (tr : TypeId) (cs : Array Bool) :
    ∃ o' cap' w', (builtin .append #[t, t] tr cs #[.slice o l.length cap, .slice (some ⟨b, 0, none⟩) 1 1]).run P w = .ok (.value (.slice o' (l ++ [x]).length cap')) w' ∧ Kept bs w w' ∧ Ob enc z ty base bs w' o' cap' (l ++ [x]) ∧ ExtX (blkOf o) w w' := by
  have hbb : (2 * (l.length + 1)) * bytes ≤ 281474976710656 := Nat.le_trans (Nat.mul_le_mul (show 2 * (l.length + 1) ≤ 2097154 by omega) hby) (by decide)
  obtain ⟨o2, c2, w2, hrun, hO2, hx2, ho2⟩ := run_app1 E ht hO.own hb h1 hbb (by omega) tr cs hbase
  refine ⟨o2, c2, w2, hrun, fun y hm => hx2.block y (hs y hm) fun hm' => hO.nb y hm' hm, ⟨hO2, fun y hy hm => ?_⟩, hx2⟩
  rcases ho2 with rfl | rfl
  · exact hO.nb y hy hm
  · have : y = w.heap.size := by simpa [blkOf] using hy
    have := hs y hm
    omega
def sumF (f : Nat → Int) : Nat → Int
  | 0 => 0
  | k + 1 => sumF f k + f k
theorem sumF_range {f : Nat → Int} {B : Int} (h : ∀ j, 0 ≤ f j ∧ f j ≤ B) : ∀ k : Nat, 0 ≤ sumF f k ∧ sumF f k ≤ (k : Int) * B
  | 0 => by simp [sumF]
  | k + 1 => by
    have ih := sumF_range h k
    have := h k
    simp only [sumF]
    rw [show ((k + 1 : Nat) : Int) * B = (k : Int) * B + B by rw [show ((k + 1 : Nat) : Int) = (k : Int) + 1 by omega, Int.add_mul, Int.one_mul]]
    omega
theorem sumI_app (l : List Int) (x : Int) : sumI (l ++ [x]) (l ++ [x]).length = sumI l l.length + x := by
  have key : ∀ k : Nat, k ≤ l.length → sumI (l ++ [x]) k = sumI l k := fun k => by
    induction k with
    | zero => intro _; rfl
    | succ k ih =>
      intro hk
      simp only [sumI]
      rw [ih (by omega), gi_lt (by simp; omega), gi_lt (by omega), List.getElem_append_left]
  rw [List.length_append]
  show sumI (l ++ [x]) (l.length + 1) = _
  simp only [sumI]
  rw [key _ (Nat.le_refl _), gi_lt (by simp)]
  simp
theorem weightOf_range (n : Int) : 0 ≤ weightOf n ∧ weightOf n ≤ 20 := by
  unfold weightOf
  split
  · rename_i h
    have := inB_t.1 h
    omega
  · omega
def loadF (W : Wld) (c : Int) (j : Nat) : Int := if (((tkk W (j : Int)).cpu == c) && lineD W (j : Int)) = true then weightOf (tkk W (j : Int)).nice else 0
def loadS (W : Wld) (c : Int) : Int := sumF (loadF W c) W.tasks.length
theorem loadF_range (W : Wld) (c : Int) (j : Nat) : 0 ≤ loadF W c j ∧ loadF W c j ≤ 20 := by
  unfold loadF
  split
  · exact weightOf_range _
  · omega
def cpuIn (W : Wld) (c : Int) : Bool := inB c 0 ((W.cpus.length : Int) - 1)
theorem cpuIn_t {W : Wld} {c : Int} (h : cpuIn W c = true) : 0 ≤ c ∧ c < (W.cpus.length : Int) := by have := inB_t.1 h; omega
theorem WldP.li {W : Wld} (wp : WldP W) {t : Int} (t0 : 0 ≤ t) (t1 : t < (W.tasks.length : Int)) (hs : (tkk W t).state = 1) : usedD W.groups (tkk W t).group = true ∧ 0 ≤ (tkk W t).cpu ∧ (tkk W t).cpu < (W.cpus.length : Int) := by
  have := wp.a.t
  exact line_use wp.a (wp.t t t0 (by omega)) hs
structure LenW (W : Wld) : Prop where
  c : W.cpus.length ≤ maxLen
  t : W.tasks.length ≤ maxLen
  g : W.groups.length ≤ maxLen
  f : ∀ i : Int, 0 ≤ i → i < (W.groups.length : Int) → FitG (gi W.groups i)
section
variable {W : Wld} {m : MW} {w : World} {bs : List Nat} {p : Option Addr}
theorem k_spec_l12Load {c : Int} (h : RdW bs w W m) (wp : WldP W) : PureX bs Tryz.prog fn_spec_l12Load #[.agg (encW W m).toArray, .int .i64 c] w (.int .i64 (loadS W c)) :=
  p_spec_l12Load W.now m.cO W.cpus.length m.cC m.tO W.tasks.length m.tC m.gO W.groups.length m.gC c fun wr hx => by
    have h := (h.ext hx).less (cs := []) (by simp)
    have htl := wp.a.t
    intro _ _
    refine loop2 W.tasks.length 0 rfl (fun x k => k ≤ W.tasks.length ∧ x = sumF (loadF W c) k) ⟨Nat.zero_le _, rfl⟩ fun x k ⟨hk, hx2⟩ => ⟨fun hlt => ?_, fun hge => ?_⟩
    · have hlt := of_decide_eq_true hlt
      have hr := sumF_range (loadF_range W c) k
      have hw := weightOf_range (tkk W (k : Int)).nice
      have eF : loadF W c k = if (((tkk W (k : Int)).cpu == c) && lineD W (k : Int)) = true then weightOf (tkk W (k : Int)).nice else 0 := rfl
      refine ⟨h.t.ix encT_c (by omega) hlt, _, h.t.f (by omega) hlt (j := 0) rfl, fun _ => h.t.ix encT_c (by omega) hlt, _, fun _ => h.t.f (by omega) hlt (j := 2) rfl, lineD W (k : Int), fun _ => k_spec_l8InLine h wp.a (by omega) hlt fun hs => wp.li (by omega) hlt hs, fun g2 => ⟨h.t.ix encT_c (by omega) hlt, _, h.t.f (by omega) hlt (j := 3) rfl, weightOf (tkk W (k : Int)).nice, k_spec_WeightOf, ⟨by omega, by omega⟩, ⟨by omega, by omega⟩, loop2_next (by omega) ⟨by omega, ?_⟩⟩, fun g2 => ⟨⟨by omega, by omega⟩, loop2_next (by omega) ⟨by omega, ?_⟩⟩⟩
      · have g2 : ((((tkk W (k : Int)).state == 1) && ((tkk W (k : Int)).cpu == c)) && lineD W (k : Int)) = true := g2
        simp only [Bool.and_eq_true] at g2
        simp only [sumF]; rw [eF, if_pos (by rw [g2.1.2, g2.2]; rfl), hx2]
      · have g2 : ((((tkk W (k : Int)).state == 1) && ((tkk W (k : Int)).cpu == c)) && lineD W (k : Int)) = false := g2
        simp only [sumF]; rw [eF, if_neg (fun hc => by
          simp only [Bool.and_eq_true] at hc
          have hl := hc.2
          unfold lineD at hl
          simp only [Bool.and_eq_true] at hl
          rw [hc.1, hc.2, hl.1] at g2
          cases g2), hx2]; omega
    · have hge := of_decide_eq_false hge
      have : k = W.tasks.length := by omega
      subst this
      rw [hx2]; rfl
theorem wpt_of {b : Nat} {wb w1 : World} {t : TypeId} (hcell : wb.heap[b]? = some (.cells (encW W m).toArray t (0, 0))) (h : RdW [] wb W m) (hx : ExtX [] wb w1) (hbs : ∀ x ∈ bs, wb.heap.size ≤ x) : WPt bs w1 (some ⟨b, 0, none⟩) W m := by
  have hbn : b ∉ bs := fun hm => by
    have := hbs b hm
    have := blk_lt hcell
    omega
  have hrd : RdW bs w1 W m := (h.wide (cs := bs) fun x hm => .inr (hbs x hm)).ext hx.of_nil
  exact ⟨cellsX_blk (blk_ext hcell hx (by simp)) hbn (k0 := 0) fun j v hj => by rw [Nat.zero_add, Nat.zero_add]; exact hj, hrd⟩
theorem WPt.sc {w0 w1 : World} (h : WPt [] w0 p W m) (s : Sc w0 bs w1) : WPt bs w1 p W m := (h.wide (cs := bs) fun x hm => .inr (s.new x hm)).ext s.ext.of_nil
theorem k_impl_total {l : List Int} {o : Option Addr} {c : Nat} (h : RdI bs w o l) (hl : l.length ≤ 1000) (hr : ∀ x ∈ l, 0 ≤ x ∧ x ≤ 1000000) : PureX bs Tryz.prog fn_impl_total #[.slice o l.length c] w (.int .i64 (sumI l l.length)) :=
  p_impl_total o l.length c fun wr hx => by
    have h := (h.ext hx).less (cs := []) (by simp)
    have hs := sumI_range (l := l) (q := 1000000) (fun i h0 h1 => hr _ (gi_mem h0 h1)) (by decide)
    refine loop2 l.length 0 rfl (fun x k => k ≤ l.length ∧ x = sumI l k) ⟨Nat.zero_le _, rfl⟩ fun x k ⟨hk, hx2⟩ => ⟨fun hlt => ?_, fun hge => ?_⟩
    · have hlt := of_decide_eq_true hlt
      have h1 := hs k hk
      have h2 := hr _ (gi_mem (l := l) (i := (k : Int)) (by omega) hlt)
      exact ⟨h.ix encI_c (by omega) hlt, _, h k (by omega) hlt, ⟨by omega, by omega⟩, ⟨by omega, by omega⟩, loop2_next (by omega) ⟨by omega, by simp only [sumI]; rw [hx2]⟩⟩
    · have hge := of_decide_eq_false hge
      have : k = l.length := by omega
      subst this
      rw [hx2]
theorem k_impl_weight {t : Int} (h : WPt bs w p W m) (t0 : 0 ≤ t) (t1 : t < (W.tasks.length : Int)) : PureX bs Tryz.prog fn_impl_World_weight #[.pointer p, .int .i64 t] w (.int .i64 (weightOf (tkk W t).nice)) :=
  p_impl_World_weight p t fun wr hx => by
    have h := (h.ext hx).less (cs := []) (by simp)
    exact ⟨h.some, _, _, _, h.tasks, h.rd.t.ix encT_c t0 t1, _, h.rd.t.f t0 t1 (j := 3) rfl, _, k_impl_WeightOf, rfl⟩
theorem k_impl_load {c : Int} (h : WPt bs w p W m) (wp : WldP W) (c0 : 0 ≤ c) (c1 : c < (W.cpus.length : Int)) : PureX bs Tryz.prog fn_impl_lane_load #[.agg #[.pointer p, .int .i64 c]] w (.int .i64 (loadS W c)) := by
  refine pureX_of fun wr0 hx0 => e_impl_lane_load p c (R := fun v w' => v = .int .i64 (loadS W c) ∧ ExtX [] wr0 w') ?_
  have h := (h.ext hx0).less (cs := []) (by simp)
  have htl := wp.a.t
  intro b hb
  refine ⟨h.some, _, _, _, h.tasks, ?_⟩
  refine ⟨fun vs w1 => ∃ (k : Nat) (ws : List Int) (o : Option Addr) (c' : Nat), vs = [.slice o ws.length c', .int .i64 (k : Int)] ∧ k ≤ W.tasks.length ∧ ws.length ≤ k ∧ (∀ x ∈ ws, 0 ≤ x ∧ x ≤ 20) ∧ sumI ws ws.length = sumF (loadF W c) k ∧ Sc wr0 [b] w1 ∧ Ob encI 1 ty_int wr0.heap.size [b] w1 o c' ws, cntMw W.tasks.length 1,
    fun wr hx _ => ⟨0, [], none, 0, rfl, Nat.zero_le _, Nat.le_refl _, by simp, rfl, ((Sc.start wr0).call0 hx |> fun s => ⟨s.ext, by simpa using hb⟩), ⟨.inl ⟨rfl, rfl, rfl⟩, by simp [blkOf]⟩⟩, ?_⟩
  rintro o1 L1 C1 x w1 hs1 ⟨k, ws, o', c', he, hk, hlen, hws, hsum, s1, hO⟩
  simp only [List.cons.injEq, Value.int.injEq, Value.slice.injEq, true_and, and_true] at he
  obtain ⟨⟨rfl, rfl, rfl⟩, rfl⟩ := he
  refine ⟨fun hlt => ?_, fun hge => ?_⟩
  · have hlt := of_decide_eq_true hlt
    have hp := h.sc s1
    have hw := weightOf_range (tkk W (k : Int)).nice
    have eF : loadF W c k = if (((tkk W (k : Int)).cpu == c) && lineD W (k : Int)) = true then weightOf (tkk W (k : Int)).nice else 0 := rfl
    refine ⟨_, k_impl_inLine hp wp.a (by omega) hlt c0 c1 fun hs => (wp.li (by omega) hlt hs).1, fun g => ⟨_, k_impl_weight hp (by omega) hlt, fun b1 hb1 wr1 hx1 hs2 hcell => ?_⟩, fun g => ⟨⟨by omega, by omega⟩, fun wr3 hx3 _ => ⟨⟨k + 1, ws, o1, C1, by simp, by omega, by omega, hws, ?_, s1.step hx3, hO.step hx3⟩, cntM_ltW (k := k) rfl rfl (by omega)⟩⟩⟩
    · have s2 := s1.put hx1 hb1
      have hO2 := hO.put hx1 hb1
      obtain ⟨o2, c2, w2, hrun, hk2, hO3, hx2⟩ := hO2.app1 elt_Int u_sl_int (x := weightOf (tkk W (k : Int)).nice) hs2 s2.ext.size hcell (oneI _) (by omega) (by decide) ty_sl_int #[false, false]
      have s3 := s2.call hx2 fun x hm => (hO2.own.lt x hm).1
      refine ⟨_, _, _, w2, hrun, hk2, ⟨by omega, by omega⟩, fun wr2 hx3 _ => ⟨⟨k + 1, ws ++ [weightOf (tkk W (k : Int)).nice], o2, c2, by simp, by omega, by simp; omega, fun x hm => ?_, ?_, (s3.step hx3).sub (by simp), (hO3.step hx3).sub (by simp)⟩, cntM_ltW (k := k) rfl rfl (by omega)⟩⟩
      · rcases List.mem_append.1 hm with hm | hm
        · exact hws x hm
        · have : x = weightOf (tkk W (k : Int)).nice := by simpa using hm
          rw [this]; exact hw
      · rw [sumI_app, hsum]
        simp only [sumF]; rw [eF, if_pos g]
    · simp only [sumF]; rw [eF, if_neg (by rw [g]; decide), hsum]; omega
  · have hge := of_decide_eq_false hge
    have : k = W.tasks.length := by omega
    subst this
    refine ⟨_, k_impl_total (hO.rd elt_Int.len) (by omega) (fun x hm => by have := hws x hm; omega), fun wr4 hx4 => ⟨?_, (s1.step hx4).ext⟩⟩
    rw [hsum]; rfl
end
end Go.Proofs.YtnofpcbjpcoghaaGreat
namespace Go.Proofs.YtnofpcbjpcoghaaGreat
open Go.RowKit
set_option linter.unusedVariables false
set_option linter.unusedSimpArgs false
set_option maxRecDepth 10000
def IterY (P : Program) (gf : FuncId) (lb : Array Value) (N : Nat) (vals : Nat → List Value) (I : Nat → World → Prop) (w : World) : Prop :=
  ∀ (l : Nat) (J : Nat → World → Prop) (Jx : Unit → World → Prop) (W : World), ExtX [] w W → (∀ k W1, J k W1 → I k W1) → AbX W.heap.size J → AbX W.heap.size Jx →
    (∀ k W1, k < N → J k W1 → CallF P (.func (.yield l) #[] #[]) (vals k) W1 fun e W2 => (∃ X, ExtX X W1 W2 ∧ ∀ x ∈ X, x < W.heap.size) ∧ ((e = .returned (.bool true) ∧ J (k + 1) W2) ∨ (e = .returned (.bool false) ∧ Jx () W2))) →
    J 0 W → Calls P gf (#[.func (.yield l) #[] #[]] ++ lb) W fun e W2 => (∃ v, e = .returned v) ∧ (J N W2 ∨ Jx () W2)
theorem rangeY {P : Program} {g : Operand} {ps : Array Tmp} {asg body : Code} {Q : Exit → Act → World → Prop} {a : Act} {w : World} {gf : FuncId} {lb : Array Value} (hg : a.eval g = .func (.func gf) #[] lb) (eg : ∀ args w, (callFunc gf args).run P w = .ok (.enter gf args) w)
    (I : Nat → World → Prop) (Ix : Code → World → Prop) (N : Nat) (vals : Nat → List Value) (hI : AbX w.heap.size I) (hIx : AbX w.heap.size Ix) (h0 : I 0 w) (hps : ∀ k, (vals k).length = ps.size)
    (hit : IterY P gf lb N vals I w)
    (hround : ∀ l k W, k < N → I k W → w.heap.size ≤ l → asg.wpIn (fnc (some l)) 0 P (Exit.then (fun a1 W1 => (∃ X, ExtX X W W1 ∧ ∀ x ∈ X, x < w.heap.size) ∧ ∀ W2, ExtX [l] W1 W2 → body.wpIn (fnc (some l)) 0 P (roundX w.heap.size I Ix k W2) a1 W2) (fun _ _ _ => False))
      { tmps := (ps.zip (vals k).toArray).foldl (fun t (p, v) => t.setIfInBounds p v) a.tmps, defers := [] } W)
    (hdone : ∀ D W, w.heap.size ≤ D → I N W → W.heap[D]? = some (.deferred (some [])) → Q .normal { a with defers := markOf D :: a.defers } W)
    (hstop : ∀ D c W, w.heap.size ≤ D → Ix c W → W.heap[D]? = some (.deferred (some [])) → c.wpIn (fnc none) 0 P Q { a with defers := markOf D :: a.defers } W) :
    (Code.rangeFunc g ps asg body).wpIn (fnc none) 0 P Q a w := by
  refine wpIn_rangeFunc fun fn _ => ?_
  obtain ⟨rec, hrec⟩ : ∃ rec : LoopState → Option Code → Loop, rec = fun st pe => { state := st, pending := pe, fn, tmps := a.tmps, params := ps, assign := asg, body, defers := w.heap.size } := ⟨_, rfl⟩
  obtain ⟨W1, hW1⟩ : ∃ W1, (w.alloc (.deferred (some []))).alloc (.loop (rec .ready none)) = W1 := ⟨_, rfl⟩
  have hL1 : W1.heap[w.heap.size + 1]? = some (.loop (rec .ready none)) := by
    have := World.alloc_heap_new (w.alloc (.deferred (some []))) (.loop (rec .ready none))
    rw [World.size_alloc] at this
    rw [← hW1]; exact this
  have hD1 : W1.heap[w.heap.size]? = some (.deferred (some [])) := by
    rw [← hW1]; exact (Below.heap_alloc _ _ _ (by simp)).trans (World.alloc_heap_new w _)
  have hX1 : ExtX [] w W1 := by rw [← hW1]; exact ((ExtX.refl [] w).alloc _).alloc _
  have hsz : W1.heap.size = w.heap.size + 2 := by rw [← hW1]; simp
  refine ⟨w.heap.size + 1, [markOf w.heap.size], W1, { target := .fn (.func gf) lb, args := #[.func (.yield (w.heap.size + 1)) #[] #[]] }, W1, gf, #[.func (.yield (w.heap.size + 1)) #[] #[]] ++ lb, W1, ?_, ?_, fun _ _ => trivial, ?_, fun hx => (by simp [fnc, Fence.wide] at hx), fnc_calls ?_⟩
  · rw [← hW1, hrec]; exact run_enterLoop_outer _ _ _ _ _
  · simp only [resolve, hg]
    simp [go_sem]
  · simp [invoke, eg]
  have keep : ∀ {W W' : World} {ys : List Nat} {x : Nat} {o : Obj}, W.heap[x]? = some o → ExtX ys W W' → x ∉ ys → W'.heap[x]? = some o := fun {W W' ys x o} h hx hn => (hx.block x (Array.getElem?_eq_some_iff.1 h).1 hn).trans h
  refine (hit (w.heap.size + 1)
    (fun k W => I k W ∧ W.heap[w.heap.size + 1]? = some (.loop (rec .ready none)) ∧ W.heap[w.heap.size]? = some (.deferred (some [])))
    (fun _ W => ∃ c, Ix c W ∧ W.heap[w.heap.size + 1]? = some (.loop (rec .done (some c))) ∧ W.heap[w.heap.size]? = some (.deferred (some [])))
    W1 hX1 (fun k W h => h.1)
    (fun k W W' ys h hx hy => ⟨hI k W W' ys h.1 hx fun y hm => by have := hy y hm; omega, keep h.2.1 hx fun hm => by have := hy _ hm; omega, keep h.2.2 hx fun hm => by have := hy _ hm; omega⟩)
    (fun k W W' ys h hx hy => by
      obtain ⟨c, h1, h2, h3⟩ := h
      exact ⟨c, hIx c W W' ys h1 hx fun y hm => by have := hy y hm; omega, keep h2 hx fun hm => by have := hy _ hm; omega, keep h3 hx fun hm => by have := hy _ hm; omega⟩)
    ?_ ⟨hI 0 _ _ [] h0 hX1 (by simp), hL1, hD1⟩).mono ?_
  · rintro k W hk ⟨hi, hl, hd⟩
    have hy := run_yield (P := P) (args := (vals k).toArray) hl (by rw [hrec]; simpa using hps k)
    rw [← callV_yield] at hy
    rw [hrec] at hy
    refine .inr ⟨w.heap.size + 1, fn, _, asg, body, hy, ?_⟩
    have hr := roundIn_of_wpIn (F := fnc none) (n := 0) (P := P) (l := w.heap.size + 1) (f := fn) (assign := asg) (body := body) (w := W) (R := fun e W2 => (∃ X, ExtX X W W2 ∧ ∀ x ∈ X, x < W1.heap.size) ∧ ((e = .returned (.bool true) ∧ I (k + 1) W2 ∧ W2.heap[w.heap.size + 1]? = some (.loop (rec .ready none)) ∧ W2.heap[w.heap.size]? = some (.deferred (some []))) ∨ (e = .returned (.bool false) ∧ ∃ c, Ix c W2 ∧ W2.heap[w.heap.size + 1]? = some (.loop (rec .done (some c))) ∧ W2.heap[w.heap.size]? = some (.deferred (some []))))) trivial
      (wpIn_mono (hround (w.heap.size + 1) k W hk hi (by omega)) fun e a1 W1' hq => ?_)
    · exact ⟨trivial, fun c cs _ => hr.2 c cs (fnc_room _ _)⟩
    · cases e with
      | normal =>
        obtain ⟨⟨X, hX, hXl⟩, hb⟩ := hq
        have hl1 := keep hl hX fun hm => by have := hXl _ hm; omega
        have hd1 := keep hd hX fun hm => by have := hXl _ hm; omega
        refine ⟨_, run_beginRound hl1 (by rw [hrec]), ?_⟩
        have hl2 : (W1'.putObj (w.heap.size + 1) (.loop { rec .ready none with state := .busy })).heap[w.heap.size + 1]? = some (.loop { rec .ready none with state := .busy }) := World.putObj_heap_same (Array.getElem?_eq_some_iff.1 hl1).1
        have hd2 := keep hd1 (ext_putObj W1' (w.heap.size + 1) (.loop { rec .ready none with state := .busy })) (by simp)
        refine wpIn_mono (hb _ (ext_putObj _ _ _)) fun e2 a2 W3 hr => ?_
        obtain ⟨⟨X2, hX2, hXl2⟩, hm⟩ := hr
        have hl3 := keep hl2 hX2 fun hm => by have := hXl2 _ hm; omega
        have hd3 := keep hd2 hX2 fun hm => by have := hXl2 _ hm; omega
        have fin : ∀ (jump : Option Code), (Instr.endRound (w.heap.size + 1) jump).run P W3 = .ok (.bool jump.isNone) (W3.putObj (w.heap.size + 1) (.loop (rec (if jump.isNone then .ready else .done) jump))) ∧
            (W3.putObj (w.heap.size + 1) (.loop (rec (if jump.isNone then .ready else .done) jump))).heap[w.heap.size + 1]? = some (.loop (rec (if jump.isNone then .ready else .done) jump)) ∧
            (W3.putObj (w.heap.size + 1) (.loop (rec (if jump.isNone then .ready else .done) jump))).heap[w.heap.size]? = some (.deferred (some [])) := fun jump => by
          have := run_endRound (P := P) jump hl3
          rw [hrec] at this ⊢
          exact ⟨this, World.putObj_heap_same (Array.getElem?_eq_some_iff.1 hl3).1, keep hd3 (ext_putObj _ _ _) (by simp)⟩
        have hall : ∀ o, ∃ X, ExtX X W (W3.putObj (w.heap.size + 1) o) ∧ ∀ x ∈ X, x < W1.heap.size := fun o => by
          have m1 : ExtX (X ++ [w.heap.size + 1] ++ X2) W W1' := hX.mono fun x hm => by simp [hm]
          have m2 : ExtX (X ++ [w.heap.size + 1] ++ X2) W1' (W1'.putObj (w.heap.size + 1) (.loop { rec .ready none with state := .busy })) := (ext_putObj _ _ _).mono fun x hm => by
            have : x = w.heap.size + 1 := by simpa using hm
            simp [this]
          have m3 : ExtX (X ++ [w.heap.size + 1] ++ X2) _ W3 := hX2.mono fun x hm => by simp [hm]
          have m4 : ExtX (X ++ [w.heap.size + 1] ++ X2) W3 (W3.putObj (w.heap.size + 1) o) := (ext_putObj _ _ _).mono fun x hm => by
            have : x = w.heap.size + 1 := by simpa using hm
            simp [this]
          refine ⟨_, ((m1.trans m2).trans m3).trans m4, fun x hm => ?_⟩
          simp only [List.mem_append, List.mem_singleton] at hm
          rcases hm with (hm | hm) | hm
          · have := hXl x hm; omega
          · omega
          · have := hXl2 x hm; omega
        cases e2 with
        | normal =>
          obtain ⟨f1, f2, f3⟩ := fin none
          exact ⟨_, _, f1, hall _, .inl ⟨rfl, hI _ _ _ [w.heap.size + 1] hm (ext_putObj _ _ _) (by simp), f2, f3⟩⟩
        | ret =>
          obtain ⟨f1, f2, f3⟩ := fin (some .ret)
          exact ⟨_, _, f1, hall _, .inr ⟨rfl, .ret, hIx _ _ _ [w.heap.size + 1] hm (ext_putObj _ _ _) (by simp), f2, f3⟩⟩
        | exit i =>
          obtain ⟨f1, f2, f3⟩ := fin (some (.exit i))
          exact ⟨_, _, f1, hall _, .inr ⟨rfl, .exit i, hIx _ _ _ [w.heap.size + 1] hm (ext_putObj _ _ _) (by simp), f2, f3⟩⟩
        | goto t =>
          obtain ⟨f1, f2, f3⟩ := fin (some (.goto t))
          exact ⟨_, _, f1, hall _, .inr ⟨rfl, .goto t, hIx _ _ _ [w.heap.size + 1] hm (ext_putObj _ _ _) (by simp), f2, f3⟩⟩
        | panic ch => exact hm.elim
        | outgrown => exact hm.elim
      | _ => exact hq.elim
  · rintro e W2 ⟨⟨v, rfl⟩, (⟨hi, hl, hd⟩ | ⟨c, hi, hl, hd⟩)⟩
    · have := run_endLoop (P := P) hl (by rw [hrec]; simp)
      rw [hrec] at this
      exact ⟨none, _, this, hdone _ _ (Nat.le_refl _) (hI _ _ _ [w.heap.size + 1] hi (ext_putObj _ _ _) (by simp)) (keep hd (ext_putObj _ _ _) (by simp))⟩
    · have := run_endLoop (P := P) hl (by rw [hrec]; simp)
      rw [hrec] at this
      exact ⟨some c, _, this, hstop _ c _ (Nat.le_refl _) (hIx _ _ _ [w.heap.size + 1] hi (ext_putObj _ _ _) (by simp)) (keep hd (ext_putObj _ _ _) (by simp))⟩
end Go.Proofs.YtnofpcbjpcoghaaGreat
namespace Go.Proofs.YtnofpcbjpcoghaaGreat
open Go.RowKit
set_option linter.unusedVariables false
set_option linter.unusedSimpArgs false
set_option maxRecDepth 10000
def setM (m : Int) (k : Nat) : List Int := ((List.range k).filter fun (i : Nat) => mHas m (i : Int)).map fun (i : Nat) => (i : Int)
theorem setM_step {m : Int} {k : Nat} (h : mHas m (k : Int) = true) : setM m (k + 1) = setM m k ++ [(k : Int)] := by
  unfold setM
  rw [List.range_succ, List.filter_append]; simp [h]
theorem setM_skip {m : Int} {k : Nat} (h : mHas m (k : Int) = false) : setM m (k + 1) = setM m k := by
  unfold setM
  rw [List.range_succ, List.filter_append]; simp [h]
theorem setM_pre (m : Int) (k j : Nat) : ∃ r, setM m (k + j) = setM m k ++ r := by
  induction j with
  | zero => exact ⟨[], by simp⟩
  | succ j ih =>
    obtain ⟨r, hr⟩ := ih
    rw [show k + (j + 1) = (k + j) + 1 from rfl]
    cases h : mHas m ((k + j : Nat) : Int) with
    | true => rw [setM_step h, hr]; exact ⟨r ++ [((k + j : Nat) : Int)], by simp⟩
    | false => rw [setM_skip h, hr]; exact ⟨r, rfl⟩
theorem gi_app_len {α : Type} [Inhabited α] (l r : List α) (x : α) : gi (l ++ (x :: r)) (l.length : Int) = x := by
  unfold gi
  simp
theorem setM_at {m : Int} {k : Nat} (hk : k < 4) (h : mHas m (k : Int) = true) : (setM m k).length < (setM m 4).length ∧ gi (setM m 4) ((setM m k).length : Int) = (k : Int) := by
  obtain ⟨r, hr⟩ := setM_pre m (k + 1) (4 - (k + 1))
  rw [show k + 1 + (4 - (k + 1)) = 4 by omega, setM_step h, List.append_assoc] at hr
  rw [hr]
  exact ⟨by simp, gi_app_len _ _ _⟩
theorem it_members {m : Int} {bm : Nat} {I : Nat → World → Prop} {w : World} (hI : ∀ k W1, I k W1 → CellsX [] W1 (some ⟨bm, 0, none⟩) 0 [.int .i64 m]) :
    IterY Tryz.prog fn_impl_cpuSet_members_1 #[.pointer (some ⟨bm, 0, none⟩)] (setM m 4).length (fun k => [.int .i64 (gi (setM m 4) (k : Int))]) I w := by
  intro l J Jx W hx hJI hAJ hAx hY h0
  refine (e_impl_cpuSet_members_1 (.yield l) #[] #[] (some ⟨bm, 0, none⟩) (R := fun v w' => J (setM m 4).length w' ∨ Jx () w') ?_).mono fun e w' ⟨v, he, hr⟩ => ⟨⟨v, he⟩, hr⟩
  refine loop1w 4 0 rfl (fun k w1 => k ≤ 4 ∧ J (setM m k).length w1) (fun w1 hx1 _ => ⟨Nat.zero_le _, hAJ 0 _ _ [] h0 hx1 (by simp)⟩) fun k w1 _ ⟨hk, hJ⟩ => ⟨fun hlt => ?_, fun hge wr hx2 => .inl ?_⟩
  · have hlt := of_decide_eq_true hlt
    have hk4 : k < 4 := by omega
    refine ⟨m, hI _ _ (hJI _ _ hJ), mHas m (k : Int), k_impl_has, fun h wr1 hx1 _ => ?_, fun h => ⟨fun g => (by cases g), fun _ => ⟨⟨by omega, by omega⟩, fun wr5 hx5 _ => loop1w_next hk4 ⟨by omega, ?_⟩⟩⟩⟩
    · obtain ⟨hl, hg⟩ := setM_at hk4 h
      have hc := hY (setM m k).length wr1 hl (hAJ _ _ _ [] hJ hx1 (by simp))
      dsimp only at hc
      rw [hg] at hc
      refine hc.mono fun e w2 ⟨_, hr⟩ => ?_
      rcases hr with ⟨he, hJ2⟩ | ⟨he, hJx⟩
      · refine ⟨true, he, kept_nil, fun g => (by rw [h] at g; cases g), fun _ => ⟨⟨by omega, by omega⟩, fun wr3 hx3 _ => loop1w_next hk4 ⟨by omega, ?_⟩⟩⟩
        rw [setM_step h, List.length_append]
        exact hAJ _ _ _ [] hJ2 hx3 (by simp)
      · exact ⟨false, he, kept_nil, fun _ wr2 hx2 => .inr (hAx _ _ _ [] hJx hx2 (by simp)), fun g => (by rw [h] at g; cases g)⟩
    · have h : mHas m (k : Int) = false := by simpa using h
      rw [setM_skip h]
      exact hAJ _ _ _ [] hJ hx5 (by simp)
  · have hge := of_decide_eq_false hge
    have : k = 4 := by omega
    subst this
    exact hAJ _ _ _ [] hJ hx2 (by simp)
theorem k_members {m : Int} {w : World} : Calls Tryz.prog fn_impl_cpuSet_members #[.int .i64 m] w fun e w' => ∃ b : Nat, w.heap.size ≤ b ∧ e = .returned (.func (.func fn_impl_cpuSet_members_1) #[] #[.pointer (some ⟨b, 0, none⟩)]) ∧ CellsX [] w' (some ⟨b, 0, none⟩) 0 [.int .i64 m] ∧ ExtX [] w w' := by
  refine (e_impl_cpuSet_members m (R := fun v w' => ∃ b : Nat, w.heap.size ≤ b ∧ v = .func (.func fn_impl_cpuSet_members_1) #[] #[.pointer (some ⟨b, 0, none⟩)] ∧ CellsX [] w' (some ⟨b, 0, none⟩) 0 [.int .i64 m] ∧ ExtX [] w w') ?_).mono fun e w' ⟨v, he, b, hb, hv, h1⟩ => ⟨b, hb, by rw [he, hv], h1⟩
  intro b wb hx hb hcell _ wr hx2
  refine ⟨b, hb, rfl, ?_, hx.trans hx2⟩
  have hc := blk_ext hcell hx2 (by simp)
  exact cellsX_one ⟨⟨b, 0, none⟩, rfl, by simp, by rw [Addr.add_lit, Nat.add_zero, cell_blk hc]; rfl⟩
def bestN (lt : Int → Int → Bool) (xs : List Int) : Nat → Int × Bool
  | 0 => (0, false)
  | k + 1 => if (!(bestN lt xs k).2 || lt (gi xs (k : Int)) (bestN lt xs k).1) = true then (gi xs (k : Int), true) else bestN lt xs k
theorem bestN_mem {lt : Int → Int → Bool} {xs : List Int} : ∀ k : Nat, (bestN lt xs k).2 = true → ∃ j : Nat, j < k ∧ (bestN lt xs k).1 = gi xs (j : Int)
  | 0, h => by cases h
  | k + 1, h => by
    simp only [bestN] at h ⊢
    split
    · exact ⟨k, by omega, rfl⟩
    · rename_i hn
      rw [if_neg hn] at h
      obtain ⟨j, hj, he⟩ := bestN_mem k h
      exact ⟨j, by omega, he⟩
theorem best_shape : bodyOf Tryz.f57 = seqs t_impl_best_int_pre (.seq (.seq t_impl_best_int_mid (.block 0 (.rangeFunc (.tmp 9) #[10] t_impl_best_int_asg t_impl_best_int_body))) t_impl_best_int_post) := by kernel_rfl
structure BestB (b b1 b2 : Nat) (bef : Value) (st : Int × Bool) (W : World) : Prop where
  c0 : ∃ t, W.heap[b]? = some (.cells ([bef] : List Value).toArray t (0, 0))
  c1 : ∃ t, W.heap[b1]? = some (.cells ([.int .i64 st.1] : List Value).toArray t (0, 0))
  c2 : ∃ t, W.heap[b2]? = some (.cells ([.bool st.2] : List Value).toArray t (0, 0))
theorem BestB.ext {b b1 b2 : Nat} {bef : Value} {st : Int × Bool} {W W' : World} {ys : List Nat} (h : BestB b b1 b2 bef st W) (hx : ExtX ys W W') (h0 : b ∉ ys) (h1 : b1 ∉ ys) (h2 : b2 ∉ ys) : BestB b b1 b2 bef st W' :=
  ⟨h.c0.imp fun _ h => blk_ext h hx h0, h.c1.imp fun _ h => blk_ext h hx h1, h.c2.imp fun _ h => blk_ext h hx h2⟩
theorem box_cell {W : World} {b : Nat} {v : Value} (h : ∃ t, W.heap[b]? = some (.cells ([v] : List Value).toArray t (0, 0))) : CellsX [] W (some ⟨b, 0, none⟩) 0 [v] := by
  obtain ⟨t, h⟩ := h
  exact cellsX_one ⟨⟨b, 0, none⟩, rfl, by simp, by rw [Addr.add_lit, Nat.add_zero, cell_blk h]; rfl⟩
theorem getD_set_same {a : Array Value} {i : Nat} {v : Value} (h : i < a.size) : (a.setIfInBounds i v).getD i undef = v := by
  rw [Array.getD_eq_getD_getElem?, Array.getElem?_setIfInBounds_self_of_lt h]; rfl
theorem getD_set_other {a : Array Value} {i j : Nat} {v : Value} (h : i ≠ j) : (a.setIfInBounds i v).getD j undef = a.getD j undef := by
  rw [Array.getD_eq_getD_getElem?, Array.getD_eq_getD_getElem?, Array.getElem?_setIfInBounds_ne h]
theorem calls_marks2 {P : Program} {f : FuncId} {fn : Func} {body : Code} {n : Nat} {args : List Value} {w : World} {R : Ending → World → Prop} (hf : P.funcs[f]? = some fn) (hb : fn.body = some body) (hn : fn.ntmps = n) (hl : args.length ≤ n)
    (h : ∀ a : Act, a.tmps.size = n → (∀ (i : Nat) v, args[i]? = some v → a.tmps.getD i undef = v) → a.defers = [] → body.wpIn (fnc none) 0 P (bodyPostM (fnc none) 0 P fn R) a w) : Calls P f args.toArray w R := by
  refine calls_marks hf hb (h _ ?_ ?_ rfl)
  · simp [hn]; omega
  · intro i v hv
    rw [Array.getD_eq_getD_getElem?, Array.getElem?_append_left (by simpa using (List.getElem?_eq_some_iff.1 hv).1)]
    simp [hv]
theorem sto_size {w : World} {o : Option Addr} {n : Nat} {vs : List Value} : (sto w o n vs).heap.size = w.heap.size := by
  cases o with
  | none => rfl
  | some a => exact stoL_size vs w a n
theorem fold_one {i : Tmp} {v : Value} {t : Array Value} : ((#[i].zip [v].toArray).foldl (fun (t : Array Value) (p, v) => t.setIfInBounds p v) t) = t.setIfInBounds i v := by simp
theorem k_best {gf : FuncId} {lb : Array Value} {bF : Fn} {bA bK : Array Value} {xs : List Int} {lt : Int → Int → Bool} {w : World} (eg : ∀ args w, (callFunc gf args).run Tryz.prog w = .ok (.enter gf args) w)
    (hit : ∀ (I : Nat → World → Prop) (W : World), ExtX [] w W → (∀ k W1, I k W1 → ExtX [] w W1) → IterY Tryz.prog gf lb xs.length (fun k => [.int .i64 (gi xs (k : Int))]) I W)
    (hb : ∀ i j : Nat, i < xs.length → j < xs.length → ∀ W1, ExtX [] w W1 → CallF Tryz.prog (.func bF bA bK) [.int .i64 (gi xs (i : Int)), .int .i64 (gi xs (j : Int))] W1 fun e W2 => e = .returned (.bool (lt (gi xs (i : Int)) (gi xs (j : Int)))) ∧ ExtX [] W1 W2) :
    Calls Tryz.prog fn_impl_best_int #[.func (.func gf) #[] lb, .func bF bA bK] w fun e w' => e = .returned (.tuple #[.int .i64 (bestN lt xs xs.length).1, .bool (bestN lt xs xs.length).2]) ∧ ExtX [] w w' := by
  refine calls_marks2 (args := [.func (.func gf) #[] lb, .func bF bA bK]) (n := 22) Tryz.func57 (body := bodyOf Tryz.f57) rfl (by kernel_rfl) (by simp) fun a hn ha hd => ?_
  rw [best_shape]
  have a0 := ha 0 _ rfl
  have a1 := ha 1 _ rfl
  refine g_impl_best_int_pre none bF bA bK (R := fun e vs w1 => e = .normal ∧ ∃ b b1 b2 : Nat, vs = [.pointer (some ⟨b, 0, none⟩), .pointer (some ⟨b1, 0, none⟩), .pointer (some ⟨b2, 0, none⟩)] ∧ b < b1 ∧ b1 < b2 ∧ w.heap.size ≤ b ∧ b2 < w1.heap.size ∧ BestB b b1 b2 (.func bF bA bK) (0, false) w1 ∧ ExtX [] w w1) hn ?_ ?_ ?_ (fun e vs a1 w1 hne hR _ => absurd hR.1 hne)
  · intro p hp
    simp only [List.mem_cons, List.not_mem_nil, or_false] at hp
    subst hp
    exact ⟨Nat.le_of_ble_eq_true rfl, a1⟩
  · intro b wb hx hb0 hcell _ b1 wb1 hx1 hb1 hcell1 _ b2 wb2 hx2 hb2 hcell2 _
    have l0 := blk_lt hcell
    have l1 := blk_lt hcell1
    have l2 := blk_lt hcell2
    have s1 := hx1.size
    have s2 := hx2.size
    refine ⟨wrX_blk (k0 := 0) hcell2 (by simp) (by simp), fun wr hx3 => ?_⟩
    have hs : ExtX [b2] wb2 (sto wb2 (some ⟨b2, 0, none⟩) 0 [.bool false]) := sto_ext (bs := [b2]) (by simp)
    have s3 := hx3.size
    rw [sto_size] at s3
    refine ⟨rfl, b, b1, b2, rfl, by omega, by omega, hb0, by omega, ⟨⟨_, blk_ext (blk_ext (blk_ext (blk_ext hcell hx1 (by simp)) hx2 (by simp)) hs (by simp; omega)) hx3 (by simp)⟩, ⟨_, blk_ext (blk_ext (blk_ext hcell1 hx2 (by simp)) hs (by simp; omega)) hx3 (by simp)⟩, ⟨_, blk_ext (sto_blk hcell2) hx3 (by simp)⟩⟩, ?_⟩
    exact (((hx.trans hx1).trans hx2).fresh hs fun x hm => .inl (by
      have : x = b2 := by simpa using hm
      have := hx.size
      omega)).trans hx3
  rintro vs a2 w1 ⟨_, b, b1, b2, rfl, h01, h12, hwb, hb2, hB, hX⟩ fo
  obtain ⟨o3, o6, o7⟩ : a2.tmps.getD 3 undef = .pointer (some ⟨b, 0, none⟩) ∧ a2.tmps.getD 6 undef = .pointer (some ⟨b1, 0, none⟩) ∧ a2.tmps.getD 7 undef = .pointer (some ⟨b2, 0, none⟩) := by
    have := fo.out
    simp only [List.map_cons, List.map_nil, List.cons.injEq, and_true] at this
    exact this
  have o0 : a2.tmps.getD 0 undef = .func (.func gf) #[] lb := (fo.kept 0 (by decide +kernel)).trans a0
  refine wpIn_seq (wpIn_seq (g_impl_best_int_mid none (.func gf) #[] lb (R := fun e vs w2 => e = .normal ∧ vs = [.func (.func gf) #[] lb] ∧ ExtX [] w1 w2) (by rw [fo.size, hn]) (fun p hp => ?_) (fun wr hx => ⟨rfl, rfl, hx⟩) fun e vs a3 w2 hR fo3 => ?_))
  · simp only [List.mem_cons, List.not_mem_nil, or_false] at hp
    subst hp
    exact ⟨Nat.le_of_ble_eq_true rfl, o0⟩
  obtain ⟨rfl, rfl, hx2⟩ := hR
  have p9 : a3.tmps.getD 9 undef = .func (.func gf) #[] lb := by
    have := fo3.out
    simpa using this
  have p3 := (fo3.kept 3 (by decide +kernel)).trans o3
  have p6 := (fo3.kept 6 (by decide +kernel)).trans o6
  have p7 := (fo3.kept 7 (by decide +kernel)).trans o7
  have hsz3 : a3.tmps.size = 22 := by rw [fo3.size, fo.size, hn]
  have hd3 : a3.defers = [] := by rw [fo3.defers, fo.defers, hd]
  have hX2 := hX.trans hx2
  have hB2 := hB.ext hx2 (by simp) (by simp) (by simp)
  have hlt2 : b2 < w2.heap.size := Nat.lt_of_lt_of_le hb2 hx2.size
  refine wpIn_block (rangeY (lb := lb) (gf := gf) p9 eg (fun k W => BestB b b1 b2 (.func bF bA bK) (bestN lt xs k) W ∧ ExtX [] w W) (fun _ _ => False) xs.length (fun k => [.int .i64 (gi xs (k : Int))]) (fun k W W' ys h hx hy => ⟨h.1.ext hx (fun hm => by have := hy _ hm; omega) (fun hm => by have := hy _ hm; omega) (fun hm => by have := hy _ hm; omega), h.2.fresh hx fun x hm => .inl (by have := hy x hm; have := hX2.size; omega)⟩) (fun k W W' ys h _ _ => h) ⟨hB2, hX2⟩ (fun k => rfl) (hit _ w2 hX2 fun k W1 h => h.2) ?_ ?_ (fun D c W _ h _ => h.elim))
  · intro l k W hk ⟨hBk, hXk⟩ hl
    rw [fold_one]
    refine g_impl_best_int_asg (some l) (gi xs (k : Int)) (R := fun e vs W1 => e = .normal ∧ vs = [.int .i64 (gi xs (k : Int))] ∧ ExtX [] W W1) ?_ (fun p hp => ?_) (fun wr hx => ⟨rfl, rfl, hx⟩) fun e vs a4 W1 hR fo4 => ?_
    · simpa using hsz3
    · simp only [List.mem_cons, List.not_mem_nil, or_false] at hp
      subst hp
      exact ⟨Nat.le_of_ble_eq_true rfl, getD_set_same (i := 10) (by rw [hsz3]; decide)⟩
    obtain ⟨rfl, rfl, hx4⟩ := hR
    have q8 : a4.tmps.getD 8 undef = .int .i64 (gi xs (k : Int)) := by
      have := fo4.out
      simpa using this
    have q3 : a4.tmps.getD 3 undef = .pointer (some ⟨b, 0, none⟩) := ((fo4.kept 3 (by decide +kernel)).trans (getD_set_other (i := 10) (j := 3) (by decide))).trans p3
    have q6 : a4.tmps.getD 6 undef = .pointer (some ⟨b1, 0, none⟩) := ((fo4.kept 6 (by decide +kernel)).trans (getD_set_other (i := 10) (j := 6) (by decide))).trans p6
    have q7 : a4.tmps.getD 7 undef = .pointer (some ⟨b2, 0, none⟩) := ((fo4.kept 7 (by decide +kernel)).trans (getD_set_other (i := 10) (j := 7) (by decide))).trans p7
    refine ⟨⟨[], hx4, by simp⟩, fun W2 hx5 => ?_⟩
    have hB5 := (hBk.ext hx4 (by simp) (by simp) (by simp)).ext hx5 (by simp; omega) (by simp; omega) (by simp; omega)
    have hX5 : ExtX [] w W2 := (hXk.trans hx4).fresh hx5 fun x hm => .inl (by
      have : x = l := by simpa using hm
      have := hX2.size
      omega)
    have fin : ∀ (W3 : World), ExtX [] W2 W3 → ∀ wr, ExtX [] (sto (sto W3 (some ⟨b1, 0, none⟩) 0 [.int .i64 (gi xs (k : Int))]) (some ⟨b2, 0, none⟩) 0 [.bool true]) wr → (∃ X, ExtX X W2 wr ∧ ∀ x ∈ X, x < w2.heap.size) ∧ BestB b b1 b2 (.func bF bA bK) (gi xs (k : Int), true) wr ∧ ExtX [] w wr := fun W3 hx6 wr hx7 => by
      have hB6 := hB5.ext hx6 (by simp) (by simp) (by simp)
      obtain ⟨t1, c1⟩ := hB6.c1
      obtain ⟨t2, c2⟩ := hB6.c2
      have e1 : ExtX [b1] W3 (sto W3 (some ⟨b1, 0, none⟩) 0 [.int .i64 (gi xs (k : Int))]) := sto_ext (bs := [b1]) (by simp)
      have e2 : ExtX [b2] (sto W3 (some ⟨b1, 0, none⟩) 0 [.int .i64 (gi xs (k : Int))]) (sto (sto W3 (some ⟨b1, 0, none⟩) 0 [.int .i64 (gi xs (k : Int))]) (some ⟨b2, 0, none⟩) 0 [.bool true]) := sto_ext (bs := [b2]) (by simp)
      have eX : ExtX [b1, b2] W2 wr := ((hx6.of_nil.trans (e1.mono (by simp))).trans (e2.mono (by simp))).trans hx7.of_nil
      have d1 := blk_ext (blk_ext (sto_blk (vs := [.int .i64 (gi xs (k : Int))]) (n := 0) c1) e2 (by simp; omega)) hx7 (by simp)
      have d2 := blk_ext (sto_blk (vs := [.bool true]) (n := 0) (blk_ext c2 e1 (by simp; omega))) hx7 (by simp)
      refine ⟨⟨[b1, b2], eX, fun x hm => ?_⟩, ⟨hB5.c0.imp fun _ h => blk_ext h eX (by simp; omega), ⟨t1, d1⟩, ⟨t2, d2⟩⟩, hX5.fresh eX fun x hm => .inl ?_⟩
      · simp only [List.mem_cons, List.not_mem_nil, or_false] at hm
        omega
      · simp only [List.mem_cons, List.not_mem_nil, or_false] at hm
        omega
    refine g_impl_best_int_body (some l) (some ⟨b, 0, none⟩) (some ⟨b1, 0, none⟩) (some ⟨b2, 0, none⟩) (gi xs (k : Int)) (R := fun e _ W3 => e = .normal ∧ (∃ X, ExtX X W2 W3 ∧ ∀ x ∈ X, x < w2.heap.size) ∧ BestB b b1 b2 (.func bF bA bK) (bestN lt xs (k + 1)) W3 ∧ ExtX [] w W3) (by rw [fo4.size]; simpa using hsz3) (fun p hp => ?_) ?_ fun e vs a5 W3 hR _ => ?_
    · simp only [List.mem_cons, List.not_mem_nil, or_false] at hp
      rcases hp with rfl | rfl | rfl | rfl
      · exact ⟨Nat.le_of_ble_eq_true rfl, q3⟩
      · exact ⟨Nat.le_of_ble_eq_true rfl, q6⟩
      · exact ⟨Nat.le_of_ble_eq_true rfl, q7⟩
      · exact ⟨Nat.le_of_ble_eq_true rfl, q8⟩
    · refine ⟨(bestN lt xs k).2, box_cell hB5.c2, bF, bA, bK, fun _ => box_cell hB5.c0, (bestN lt xs k).1, fun _ => box_cell hB5.c1, fun hs wr hx6 _ => ?_, fun hs => ⟨fun _ => ?_, fun h => (by cases h)⟩⟩
      · have hs2 : (bestN lt xs k).2 = true := by simpa using hs
        obtain ⟨j, hj, hje⟩ := bestN_mem k hs2
        have hc := hb k j hk (by omega) wr (hX5.trans hx6)
        rw [← hje] at hc
        refine hc.mono fun e W3 ⟨he, hx7⟩ => ⟨_, he, kept_nil, fun g => ?_, fun g wr2 hx8 => ?_⟩
        · have hB7 := (hB5.ext hx6 (by simp) (by simp) (by simp)).ext hx7 (by simp) (by simp) (by simp)
          obtain ⟨t1, c1⟩ := hB7.c1
          obtain ⟨t2, c2⟩ := hB7.c2
          have e1 : ExtX [b1] W3 (sto W3 (some ⟨b1, 0, none⟩) 0 [.int .i64 (gi xs (k : Int))]) := sto_ext (bs := [b1]) (by simp)
          refine ⟨wrX_blk (k0 := 0) c1 (by simp) (by simp), wrX_blk (k0 := 0) (blk_ext c2 e1 (by simp; omega)) (by simp) (by simp), fun wr1 hx9 => ?_⟩
          obtain ⟨f1, f2, f3⟩ := fin W3 (hx6.trans hx7) wr1 hx9
          refine ⟨rfl, f1, ?_, f3⟩
          rw [show bestN lt xs (k + 1) = (gi xs (k : Int), true) from if_pos g]
          exact f2
        · have hx9 := (hx6.trans hx7).trans hx8
          refine ⟨rfl, ⟨[], hx9, by simp⟩, ?_, hX5.trans hx9⟩
          rw [show bestN lt xs (k + 1) = bestN lt xs k from if_neg (by rw [g]; decide)]
          exact hB5.ext hx9 (by simp) (by simp) (by simp)
      · have hs2 : (bestN lt xs k).2 = false := by
          cases h : (bestN lt xs k).2 with
          | false => rfl
          | true => exact absurd (by rw [h]; rfl) hs
        obtain ⟨t1, c1⟩ := hB5.c1
        obtain ⟨t2, c2⟩ := hB5.c2
        have e1 : ExtX [b1] W2 (sto W2 (some ⟨b1, 0, none⟩) 0 [.int .i64 (gi xs (k : Int))]) := sto_ext (bs := [b1]) (by simp)
        refine ⟨wrX_blk (k0 := 0) c1 (by simp) (by simp), wrX_blk (k0 := 0) (blk_ext c2 e1 (by simp; omega)) (by simp) (by simp), fun wr1 hx9 => ?_⟩
        obtain ⟨f1, f2, f3⟩ := fin W2 (ExtX.refl _ _) wr1 hx9
        refine ⟨rfl, f1, ?_, f3⟩
        rw [show bestN lt xs (k + 1) = (gi xs (k : Int), true) from if_pos (by rw [hs2]; rfl)]
        exact f2
    · obtain ⟨rfl, hX3, hI3⟩ := hR
      exact ⟨hX3, hI3⟩
  · intro D W hD ⟨hBn, hXn⟩ hdD
    refine g_impl_best_int_post none (some ⟨b1, 0, none⟩) (some ⟨b2, 0, none⟩) (R := fun e vs W1 => e = .ret ∧ vs = [.int .i64 (bestN lt xs xs.length).1, .bool (bestN lt xs xs.length).2] ∧ ExtX [] W W1) hsz3 (fun p hp => ?_) ⟨_, box_cell hBn.c1, _, box_cell hBn.c2, fun wr hx => ⟨rfl, rfl, hx⟩⟩ fun e vs a6 W1 hR fo6 => ?_
    · simp only [List.mem_cons, List.not_mem_nil, or_false] at hp
      rcases hp with rfl | rfl
      · exact ⟨Nat.le_of_ble_eq_true rfl, p6⟩
      · exact ⟨Nat.le_of_ble_eq_true rfl, p7⟩
    · obtain ⟨rfl, rfl, hx6⟩ := hR
      have hr : ∀ w', (results Tryz.f57 a6.tmps).run Tryz.prog w' = .ok (.tuple #[.int .i64 (bestN lt xs xs.length).1, .bool (bestN lt xs xs.length).2]) w' := fun w' => by
        rw [results_tmp2 (t := 4) (u := 5) (by kernel_rfl)]
        have := fo6.out
        simp only [List.map_cons, List.map_nil, List.cons.injEq, and_true] at this
        rw [this.1, this.2]
      exact (leave_mark (D := D) (by rw [fo6.defers]; simp [hd3]) ((hx6.block D (Array.getElem?_eq_some_iff.1 hdD).1 (by simp)).trans hdD) hr fun w' hx => ⟨rfl, (hXn.trans hx6).fresh hx fun x hm => .inl (by
        have : x = D := by simpa using hm
        have := hX2.size
        omega)⟩).2
end Go.Proofs.YtnofpcbjpcoghaaGreat
namespace Go.Proofs.YtnofpcbjpcoghaaGreat
open Go.RowKit
set_option linter.unusedVariables false
set_option linter.unusedSimpArgs false
set_option maxRecDepth 10000
def lvD (n : Int) : Int := if inB n 1 4 = true then (if n = 1 then 0 else if n = 2 then 1 else 2) else 0
theorem lvD_cases {n : Int} (h : inB n 1 4 = true) : (n = 1 ∧ lvD n = 0) ∨ (n = 2 ∧ lvD n = 1) ∨ (n = 3 ∧ lvD n = 2) ∨ (n = 4 ∧ lvD n = 2) := by
  have := inB_t.1 h
  have : n = 1 ∨ n = 2 ∨ n = 3 ∨ n = 4 := by omega
  rcases this with rfl | rfl | rfl | rfl
  · exact .inl ⟨rfl, by decide⟩
  · exact .inr (.inl ⟨rfl, by decide⟩)
  · exact .inr (.inr (.inl ⟨rfl, by decide⟩))
  · exact .inr (.inr (.inr ⟨rfl, by decide⟩))
def nearB (c lv j : Int) : Bool := Int.fdiv j (2 ^ (min (Int.toNat (lv + 1)) 64)) == Int.fdiv c (2 ^ (min (Int.toNat (lv + 1)) 64))
def spN (c lv : Int) : Nat → Int
  | 0 => 0
  | k + 1 => if nearB c lv (k : Int) = true then spN c lv k + bitN k else spN c lv k
theorem spN_lt (c lv : Int) : ∀ k : Nat, k ≤ 4 → 0 ≤ spN c lv k ∧ spN c lv k < bitN k
  | 0, _ => by simp [spN, bitN]
  | k + 1, h => by
    have ih := spN_lt c lv k (by omega)
    have hb : bitN (k + 1) = 2 * bitN k ∧ 0 ≤ bitN k := by
      have : k = 0 ∨ k = 1 ∨ k = 2 ∨ k = 3 := by omega
      rcases this with rfl | rfl | rfl | rfl <;> decide
    simp only [spN]
    split <;> omega
def spanOk (n c lv : Int) : Bool := (inB n 1 4 && inB c 0 (n - 1)) && inB lv 0 (lvD n - 1)
def spD (n c lv : Int) : Int := if spanOk n c lv = true then spN c lv n.toNat else 0
theorem sp_high : ∀ (m : Fin 16) (c : Fin 4), (m.val : Int) < bitN c.val → mHas (m.val : Int) (c.val : Int) = false := by decide +kernel
theorem spD_high {n : Nat} {c lv : Int} {b : Nat} (hn : n ≤ b) (hb : b < 4) : mHas (spD (n : Int) c lv) (b : Int) = false := by
  have h : 0 ≤ spD (n : Int) c lv ∧ spD (n : Int) c lv < bitN b := by
    unfold spD
    split
    · rename_i hs
      rw [Int.toNat_natCast]
      have h1 := spN_lt c lv n (by omega)
      have : bitN n ≤ bitN b := by
        have key : ∀ x y : Fin 4, x.val ≤ y.val → bitN x.val ≤ bitN y.val := by decide +kernel
        exact key ⟨n, by omega⟩ ⟨b, hb⟩ hn
      omega
    · have := bit_le (k := b) (by omega)
      omega
  have h2 := bit_le (k := b) (by omega)
  have := sp_high ⟨(spD (n : Int) c lv).toNat, by omega⟩ ⟨b, hb⟩ (by show ((spD (n : Int) c lv).toNat : Int) < bitN b; omega)
  have e : ((spD (n : Int) c lv).toNat : Int) = spD (n : Int) c lv := by omega
  simp only [e] at this
  exact this
section
variable {w : World} {bs : List Nat} {n c lv : Int}
theorem lv_step {n : Int} {k : Nat} (h : inB n 1 4 = true) (hk : (k : Int) ≤ lvD n) : (decide ((1 * 2 ^ (min (Int.toNat (k : Int)) 64) : Int) < n) = true → (k : Int) + 1 ≤ lvD n) ∧ (decide ((1 * 2 ^ (min (Int.toNat (k : Int)) 64) : Int) < n) = false → (k : Int) = lvD n) := by
  rcases lvD_cases h with ⟨rfl, e⟩ | ⟨rfl, e⟩ | ⟨rfl, e⟩ | ⟨rfl, e⟩ <;> rw [e] at hk ⊢
  · have : k = 0 := by omega
    subst this; decide
  · have : k = 0 ∨ k = 1 := by omega
    rcases this with rfl | rfl <;> decide
  · have : k = 0 ∨ k = 1 ∨ k = 2 := by omega
    rcases this with rfl | rfl | rfl <;> decide
  · have : k = 0 ∨ k = 1 ∨ k = 2 := by omega
    rcases this with rfl | rfl | rfl <;> decide
theorem lv_le (n : Int) : 0 ≤ lvD n ∧ lvD n ≤ 2 := by
  unfold lvD
  split
  · split
    · omega
    · split <;> omega
  · omega
theorem k_spec_DomainLevels : PureX bs Tryz.prog fn_spec_DomainLevels #[.int .i64 n] w (.int .i64 (lvD n)) :=
  p_spec_DomainLevels n fun wr hx => by
    refine ⟨_, k_spec_l1In, fun q => ?_, fun q => ?_⟩
    · have q : inB n 1 4 = false := by simpa using q
      have : lvD n = 0 := if_neg (by rw [q]; decide)
      rw [this]
    · have q : inB n 1 4 = true := by simpa using q
      have hl := lv_le n
      refine ⟨fun vs => ∃ k : Nat, vs = [.int .i64 (k : Int)] ∧ (k : Int) ≤ lvD n, fun vs => (2 - ctrAt 0 vs).toNat, ⟨0, rfl, hl.1⟩, ?_⟩
      rintro k' ⟨k, he, hk⟩
      simp only [List.cons.injEq, Value.int.injEq, true_and, and_true] at he
      subst he
      have hb := bit_le (k := k) (by omega)
      have hbd : (1 * 2 ^ (min (Int.toNat (k : Int)) 64) : Int) = bitN k := rfl
      obtain ⟨s1, s2⟩ := lv_step q hk
      refine ⟨⟨by omega, by omega⟩, ⟨by omega, by rw [hbd]; exact ⟨by omega, by omega⟩⟩, fun g => ⟨⟨by omega, by omega⟩, ⟨k + 1, by simp, by have := s1 g; omega⟩, ?_⟩, fun g => by rw [← s2 g]⟩
      have := s1 g
      show (2 - ((k : Int) + 1)).toNat < (2 - (k : Int)).toNat
      omega
theorem k_impl_DomainLevels : PureX bs Tryz.prog fn_impl_DomainLevels #[.int .i64 n] w (.int .i64 (lvD n)) :=
  p_impl_DomainLevels n fun wr hx => by
    refine ⟨_, k_impl_inRange, fun q => ?_, fun q => ?_⟩
    · have q : inB n 1 4 = false := by simpa using q
      have : lvD n = 0 := if_neg (by rw [q]; decide)
      rw [this]
    · have q : inB n 1 4 = true := by simpa using q
      have hl := lv_le n
      refine ⟨fun vs => ∃ k : Nat, vs = [.int .i64 (k : Int)] ∧ (k : Int) ≤ lvD n, fun vs => (2 - ctrAt 0 vs).toNat, ⟨0, rfl, hl.1⟩, ?_⟩
      rintro k' ⟨k, he, hk⟩
      simp only [List.cons.injEq, Value.int.injEq, true_and, and_true] at he
      subst he
      have hb := bit_le (k := k) (by omega)
      have hbd : (1 * 2 ^ (min (Int.toNat (k : Int)) 64) : Int) = bitN k := rfl
      obtain ⟨s1, s2⟩ := lv_step q hk
      refine ⟨⟨by omega, by rw [hbd]; exact ⟨by omega, by omega⟩⟩, fun g => ⟨⟨by omega, by omega⟩, ⟨k + 1, by simp, by have := s1 g; omega⟩, ?_⟩, fun g => by rw [← s2 g]⟩
      have := s1 g
      show (2 - ((k : Int) + 1)).toNat < (2 - (k : Int)).toNat
      omega
theorem spanParts (h : spanOk n c lv = true) : inB n 1 4 = true ∧ 0 ≤ c ∧ c < n ∧ 0 ≤ lv ∧ lv ≤ 1 := by
  unfold spanOk at h
  simp only [Bool.and_eq_true] at h
  have h1 := inB_t.1 h.1.2
  have h2 := inB_t.1 h.2
  have := lv_le n
  exact ⟨h.1.1, h1.1, by omega, h2.1, by omega⟩
theorem k_spec_DomainSpan : PureX bs Tryz.prog fn_spec_DomainSpan #[.int .i64 n, .int .i64 c, .int .i64 lv] w (.int .i64 (spD n c lv)) :=
  p_spec_DomainSpan n c lv fun wr hx => by
    have hl := lv_le n
    have e : (((!inB n 1 4) || (!inB c 0 (n - 1))) || (!inB lv 0 (lvD n - 1))) = !spanOk n c lv := by
      unfold spanOk; rw [Bool.not_and, Bool.not_and]
    refine ⟨_, k_spec_l1In, fun q => ?_, _, fun _ => k_spec_l1In, _, fun _ => k_spec_DomainLevels, fun _ => ⟨by omega, by omega⟩, _, fun _ => k_spec_l1In, fun q => ?_, fun q => ?_⟩
    · have q := inB_t.1 (by simpa using q : inB n 1 4 = true)
      exact ⟨by omega, by omega⟩
    · rw [e] at q
      have : spD n c lv = 0 := if_neg (by simpa using q)
      rw [this]
    · rw [e] at q
      have q : spanOk n c lv = true := by simpa using q
      obtain ⟨h1, c0, c1, l0, l1⟩ := spanParts q
      have hn := inB_t.1 h1
      obtain ⟨N, rfl⟩ : ∃ N : Nat, n = (N : Int) := ⟨n.toNat, by omega⟩
      have hD : spD (N : Int) c lv = spN c lv N := by unfold spD; rw [if_pos q, Int.toNat_natCast]
      rw [hD]
      refine loop2 N 0 rfl (fun x k => k ≤ N ∧ x = spN c lv k) ⟨Nat.zero_le _, rfl⟩ fun x k ⟨hk, hx2⟩ => ⟨fun hlt => ?_, fun hge => ?_⟩
      · have hlt := of_decide_eq_true hlt
        have hb := bit_le (k := k) (by omega)
        have hs := spN_lt c lv k (by omega)
        have hbd : (1 * 2 ^ (min (Int.toNat (k : Int)) 64) : Int) = bitN k := rfl
        refine ⟨⟨by omega, by omega⟩, ⟨by omega, by omega⟩, by omega, ⟨by omega, by omega⟩, ⟨by omega, by omega⟩, by omega, fun hu => ?_, fun hu => ?_⟩
        · rw [hbd, hx2]
          refine ⟨⟨by omega, by omega⟩, ⟨by omega, by omega, by omega⟩, ⟨by omega, by omega⟩, ⟨by omega, by omega⟩, loop2_next (by omega) ⟨by omega, ?_⟩⟩
          simp only [spN]; rw [if_pos (show nearB c lv (k : Int) = true from hu)]
        · refine ⟨⟨by omega, by omega⟩, loop2_next (by omega) ⟨by omega, ?_⟩⟩
          rw [hx2]; simp only [spN]; rw [if_neg (by rw [show nearB c lv (k : Int) = false from hu]; decide)]
      · have hge := of_decide_eq_false hge
        have : k = N := by omega
        subst this
        rw [hx2]
def nbB (c lv : Int) (k i : Nat) : Bool := decide (i < k) && nearB c lv (i : Int)
theorem k_impl_neighbors {N : Nat} (hN : N ≤ 4) (l0 : 0 ≤ lv) (l1 : lv ≤ 1) : PureX bs Tryz.prog fn_impl_neighbors #[.int .i64 (N : Int), .int .i64 c, .int .i64 lv] w (.agg #[.bool (nbB c lv N 0), .bool (nbB c lv N 1), .bool (nbB c lv N 2), .bool (nbB c lv N 3)]) :=
  p_impl_neighbors (N : Int) c lv fun wr hx => by
    refine fun _ _ _ _ => ⟨fun vs => ∃ k : Nat, vs = [.int .i64 (k : Int), .bool (nbB c lv k 0), .bool (nbB c lv k 1), .bool (nbB c lv k 2), .bool (nbB c lv k 3)] ∧ k ≤ N, fun vs => (4 - ctrAt 0 vs).toNat, ⟨0, rfl, Nat.zero_le _⟩, ?_⟩
    rintro k' b0 b1 b2 b3 ⟨k, he, hk⟩
    simp only [List.cons.injEq, Value.int.injEq, Value.bool.injEq, true_and, and_true] at he
    obtain ⟨rfl, rfl, rfl, rfl, rfl⟩ := he
    refine ⟨fun hlt => ?_, fun hge => ?_⟩
    · have hlt := of_decide_eq_true hlt
      have hk4 : k < 4 := by omega
      refine ⟨⟨by omega, by omega⟩, by omega, ⟨by omega, by omega⟩, by omega, ⟨by omega, by omega⟩, by omega, nbB c lv (k + 1) 0, nbB c lv (k + 1) 1, nbB c lv (k + 1) 2, nbB c lv (k + 1) 3, ?_, ⟨by omega, by omega⟩, ⟨k + 1, by simp, by omega⟩, ?_⟩
      · rw [Int.toNat_natCast, Nat.add_zero]
        have : k = 0 ∨ k = 1 ∨ k = 2 ∨ k = 3 := by omega
        rcases this with rfl | rfl | rfl | rfl <;> simp [nbB, nearB]
      · show (4 - ((k : Int) + 1)).toNat < (4 - (k : Int)).toNat
        omega
    · have hge := of_decide_eq_false hge
      have : k = N := by omega
      subst this
      rfl
theorem k_impl_DomainSpan : PureX bs Tryz.prog fn_impl_DomainSpan #[.int .i64 n, .int .i64 c, .int .i64 lv] w (.int .i64 (spD n c lv)) :=
  p_impl_DomainSpan n c lv fun wr hx => by
    have hl := lv_le n
    have e : (((!inB n 1 4) || (!inB c 0 (n - 1))) || (!inB lv 0 (lvD n - 1))) = !spanOk n c lv := by
      unfold spanOk; rw [Bool.not_and, Bool.not_and]
    refine ⟨_, k_impl_inRange, fun q => ?_, _, fun _ => k_impl_inRange, _, fun _ => k_impl_DomainLevels, fun _ => ⟨by omega, by omega⟩, _, fun _ => k_impl_inRange, fun q => ?_, fun q => ?_⟩
    · have q := inB_t.1 (by simpa using q : inB n 1 4 = true)
      exact ⟨by omega, by omega⟩
    · rw [e] at q
      have : spD n c lv = 0 := if_neg (by simpa using q)
      rw [this]
    · rw [e] at q
      have q : spanOk n c lv = true := by simpa using q
      obtain ⟨h1, c0, c1, l0, l1⟩ := spanParts q
      have hn := inB_t.1 h1
      obtain ⟨N, rfl⟩ : ∃ N : Nat, n = (N : Int) := ⟨n.toNat, by omega⟩
      have hD : spD (N : Int) c lv = spN c lv (min 4 N) := by unfold spD; rw [if_pos q, Int.toNat_natCast, Nat.min_eq_right (by omega)]
      rw [hD]
      refine ⟨_, _, _, _, k_impl_neighbors (by omega) l0 l1, ?_⟩
      refine loop2 4 0 rfl (fun x k => k ≤ 4 ∧ x = spN c lv (min k N)) ⟨Nat.zero_le _, by rw [Nat.zero_min]; rfl⟩ fun x k ⟨hk, hx2⟩ => ⟨fun hlt => ?_, fun hge => ?_⟩
      · have hlt := of_decide_eq_true hlt
        have hk4 : k < 4 := by omega
        have hb := bit_le (k := k) (by omega)
        have hbd : (1 * 2 ^ (min (Int.toNat (k : Int)) 64) : Int) = bitN k := rfl
        refine ⟨nbB c lv N k, ⟨by omega, by omega, ?_⟩, fun hu => ?_, fun hu => ?_⟩
        · rw [Int.toNat_natCast]
          have : k = 0 ∨ k = 1 ∨ k = 2 ∨ k = 3 := by omega
          rcases this with rfl | rfl | rfl | rfl <;> rfl
        · unfold nbB at hu
          simp only [Bool.and_eq_true, decide_eq_true_eq] at hu
          have hm : min k N = k := Nat.min_eq_left (by omega)
          have hs := spN_lt c lv k (by omega)
          rw [hbd, hx2, hm, or_bit hk4 hs.1 hs.2]
          refine ⟨⟨by omega, by omega, by omega⟩, ⟨by omega, by omega⟩, loop2_next hk4 ⟨by omega, ?_⟩⟩
          rw [Nat.min_eq_left (by omega)]
          simp only [spN]; rw [if_pos hu.2]
        · refine ⟨⟨by omega, by omega⟩, loop2_next hk4 ⟨by omega, ?_⟩⟩
          rw [hx2]
          by_cases hkN : k < N
          · have hn : nearB c lv (k : Int) = false := by
              unfold nbB at hu
              rw [decide_eq_true hkN, Bool.true_and] at hu
              exact hu
            rw [Nat.min_eq_left (by omega), Nat.min_eq_left (by omega)]
            simp only [spN]; rw [if_neg (by rw [hn]; decide)]
          · rw [Nat.min_eq_right (by omega), Nat.min_eq_right (by omega)]
      · have hge := of_decide_eq_false hge
        have : k = 4 := by omega
        subst this
        rw [hx2]
end
end Go.Proofs.YtnofpcbjpcoghaaGreat
namespace Go.Proofs.YtnofpcbjpcoghaaGreat
open Go.RowKit
set_option linter.unusedVariables false
set_option linter.unusedSimpArgs false
set_option maxRecDepth 10000
def upP (W : Wld) (g : Int) : List Int := pathW W.groups g ++ [0]
def dryP (W : Wld) (g c : Int) : Bool := (upP W g).any fun x => dryD W x c
theorem upP_root (W : Wld) : upP W 0 = [0] := by unfold upP; rw [show pathW W.groups 0 = [] from path_root W.groups 3]; rfl
theorem upP_step {W : Wld} (ht : TreeP W.groups) {g : Int} (hu : usedD W.groups g = true) (hz : g ≠ 0) : upP W g = g :: upP W (gi W.groups g).parent := by
  unfold upP
  rw [path_step ht hu hz, List.cons_append]
theorem upP_used {W : Wld} (ht : TreeP W.groups) {g : Int} (hu : usedD W.groups g = true) : ∀ x ∈ upP W g, usedD W.groups x = true := by
  have hr : usedD W.groups 0 = true := usedD_iff.2 ⟨by decide, by have := ht.len; omega, ht.ru⟩
  refine path_ind ht (Q := fun h => ∀ x ∈ upP W h, usedD W.groups x = true) ?_ (fun h hu hz ih => ?_) g hu
  · rw [upP_root]
    intro x hx
    have : x = 0 := by simpa using hx
    rw [this]; exact hr
  · rw [upP_step ht hu hz]
    intro x hx
    rcases List.mem_cons.1 hx with rfl | hx
    · exact hu
    · exact ih x hx
theorem path_len (gs : List Grp) : ∀ (f : Nat) (g : Int), (pathD f gs g).length ≤ f
  | 0, _ => Nat.le_refl _
  | f + 1, g => by
    simp only [pathD]
    split
    · simp
    · have := path_len gs f (gi gs g).parent
      simp; omega
theorem upP_len (W : Wld) (g : Int) : (upP W g).length ≤ 4 := by
  unfold upP
  have := path_len W.groups 3 g
  simp; omega
theorem dryP_root (W : Wld) (c : Int) : dryP W 0 c = dryD W 0 c := by
  unfold dryP; rw [upP_root]; simp
theorem dryP_step {W : Wld} (ht : TreeP W.groups) {g c : Int} (hu : usedD W.groups g = true) (hz : g ≠ 0) : dryP W g c = (dryD W g c || dryP W (gi W.groups g).parent c) := by
  unfold dryP
  rw [upP_step ht hu hz]; rfl
def couldD (W : Wld) (t c : Int) : Bool :=
  (!(((((((tkk W t).state != 1) || ((tkk W t).cpu == c)) || ((gi W.cpus (tkk W t).cpu).cur == t)) || (!lineD W t)) || (!mHas (whereD W (tkk W t).group (tkk W t).mask) c)))) && !dryP W (tkk W t).group c
def anyC (W : Wld) (b c : Int) : Bool := anyB (fun t => ((tkk W (t : Int)).cpu == b) && couldD W (t : Int) c) 12
theorem could_other {W : Wld} {t c : Int} (h : couldD W t c = true) : (tkk W t).state = 1 ∧ (tkk W t).cpu ≠ c := by
  unfold couldD at h
  simp only [Bool.and_eq_true, Bool.not_eq_true', Bool.or_eq_false_iff, bne_eq_false_iff_eq, beq_eq_false_iff_ne] at h
  exact ⟨h.1.1.1.1.1, h.1.1.1.1.2⟩
section
variable {W : Wld} {m : MW} {w : World} {bs : List Nat} {p : Option Addr}
def restP (W : Wld) (g : Int) : List Int := if g = 0 then [] else upP W (gi W.groups g).parent
theorem rest_cons {W : Wld} (ht : TreeP W.groups) {g : Int} (hu : usedD W.groups g = true) : g :: restP W g = upP W g := by
  unfold restP
  by_cases hz : g = 0
  · subst hz; rw [if_pos rfl, upP_root]
  · rw [if_neg hz, upP_step ht hu hz]
theorem k_spec_l9Groups {t : Int} (h : RdW [] w W m) (ht : TreeP W.groups) (t0 : 0 ≤ t) (t1 : t < (W.tasks.length : Int)) (hu : usedD W.groups (tkk W t).group = true) :
    Calls Tryz.prog fn_spec_l9Groups #[.agg (encW W m).toArray, .int .i64 t] w fun e w' => ∃ o c', e = .returned (.slice o (upP W (tkk W t).group).length c') ∧ Own encI 1 ty_int w.heap.size w' o c' (upP W (tkk W t).group) ∧ ExtX [] w w' := by
  refine (e_spec_l9Groups W.now m.cO W.cpus.length m.cC m.tO W.tasks.length m.tC m.gO W.groups.length m.gC t (R := fun v w' => ∃ o c', v = .slice o (upP W (tkk W t).group).length c' ∧ Own encI 1 ty_int w.heap.size w' o c' (upP W (tkk W t).group) ∧ ExtX [] w w') ?_).mono fun e w' ⟨v, he, o, c', hv, h1⟩ => ⟨o, c', by rw [he, hv], h1⟩
  intro b hb
  refine ⟨h.t.ix encT_c t0 t1, _, h.t.f t0 t1 (j := 1) rfl, fun b1 wb hx1 hb1 hcell hn => ?_⟩
  have hlen := upP_len W (tkk W t).group
  have hO0 : Own encI 1 ty_int w.heap.size wb (some ⟨b1, 0, none⟩) 1 [(tkk W t).group] := .inr ⟨b1, [], rfl, hb1, hcell, by simp [encI], by simp⟩
  have hbn : ∀ x ∈ [b], w.heap.size ≤ x := by simpa using hb
  refine ⟨fun vs w1 => ∃ (g : Int) (l : List Int) (o : Option Addr) (c' : Nat), vs = [.int .i64 g, .slice o l.length c'] ∧ usedD W.groups g = true ∧ l ++ restP W g = upP W (tkk W t).group ∧ Sc w [b] w1 ∧ Ob encI 1 ty_int w.heap.size [b] w1 o c' l, fun vs _ => (dep 3 W.groups (ctrAt 0 vs)).toNat,
    fun wr hx _ => ⟨_, [(tkk W t).group], _, 1, rfl, hu, rest_cons ht hu, (Sc.mk hx1 hbn).step hx, ⟨hO0.ext hx (by simp [blkOf]; exact fun e => hn (by simp [e])), by simp [blkOf]; exact fun e => hn (by simp [e])⟩⟩, ?_⟩
  rintro g oO oL oC w1 hs1 ⟨g', l, o', c', he, hug, hI, s1, hO⟩
  simp only [List.cons.injEq, Value.int.injEq, Value.slice.injEq, true_and, and_true] at he
  obtain ⟨rfl, rfl, rfl, rfl⟩ := he
  have hg := ((h.wide (cs := [b]) fun x hm => .inr (hbn x hm)).ext s1.ext.of_nil).g
  have hll : l.length ≤ 4 := by
    have := congrArg List.length hI
    simp at this
    omega
  refine ⟨fun hz => ?_, fun hz wr hx => ?_⟩
  · have hz : g ≠ 0 := by simpa using hz
    obtain ⟨hp, a, b', d, e, e2, hd⟩ := climb ht hug hz
    refine ⟨hg.ix a b', _, hg.parent a b', fun b2 hb2 wr1 hx2 hs2 hcell2 => ?_⟩
    have s2 := s1.put hx2 hb2
    have hO2 := hO.put hx2 hb2
    obtain ⟨o2, c2, w2, hrun, hk2, hO3, hx3⟩ := hO2.app1 elt_Int u_sl_int (x := (gi W.groups g).parent) hs2 s2.ext.size hcell2 (oneI _) (by omega) (by decide) ty_sl_int #[false, false]
    have s3 := s2.call hx3 fun x hm => (hO2.own.lt x hm).1
    refine ⟨_, _, _, w2, hrun, hk2, fun wr2 hx4 _ => ⟨⟨_, l ++ [(gi W.groups g).parent], o2, c2, rfl, hp, ?_, (s3.step hx4).sub (by simp), (hO3.step hx4).sub (by simp)⟩, ?_⟩⟩
    · rw [List.append_assoc, List.singleton_append, rest_cons ht hp, ← hI]
      unfold restP
      rw [if_neg hz]
    · show (dep 3 W.groups (gi W.groups g).parent).toNat < (dep 3 W.groups g).toNat
      omega
  · have hz : g = 0 := by simpa using hz
    subst hz
    have hl : l = upP W (tkk W t).group := by
      rw [← hI]
      unfold restP
      rw [if_pos rfl, List.append_nil]
    subst hl
    exact ⟨oO, oC, rfl, (hO.step hx).own, (s1.step hx).ext⟩
theorem k_spec_l12Could {t c : Int} (h : RdW bs w W m) (wp : WldP W) (t0 : 0 ≤ t) (t1 : t < (W.tasks.length : Int)) (c0 : 0 ≤ c) (c1 : c < (W.cpus.length : Int)) : PureX bs Tryz.prog fn_spec_l12Could #[.agg (encW W m).toArray, .int .i64 t, .int .i64 c] w (.bool (couldD W t c)) := by
  refine pureX_of fun wr0 hx0 => e_spec_l12Could W.now m.cO W.cpus.length m.cC m.tO W.tasks.length m.tC m.gO W.groups.length m.gC t c (R := fun v w' => v = .bool (couldD W t c) ∧ ExtX [] wr0 w') ?_
  have h := (h.ext hx0).less (cs := []) (by simp)
  have li : ((tkk W t).state != 1) = false → usedD W.groups (tkk W t).group = true ∧ 0 ≤ (tkk W t).cpu ∧ (tkk W t).cpu < (W.cpus.length : Int) := fun hs => wp.li t0 t1 (by simpa using hs)
  intro b hb
  refine ⟨h.t.ix encT_c t0 t1, _, _, _, _, _, _, _, _, _, h.t t t0 t1, fun b1 hb1 => ?_⟩
  refine ⟨fun g => ?_, (gi W.cpus (tkk W t).cpu).cur, fun g => ?_, lineD W t, fun g => ?_, whereD W (tkk W t).group (tkk W t).mask, fun g => ?_, _, fun g => k_spec_MaskHas, fun g wr hx => ?_, fun g wr1 hx1 hs1 => ?_⟩
  · have g : (((tkk W t).state != 1) || ((tkk W t).cpu == c)) = false := g
    simp only [Bool.or_eq_false_iff] at g
    have := li g.1
    exact h.c.ix encC_c this.2.1 this.2.2
  · have g : (((tkk W t).state != 1) || ((tkk W t).cpu == c)) = false := g
    simp only [Bool.or_eq_false_iff] at g
    have := li g.1
    exact (h.c _ this.2.1 this.2.2).get 1 _ rfl
  · exact k_spec_l8InLine h wp.a t0 t1 fun hs => wp.li t0 t1 hs
  · have g : (((((tkk W t).state != 1) || ((tkk W t).cpu == c)) || ((gi W.cpus (tkk W t).cpu).cur == t)) || (!lineD W t)) = false := g
    simp only [Bool.or_eq_false_iff] at g
    exact k_spec_l8Where h wp.a.c2 wp.a.tree (li g.1.1.1).1
  · have : couldD W t c = false := by
      unfold couldD
      rw [show ((((((tkk W t).state != 1) || ((tkk W t).cpu == c)) || ((gi W.cpus (tkk W t).cpu).cur == t)) || (!lineD W t)) || (!mHas (whereD W (tkk W t).group (tkk W t).mask) c)) = true from g]
      rfl
    rw [this]; exact ⟨rfl, hx⟩
  have g : ((((((tkk W t).state != 1) || ((tkk W t).cpu == c)) || ((gi W.cpus (tkk W t).cpu).cur == t)) || (!lineD W t)) || (!mHas (whereD W (tkk W t).group (tkk W t).mask) c)) = false := g
  have eC : couldD W t c = !dryP W (tkk W t).group c := by unfold couldD; rw [g]; rfl
  simp only [Bool.or_eq_false_iff] at g
  obtain ⟨hu, _, _⟩ := li g.1.1.1.1
  rw [eC]
  have hbn : ∀ x ∈ [b, b1], wr0.heap.size ≤ x := by
    intro x hm
    simp only [List.mem_cons, List.not_mem_nil, or_false] at hm
    rcases hm with rfl | rfl
    · exact hb
    · exact hb1
  refine (k_spec_l9Groups (h.ext hx1) wp.a.tree t0 t1 hu).mono fun e w2 ⟨o, c', he, hO, hx2⟩ => ⟨_, _, _, he, kept_of hx2 hs1, ?_⟩
  have hplen := upP_len W (tkk W t).group
  have s2 : Sc wr0 [b, b1] w2 := ⟨hx1.trans hx2, hbn⟩
  have hO2 : Ob encI 1 ty_int wr1.heap.size [b, b1] w2 o c' (upP W (tkk W t).group) := Ob.of hO hs1
  refine loop1w (upP W (tkk W t).group).length 0 rfl (fun k w3 => k ≤ (upP W (tkk W t).group).length ∧ Sc wr0 [b, b1] w3 ∧ Ob encI 1 ty_int wr1.heap.size [b, b1] w3 o c' (upP W (tkk W t).group) ∧ ∀ j : Nat, j < k → dryD W (gi (upP W (tkk W t).group) (j : Int)) c = false)
    (fun w3 hx3 _ => ⟨Nat.zero_le _, s2.step hx3, hO2.step hx3, fun j hj => absurd hj (Nat.not_lt_zero j)⟩) fun k w3 _ ⟨hk, s3, hO3, hI⟩ => ⟨fun hlt => ?_, fun hge wr hx => ?_⟩
  · have hlt := of_decide_eq_true hlt
    have hR := hO3.rd elt_Int.len
    have hgm := gi_mem (l := upP W (tkk W t).group) (i := (k : Int)) (by omega) hlt
    have hW3 := (h.wide (cs := [b, b1]) fun x hm => .inr (hbn x hm)).ext s3.ext.of_nil
    refine ⟨hR.ix encI_c (by omega) hlt, _, hR (k : Int) (by omega) hlt, _, k_spec_l8Dry hW3 wp.a (upP_used wp.a.tree hu _ hgm) c0 c1, fun gd wr hx => ⟨?_, (s3.step hx).ext⟩, fun gd => ⟨⟨by omega, by omega⟩, fun wr hx _ => loop1w_next (by omega) ⟨by omega, s3.step hx, hO3.step hx, fun j hj => ?_⟩⟩⟩
    · have : dryP W (tkk W t).group c = true := List.any_eq_true.2 ⟨_, hgm, gd⟩
      rw [this]; rfl
    · by_cases hjk : j < k
      · exact hI j hjk
      · have : j = k := by omega
        subst this; exact gd
  · have hge := of_decide_eq_false hge
    have hkn : k = (upP W (tkk W t).group).length := by omega
    have : dryP W (tkk W t).group c = false := by
      cases hd : dryP W (tkk W t).group c with
      | false => rfl
      | true =>
        obtain ⟨x, hx, hdx⟩ := List.any_eq_true.1 hd
        obtain ⟨j, hj, hjx⟩ := List.getElem_of_mem hx
        have := hI j (by omega)
        rw [gi_lt hj, hjx, hdx] at this
        cases this
    rw [this]; exact ⟨rfl, (s3.step hx).ext⟩
theorem k_impl_couldRun {t c : Int} (h : WPt bs w p W m) (wp : WldP W) (t0 : 0 ≤ t) (t1 : t < (W.tasks.length : Int)) (c0 : 0 ≤ c) (c1 : c < (W.cpus.length : Int)) : PureX bs Tryz.prog fn_impl_lane_couldRun #[.agg #[.pointer p, .int .i64 c], .int .i64 t] w (.bool (couldD W t c)) :=
  p_impl_lane_couldRun p c t fun wr hx => by
    have h := (h.ext hx).less (cs := []) (by simp)
    have li : ((tkk W t).state != 1) = false → usedD W.groups (tkk W t).group = true ∧ 0 ≤ (tkk W t).cpu ∧ (tkk W t).cpu < (W.cpus.length : Int) := fun hs => wp.li t0 t1 (by simpa using hs)
    refine fun _ _ => ⟨h.some, _, _, _, h.tasks, h.rd.t.ix encT_c t0 t1, _, _, _, _, _, _, _, _, _, h.rd.t t t0 t1, fun _ _ => ⟨fun g => ?_, fun g => ?_⟩⟩
    · have g : (((tkk W t).state != 1) || ((tkk W t).cpu == c)) = true := g
      have : couldD W t c = false := by unfold couldD; rw [g]; rfl
      rw [this]
    have g1 : (((tkk W t).state != 1) || ((tkk W t).cpu == c)) = false := g
    have g2 := g1
    simp only [Bool.or_eq_false_iff] at g2
    obtain ⟨hu, k0, k1⟩ := li g2.1
    have eL : (((tkk W t).cpu == (tkk W t).cpu) && lineD W t) = lineD W t := by rw [beq_self_eq_true, Bool.true_and]
    have hin := k_impl_inLine (c := (tkk W t).cpu) h wp.a t0 t1 k0 k1 (fun hs => (wp.li t0 t1 hs).1)
    rw [eL] at hin
    refine ⟨p, _, k_impl_lane, fun _ _ => ⟨lineD W t, hin, _, fun _ => k_impl_cpu h k0 k1, fun _ => ?_, (gi W.cpus (tkk W t).cpu).cur, fun _ => ?_, _, fun _ => k_impl_allowed h wp.a.c2 wp.a.tree t0 t1 hu, _, fun _ => k_impl_MaskHas, fun g => ?_, fun g => ?_⟩⟩
    · obtain ⟨a, ha, _⟩ := (h.rd.c _ k0 k1).get 0 _ rfl
      rw [ha]; rfl
    · exact cell_atW (h.rd.c _ k0 k1) (j := 1) rfl
    · have g : ((((!lineD W t)) || ((gi W.cpus (tkk W t).cpu).cur == t)) || (!mHas (whereD W (tkk W t).group (tkk W t).mask) c)) = true := g
      have : couldD W t c = false := by
        unfold couldD
        rw [g1, Bool.false_or]
        revert g
        cases lineD W t <;> cases ((gi W.cpus (tkk W t).cpu).cur == t) <;> cases mHas (whereD W (tkk W t).group (tkk W t).mask) c <;> simp
      rw [this]
    have g : ((((!lineD W t)) || ((gi W.cpus (tkk W t).cpu).cur == t)) || (!mHas (whereD W (tkk W t).group (tkk W t).mask) c)) = false := g
    have eC : couldD W t c = !dryP W (tkk W t).group c := by
      unfold couldD
      rw [g1, Bool.false_or]
      revert g
      cases lineD W t <;> cases ((gi W.cpus (tkk W t).cpu).cur == t) <;> cases mHas (whereD W (tkk W t).group (tkk W t).mask) c <;> simp
    rw [eC]
    have ht := wp.a.tree
    refine ⟨fun vs => ∃ x : Int, vs = [.int .i64 x] ∧ ((x = -1 ∧ dryP W (tkk W t).group c = false) ∨ (usedD W.groups x = true ∧ dryP W x c = dryP W (tkk W t).group c)), fun vs => if ctrAt 0 vs = -1 then 0 else (dep 3 W.groups (ctrAt 0 vs)).toNat + 1, ⟨_, rfl, .inr ⟨hu, rfl⟩⟩, ?_⟩
    rintro x ⟨x', he, hI⟩
    simp only [List.cons.injEq, Value.int.injEq, true_and, and_true] at he
    subst he
    refine ⟨fun hne => ?_, fun heq => ?_⟩
    · have hne : x ≠ -1 := by simpa using hne
      rcases hI with ⟨h1, _⟩ | ⟨hux, hI⟩
      · exact absurd h1 hne
      · obtain ⟨x0, x1, _⟩ := usedD_iff.1 hux
        refine ⟨_, k_impl_dry h wp.a hux c0 c1, fun gd => ?_, fun gd => ⟨h.some, _, _, _, h.groups, h.rd.g.ix x0 x1, _, h.rd.g.parent x0 x1, ?_, ?_⟩⟩
        · have : dryP W (tkk W t).group c = true := by
            rw [← hI]
            by_cases hz : x = 0
            · subst hz; rw [dryP_root, gd]
            · rw [dryP_step ht hux hz, gd]; rfl
          rw [this]; rfl
        · by_cases hz : x = 0
          · subst hz
            exact ⟨_, rfl, .inl ⟨ht.rp, by rw [← hI, dryP_root, gd]⟩⟩
          · refine ⟨_, rfl, .inr ⟨(climb ht hux hz).1, ?_⟩⟩
            rw [← hI, dryP_step ht hux hz, gd]; rfl
        · show (if (gi W.groups x).parent = -1 then 0 else (dep 3 W.groups (gi W.groups x).parent).toNat + 1) < (if x = -1 then 0 else (dep 3 W.groups x).toNat + 1)
          rw [if_neg hne]
          by_cases hz : x = 0
          · subst hz; rw [if_pos ht.rp]; omega
          · obtain ⟨_, _, _, d, e, e2, _⟩ := climb ht hux hz
            split <;> omega
    · have heq : x = -1 := by simpa using heq
      rcases hI with ⟨_, h2⟩ | ⟨hux, _⟩
      · rw [h2]; rfl
      · have := (usedD_iff.1 hux).1
        omega
end
end Go.Proofs.YtnofpcbjpcoghaaGreat
