/- Worlds: the reference's functions that say whether one is valid. -/
import Derived.Test.YthojnihahmlboaaGreatWld
import Derived.Test.YthojnihahmlboaaGreatEqv
namespace Go.Proofs.YthojnihahmlboaaGreat
open Go.RowKit
set_option linter.unusedVariables false
set_option linter.unusedSimpArgs false
set_option maxRecDepth 10000

theorem k_spec_l4Time {v : Int} {w : World} {bs : List Nat} : PureX bs Tryz.prog fn_spec_l4Time #[.int .i64 v] w (.bool (tmOk v)) := p_spec_l4Time v fun wr hx => ⟨_, k_spec_l1In, rfl⟩
theorem k_spec_WeightOf {n : Int} {w : World} {bs : List Nat} : PureX bs Tryz.prog fn_spec_WeightOf #[.int .i64 n] w (.int .i64 (weightOf n)) :=
  p_spec_WeightOf n fun wr hx => ⟨_, k_spec_l1In, fun g => by
    unfold weightOf; rw [if_neg (by simpa using g)], fun g => by
    have g' : inB n (-10) 9 = true := by simpa using g
    have := inB_t.1 g'
    refine ⟨⟨by omega, by omega⟩, ?_⟩
    unfold weightOf; rw [if_pos g']⟩
theorem k_spec_MaskOk {m : Int} {w : World} {bs : List Nat} : PureX bs Tryz.prog fn_spec_MaskOk #[.int .i64 m] w (.bool (mOk m)) := p_spec_MaskOk m fun wr hx => ⟨_, k_spec_l1In, rfl⟩
theorem k_spec_MaskHas {m c : Int} {w : World} {bs : List Nat} : PureX bs Tryz.prog fn_spec_MaskHas #[.int .i64 m, .int .i64 c] w (.bool (mHas m c)) :=
  p_spec_MaskHas m c fun wr hx => by
    have hr : (mOk m && inB c 0 3) = true → 0 ≤ c ∧ c ≤ 3 := fun g => by
      simp only [Bool.and_eq_true] at g
      exact inB_t.1 g.2
    exact ⟨_, k_spec_MaskOk, _, fun _ => k_spec_l1In, fun g => by have := hr g; exact ⟨by omega, by show c ≤ 18446744073709551615; omega⟩, fun g => (hr g).1, fun _ => by decide, rfl⟩
theorem andN_lt (a b : Int) : ∀ k : Nat, k ≤ 4 → 0 ≤ andN a b k ∧ andN a b k < bitN k
  | 0, _ => by simp [andN, bitN]
  | k + 1, h => by
    have ih := andN_lt a b k (by omega)
    have hb : bitN (k + 1) = 2 * bitN k ∧ 0 ≤ bitN k := by
      have : k = 0 ∨ k = 1 ∨ k = 2 ∨ k = 3 := by omega
      rcases this with rfl | rfl | rfl | rfl <;> decide
    simp only [andN]
    split <;> omega
theorem inU64 {k : Nat} (h : k ≤ 64) : InR .u64 (k : Int) := ⟨by show (0 : Int) ≤ (k : Int); omega, by show (k : Int) ≤ 18446744073709551615; omega⟩
theorem k_spec_MaskAnd {a b : Int} {w : World} {bs : List Nat} : PureX bs Tryz.prog fn_spec_MaskAnd #[.int .i64 a, .int .i64 b] w (.int .i64 (mAnd a b)) :=
  p_spec_MaskAnd a b fun wr hx => by
    refine ⟨_, k_spec_MaskOk, _, fun _ => k_spec_MaskOk, fun g => ?_, fun g => ?_⟩
    · rw [mAnd_out]
      simpa using g
    · simp only [Bool.or_eq_false_iff, Bool.not_eq_false'] at g
      have he : mAnd a b = andN a b 4 := by
        rw [mAnd_in g.1 g.2]
        obtain ⟨x, rfl⟩ := fin16 g.1
        obtain ⟨y, rfl⟩ := fin16 g.2
        exact (andN_fin x y).symm
      rw [he]
      refine loop2 4 0 rfl (fun x k => k ≤ 4 ∧ x = andN a b k) ⟨by omega, rfl⟩ fun x k ⟨hk, hx⟩ => ⟨fun hlt => ?_, fun hge => ?_⟩
      · have hlt := of_decide_eq_true hlt
        have hb := bit_le (k := k) (by omega)
        have hl := andN_lt a b k hk
        have hbd : (1 * 2 ^ (min (Int.toNat (k : Int)) 64) : Int) = bitN k := rfl
        refine ⟨_, k_spec_MaskHas, _, fun _ => k_spec_MaskHas, fun h => ?_, fun h => ?_⟩
        · rw [hbd]
          refine ⟨inU64 (by omega), ⟨by omega, by omega, by omega⟩, ⟨by omega, by omega⟩, ⟨by omega, by omega⟩, loop2_next (by omega) ⟨by omega, ?_⟩⟩
          rw [hx]; simp only [andN]; rw [if_pos h]
        · refine ⟨⟨by omega, by omega⟩, loop2_next (by omega) ⟨by omega, ?_⟩⟩
          rw [hx]; simp only [andN]; rw [if_neg (by rw [h]; decide)]
      · have hge := of_decide_eq_false hge
        have : k = 4 := by omega
        subst this
        rw [hx]
theorem noBand_q {b : Bnd} (h : noBand b = true) : b.quota = 0 ∧ b.pool = 0 ∧ b.spent = 0 ∧ b.locals.length = 0 ∧ b.dry.length = 0 := by
  unfold noBand at h
  simp only [Bool.and_eq_true, beq_iff_eq] at h
  omega
theorem k_spec_l8NoBand {b : Bnd} {m : MG} {w : World} {bs : List Nat} : PureX bs Tryz.prog fn_spec_l8NoBand #[.agg (encBd b m).toArray] w (.bool (noBand b)) :=
  p_spec_l8NoBand b.quota b.pool b.spent m.lO b.locals.length m.lC m.dO b.dry.length m.dC fun wr hx => fun _ _ => rfl
theorem sumI_range {l : List Int} {q : Int} (h : ∀ c : Int, 0 ≤ c → c < (l.length : Int) → 0 ≤ gi l c ∧ gi l c ≤ q) (hq : 0 ≤ q) : ∀ k : Nat, k ≤ l.length → 0 ≤ sumI l k ∧ sumI l k ≤ (k : Int) * q
  | 0, _ => by simp [sumI]
  | k + 1, hk => by
    have ih := sumI_range h hq k (by omega)
    have hg := h (k : Int) (by omega) (by omega)
    simp only [sumI]
    rw [show ((k + 1 : Nat) : Int) * q = (k : Int) * q + q by rw [show ((k + 1 : Nat) : Int) = (k : Int) + 1 by omega, Int.add_mul, Int.one_mul]]
    omega
theorem k_spec_BandOk {b : Bnd} {m : MG} {w : World} {bs : List Nat} (h1 : RdI bs w m.lO b.locals) (h2 : RdB bs w m.dO b.dry) (hl : b.locals.length ≤ maxLen) : PureX bs Tryz.prog fn_spec_BandOk #[.agg (encBd b m).toArray] w (.bool (decB (BndP b))) :=
  p_spec_BandOk b.quota b.pool b.spent m.lO b.locals.length m.lC m.dO b.dry.length m.dC fun wr hx => by
    have h1 := (h1.ext hx).less (cs := []) (by simp)
    have h2 := (h2.ext hx).less (cs := []) (by simp)
    intro _ _
    refine ⟨_, k_spec_l1In, _, fun _ => k_spec_l1In, _, fun _ => k_spec_l1In, _, fun _ => k_spec_l1In, fun g => noP fun p => ?_, fun g => ?_⟩
    · rw [inB_t.2 ⟨p.q1, p.q2⟩, inB_t.2 (by have := p.l1; have := p.l2; omega), inB_t.2 ⟨p.p1, p.p2⟩, inB_t.2 ⟨p.s1, p.s2⟩, p.dl] at g
      simp at g
    · simp only [Bool.or_eq_false_iff, Bool.not_eq_false', bne_eq_false_iff_eq, inB_t] at g
      obtain ⟨⟨⟨⟨g1, g2⟩, g3⟩, g4⟩, g5⟩ := g
      have hdl : b.dry.length = b.locals.length := by omega
      have all : ∀ {k : Nat}, k ≤ b.locals.length → (∀ c : Int, 0 ≤ c → c < (k : Int) → 0 ≤ gi b.locals c ∧ gi b.locals c ≤ b.quota ∧ (gi b.dry c = true → gi b.locals c = 0 ∧ b.pool = 0)) → 0 ≤ sumI b.locals k ∧ sumI b.locals k ≤ 40000 := fun {k} hk h => by
        have key : ∀ j : Nat, j ≤ k → 0 ≤ sumI b.locals j ∧ sumI b.locals j ≤ (j : Int) * 10000 := fun j => by
          induction j with
          | zero => intro _; simp [sumI]
          | succ j ih =>
            intro hj
            have := ih (by omega)
            have := h (j : Int) (by omega) (by omega)
            simp only [sumI]; omega
        have := key k (Nat.le_refl _)
        omega
      refine ⟨⟨by omega, by omega⟩, ?_⟩
      refine loop2 b.locals.length 0 rfl (fun x k => k ≤ b.locals.length ∧ x = b.pool + b.spent + sumI b.locals k ∧ ∀ c : Int, 0 ≤ c → c < (k : Int) → 0 ≤ gi b.locals c ∧ gi b.locals c ≤ b.quota ∧ (gi b.dry c = true → gi b.locals c = 0 ∧ b.pool = 0)) ⟨Nat.zero_le _, by simp [sumI], fun c h0 h1 => by omega⟩ fun x k ⟨hk, hx2, hI⟩ => ⟨fun hlt => ?_, fun hge => ?_⟩
      · have hlt := of_decide_eq_true hlt
        have hlt2 : (k : Int) < (b.dry.length : Int) := by omega
        have hsr := all hk hI
        refine ⟨h1.ix encI_c (by omega) hlt, _, h1 k (by omega) hlt, _, k_spec_l1In, fun _ => h2.ix encB_c (by omega) hlt2, _, fun _ => h2 k (by omega) hlt2, fun _ _ => h1.ix encI_c (by omega) hlt, _, fun _ _ => h1 k (by omega) hlt, fun g => noP fun p => ?_, fun g => ⟨h1.ix encI_c (by omega) hlt, _, h1 k (by omega) hlt, ?_⟩⟩
        · have pe := p.each (k : Int) (by omega) hlt
          rw [inB_t.2 ⟨pe.1, pe.2.1⟩] at g
          simp only [Bool.not_true, Bool.false_or, Bool.and_eq_true, Bool.or_eq_true, decide_eq_true_eq] at g
          have := pe.2.2 g.1
          omega
        · simp only [Bool.or_eq_false_iff, Bool.not_eq_false', inB_t] at g
          obtain ⟨ga, gb⟩ := g
          refine ⟨⟨by omega, by omega⟩, ⟨by omega, by omega⟩, loop2_next (by omega) ⟨by omega, by simp only [sumI]; omega, fun c hc0 hc => ?_⟩⟩
          by_cases hck : c < (k : Int)
          · exact hI c hc0 hck
          · have : c = (k : Int) := by omega
            subst this
            refine ⟨ga.1, ga.2, fun hd => ?_⟩
            rw [hd] at gb
            simp only [Bool.true_and, Bool.or_eq_false_iff, decide_eq_false_iff_not] at gb
            omega
      · have hge := of_decide_eq_false hge
        have : k = b.locals.length := by omega
        subst this
        refine boolP ?_
        rw [beq_iff_eq, hx2]
        constructor
        · intro hs
          exact ⟨g1.1, g1.2, by omega, by omega, hdl, g4.1, g4.2, g5.1, g5.2, hI, hs⟩
        · exact fun p => p.sum

section
variable {W : Wld} {m : MW} {w : World} {bs : List Nat}
theorem RdG.shelf {gs : List Grp} {ms : Nat → MG} {o : Option Addr} (h : RdG bs w o gs ms) {i : Int} (h0 : 0 ≤ i) (h1 : i < (gs.length : Int)) : CellsX bs w o (Int.toNat i * 14 + 13) [.slice (ms i.toNat).sO (gi gs i).shelves.length (ms i.toNat).sC] := (h.cells i h0 h1).get 13 _ rfl
theorem RdG.cpus {gs : List Grp} {ms : Nat → MG} {o : Option Addr} (h : RdG bs w o gs ms) {i : Int} (h0 : 0 ≤ i) (h1 : i < (gs.length : Int)) : CellsX bs w o (Int.toNat i * 14 + 4) [.int .i64 (gi gs i).cpus] := (h.cells i h0 h1).get 4 _ rfl
theorem RdG.band {gs : List Grp} {ms : Nat → MG} {o : Option Addr} (h : RdG bs w o gs ms) {i : Int} (h0 : 0 ≤ i) (h1 : i < (gs.length : Int)) : CellsX bs w o (Int.toNat i * 14 + 8) (encBd (gi gs i).band (ms i.toNat)) := cellsX_mk fun j v hj => by
  have e : encG (gi gs i) (ms i.toNat) = ((encG (gi gs i) (ms i.toNat)).take 8 ++ encBd (gi gs i).band (ms i.toNat)) ++ [.slice (ms i.toNat).sO (gi gs i).shelves.length (ms i.toNat).sC] := rfl
  have hj' : j < 5 := by
    have := (List.getElem?_eq_some_iff.1 hj).1
    simpa [encBd] using this
  have := (h.cells i h0 h1).get (8 + j) v (by
    rw [e, List.getElem?_append_left (by simp [encG, encBd]; omega), List.getElem?_append_right (by simp [encG])]
    simpa [encG] using hj)
  rwa [← Nat.add_assoc] at this
theorem RdT.f {ts : List Tsk} {o : Option Addr} (h : RdT bs w o ts) {i : Int} (h0 : 0 ≤ i) (h1 : i < (ts.length : Int)) {j : Nat} {v : Value} (hj : (encT (gi ts i))[j]? = some v) : CellsX bs w o (Int.toNat i * 9 + j) [v] := cellsX_one ((h i h0 h1).get j v hj)
theorem RdC.f {cs : List Cpu} {o : Option Addr} (h : RdC bs w o cs) {i : Int} (h0 : 0 ≤ i) (h1 : i < (cs.length : Int)) {j : Nat} {v : Value} (hj : (encC (gi cs i))[j]? = some v) : CellsX bs w o (Int.toNat i * 5 + j) [v] := cellsX_one ((h i h0 h1).get j v hj)
theorem RdS.f {ss : List Shf} {o : Option Addr} (h : RdS bs w o ss) {i : Int} (h0 : 0 ≤ i) (h1 : i < (ss.length : Int)) {j : Nat} {v : Value} (hj : (encS (gi ss i))[j]? = some v) : CellsX bs w o (Int.toNat i * 5 + j) [v] := cellsX_one ((h i h0 h1).get j v hj)
theorem k_spec_l8Ups (h : RdW bs w W m) (h4 : W.cpus.length ≤ 4) : PureX bs Tryz.prog fn_spec_l8Ups #[.agg (encW W m).toArray] w (.int .i64 (upsD W.cpus)) :=
  p_spec_l8Ups W.now m.cO W.cpus.length m.cC m.tO W.tasks.length m.tC m.gO W.groups.length m.gC fun wr hx => by
    have h := (h.ext hx).less (cs := []) (by simp)
    intro _ _
    refine loop2 W.cpus.length 0 rfl (fun x k => k ≤ W.cpus.length ∧ x = upsN W.cpus k) ⟨Nat.zero_le _, rfl⟩ fun x k ⟨hk, hx2⟩ => ⟨fun hlt => ?_, fun hge => ?_⟩
    · have hlt := of_decide_eq_true hlt
      have hb := bit_le (k := k) (by omega)
      have hl := upsN_lt W.cpus k (by omega)
      have hbd : (1 * 2 ^ (min (Int.toNat (k : Int)) 64) : Int) = bitN k := rfl
      refine ⟨h.c.ix encC_c (by omega) hlt, _, h.c.f (by omega) hlt (j := 0) rfl, fun hu => ?_, fun hu => ?_⟩
      · rw [hbd]
        refine ⟨inU64 (by omega), ⟨by omega, by omega, by omega⟩, ⟨by omega, by omega⟩, ⟨by omega, by omega⟩, loop2_next (by omega) ⟨by omega, ?_⟩⟩
        rw [hx2]; simp only [upsN]; rw [if_pos hu]
      · refine ⟨⟨by omega, by omega⟩, loop2_next (by omega) ⟨by omega, ?_⟩⟩
        rw [hx2]; simp only [upsN]; rw [if_neg (by rw [hu]; decide)]
    · have hge := of_decide_eq_false hge
      have : k = W.cpus.length := by omega
      subst this
      rw [hx2]; rfl
theorem k_spec_l8Pins {g : Int} (h : RdW bs w W m) (ht : TreeP W.groups) (hu : usedD W.groups g = true) : PureX bs Tryz.prog fn_spec_l8Pins #[.agg (encW W m).toArray, .int .i64 g] w (.int .i64 (spinD W.groups g)) :=
  p_spec_l8Pins W.now m.cO W.cpus.length m.cC m.tO W.tasks.length m.tC m.gO W.groups.length m.gC g fun wr hx => by
    have h := (h.ext hx).less (cs := []) (by simp)
    intro _ _
    obtain ⟨u1, u2, _⟩ := usedD_iff.1 hu
    refine ⟨h.g.ix u1 u2, _, h.g.cpus u1 u2, fun vs => ∃ (x s : Int), vs = [.int .i64 x, .int .i64 s] ∧ usedD W.groups x = true ∧ (pathW W.groups x).foldl (fun s x => mAnd s (gi W.groups (gi W.groups x).parent).cpus) s = spinD W.groups g, fun vs => (dep 3 W.groups (ctrAt 0 vs)).toNat, ⟨g, _, rfl, hu, rfl⟩, ?_⟩
    rintro x s ⟨x', s', he, hux, hI⟩
    simp only [List.cons.injEq, Value.int.injEq, true_and, and_true] at he
    obtain ⟨rfl, rfl⟩ := he
    refine ⟨fun hz => ?_, fun hz => ?_⟩
    · have hz : x ≠ 0 := by simpa using hz
      obtain ⟨hp, a, b, d, e, e2, hd⟩ := climb ht hux hz
      obtain ⟨v1, v2, _⟩ := usedD_iff.1 hp
      rw [path_step ht hux hz, List.foldl_cons] at hI
      exact ⟨h.g.ix a b, _, h.g.parent a b, h.g.ix v1 v2, _, h.g.cpus v1 v2, _, k_spec_MaskAnd, ⟨_, _, rfl, hp, hI⟩, by
        show (dep 3 W.groups (gi W.groups x).parent).toNat < (dep 3 W.groups x).toNat
        omega⟩
    · have hz : x = 0 := by simpa using hz
      subst hz
      rw [show pathW W.groups 0 = [] from path_root _ _, List.foldl_nil] at hI
      rw [hI]
theorem k_spec_l8Where {g mask : Int} (h : RdW bs w W m) (h4 : W.cpus.length ≤ 4) (ht : TreeP W.groups) (hu : usedD W.groups g = true) : PureX bs Tryz.prog fn_spec_l8Where #[.agg (encW W m).toArray, .int .i64 g, .int .i64 mask] w (.int .i64 (whereD W g mask)) :=
  p_spec_l8Where W.now m.cO W.cpus.length m.cC m.tO W.tasks.length m.tC m.gO W.groups.length m.gC g mask fun wr hx => by
    have h := (h.ext hx).less (cs := []) (by simp)
    intro _ _
    have hk := k_spec_MaskAnd (a := spinD W.groups g) (b := upsD W.cpus) (w := wr) (bs := [])
    rw [spin_pin ht hu] at hk
    refine ⟨_, k_spec_l8Ups h h4, _, k_spec_l8Pins h ht hu, _, hk, _, k_spec_MaskAnd, fun g1 => ?_, fun g1 => ⟨fun g2 => ?_, fun g2 => ?_⟩⟩
    · unfold whereD; rw [if_pos (by simpa using g1)]
    · unfold whereD; rw [if_neg (by simpa using g1), if_pos (by simpa using g2)]
    · unfold whereD; rw [if_neg (by simpa using g1), if_neg (by simpa using g2)]
theorem k_spec_l8Dry {g c : Int} (h : RdW bs w W m) (ha : WA W) (hu : usedD W.groups g = true) (c0 : 0 ≤ c) (c1 : c < (W.cpus.length : Int)) : PureX bs Tryz.prog fn_spec_l8Dry #[.agg (encW W m).toArray, .int .i64 g, .int .i64 c] w (.bool (dryD W g c)) :=
  p_spec_l8Dry W.now m.cO W.cpus.length m.cC m.tO W.tasks.length m.tC m.gO W.groups.length m.gC g c fun wr hx => by
    have h := (h.ext hx).less (cs := []) (by simp)
    intro _ _
    obtain ⟨u1, u2, _⟩ := usedD_iff.1 hu
    have hd : (decide ((gi W.groups g).band.quota > 0)) = true → c < ((gi W.groups g).band.dry.length : Int) := fun g1 => by
      have := of_decide_eq_true g1
      rw [(ha.dl hu (by omega)).1]; exact c1
    exact ⟨h.g.ix u1 u2, _, _, _, _, _, _, _, _, _, h.g.band u1 u2, fun _ _ => ⟨fun g1 => (h.g.dry g u1 u2).ix encB_c c0 (hd g1), _, fun g1 => (h.g.dry g u1 u2) c c0 (hd g1), rfl⟩⟩
theorem k_spec_l8Queued {g c : Int} (h : RdW bs w W m) (ha : WA W) (hu : usedD W.groups g = true) (c0 : 0 ≤ c) (c1 : c < (W.cpus.length : Int)) : PureX bs Tryz.prog fn_spec_l8Queued #[.agg (encW W m).toArray, .int .i64 g, .int .i64 c] w (.bool (shf W g c).on) :=
  p_spec_l8Queued W.now m.cO W.cpus.length m.cC m.tO W.tasks.length m.tC m.gO W.groups.length m.gC g c fun wr hx => by
    have h := (h.ext hx).less (cs := []) (by simp)
    intro _ _
    obtain ⟨u1, u2, _⟩ := usedD_iff.1 hu
    have hs := ha.sl hu
    have c2 : c < ((gi W.groups g).shelves.length : Int) := by omega
    exact ⟨h.g.ix u1 u2, _, _, _, h.g.shelf u1 u2, (h.g.shelves g u1 u2).ix encS_c c0 c2, _, RdS.f (h.g.shelves g u1 u2) c0 c2 (j := 1) rfl, rfl⟩
theorem used_of {gs : List Grp} {k : Nat} (hk : (k : Int) < (gs.length : Int)) (hu : (gi gs (k : Int)).used = true) : usedD gs (k : Int) = true := usedD_iff.2 ⟨by omega, hk, hu⟩
theorem k_spec_l8Active {g c : Int} (h : RdW bs w W m) (ha : WA W) (c0 : 0 ≤ c) (c1 : c < (W.cpus.length : Int)) : PureX bs Tryz.prog fn_spec_l8Active #[.agg (encW W m).toArray, .int .i64 g, .int .i64 c] w (.bool (activeD W g c)) :=
  p_spec_l8Active W.now m.cO W.cpus.length m.cC m.tO W.tasks.length m.tC m.gO W.groups.length m.gC g c fun wr hx => by
    have h := (h.ext hx).less (cs := []) (by simp)
    intro _ _
    have hgl := ha.gl
    have hm9 := maxLen_big
    refine loop1 W.tasks.length 0 rfl (fun k => k ≤ W.tasks.length ∧ ∀ j : Nat, j < k → actT W g c j = false) ⟨Nat.zero_le _, fun j hj => absurd hj (Nat.not_lt_zero j)⟩ fun k ⟨hk, hI⟩ => ⟨fun hlt => ?_, fun hge => ?_⟩
    · have hlt := of_decide_eq_true hlt
      have ht := ha.t
      refine ⟨h.t.ix encT_c (by omega) hlt, _, h.t.f (by omega) hlt (j := 0) rfl, fun _ => h.t.ix encT_c (by omega) hlt, _, fun _ => h.t.f (by omega) hlt (j := 1) rfl, fun _ => h.t.ix encT_c (by omega) hlt, _, fun _ => h.t.f (by omega) hlt (j := 2) rfl, fun hy => ?_, fun hn => ⟨⟨by omega, by omega⟩, loop1_next (by omega) ⟨by omega, fun j hj => ?_⟩⟩⟩
      · unfold activeD
        rw [anyB_t.2 ⟨k, by omega, hy⟩]; rfl
      · by_cases hjk : j < k
        · exact hI j hjk
        · have : j = k := by omega
          subst this; exact hn
    · have hge := of_decide_eq_false hge
      have hno : anyB (actT W g c) W.tasks.length = false := anyB_f fun j hj => hI j (by omega)
      refine loop1 W.groups.length 1 rfl (fun k => 1 ≤ k ∧ k ≤ W.groups.length ∧ ∀ j : Nat, j < k → actG W g c j = false) ⟨Nat.le_refl _, by omega, fun j hj => by
        have : j = 0 := by omega
        subst this; simp [actG]⟩ fun k ⟨hk1, hk, hI⟩ => ⟨fun hlt => ?_, fun hge => ?_⟩
      · have hlt := of_decide_eq_true hlt
        refine ⟨h.g.ix (by omega) hlt, _, h.g.used (by omega) hlt, fun _ => h.g.ix (by omega) hlt, _, fun _ => h.g.parent (by omega) hlt, (shf W (k : Int) c).on, fun hu => k_spec_l8Queued h ha (used_of hlt (by simp only [Bool.and_eq_true] at hu; exact hu.1)) c0 c1, fun hy => ?_, fun hn => ⟨⟨by omega, by omega⟩, loop1_next (by omega) ⟨by omega, by omega, fun j hj => ?_⟩⟩⟩
        · unfold activeD
          have : anyB (actG W g c) W.groups.length = true := anyB_t.2 ⟨k, by omega, by
            unfold actG
            rw [decide_eq_true hk1, Bool.true_and]; exact hy⟩
          rw [this, Bool.or_true]
        · by_cases hjk : j < k
          · exact hI j hjk
          · have : j = k := by omega
            subst this
            unfold actG
            rw [decide_eq_true hk1, Bool.true_and]; exact hn
      · have hge := of_decide_eq_false hge
        have : anyB (actG W g c) W.groups.length = false := anyB_f fun j hj => hI j (by omega)
        unfold activeD
        rw [hno, this]; rfl
theorem k_spec_l8InLine {t : Int} (h : RdW bs w W m) (ha : WA W) (t0 : 0 ≤ t) (t1 : t < (W.tasks.length : Int)) (hu : (tkk W t).state = 1 → usedD W.groups (tkk W t).group = true ∧ 0 ≤ (tkk W t).cpu ∧ (tkk W t).cpu < (W.cpus.length : Int)) :
    PureX bs Tryz.prog fn_spec_l8InLine #[.agg (encW W m).toArray, .int .i64 t] w (.bool (lineD W t)) :=
  p_spec_l8InLine W.now m.cO W.cpus.length m.cC m.tO W.tasks.length m.tC m.gO W.groups.length m.gC t fun wr hx => by
    have h := (h.ext hx).less (cs := []) (by simp)
    intro _ _
    refine ⟨h.t.ix encT_c t0 t1, _, _, _, _, _, _, _, _, _, h.t t t0 t1, fun _ _ => ⟨fun g => ?_, fun g => ?_⟩⟩
    · have : ((tkk W t).state == 1) = false := by simpa [tkk] using g
      unfold lineD; rw [this]; rfl
    · have hs : (tkk W t).state = 1 := by simpa [tkk] using g
      obtain ⟨hug, hc0, hc1⟩ := hu hs
      have hL : lineD W t = lineG W (tkk W t).group (tkk W t).cpu := by unfold lineD; rw [beq_iff_eq.2 hs, Bool.true_and]
      rw [hL]
      refine ⟨fun vs => ∃ x : Int, vs = [.int .i64 x] ∧ usedD W.groups x = true ∧ lineG W x (tkk W t).cpu = lineG W (tkk W t).group (tkk W t).cpu, fun vs => (dep 3 W.groups (ctrAt 0 vs)).toNat, ⟨_, rfl, hug, rfl⟩, ?_⟩
      rintro x ⟨x', he, hux, hI⟩
      simp only [List.cons.injEq, Value.int.injEq, true_and, and_true] at he
      subst he
      refine ⟨fun hz => ?_, fun hz => ?_⟩
      · have hz : x ≠ 0 := by simpa using hz
        obtain ⟨hp, a, b, d, e, e2, hd⟩ := climb ha.tree hux hz
        unfold lineG at hI
        rw [path_step ha.tree hux hz, List.all_cons] at hI
        refine ⟨_, k_spec_l8Queued h ha hux hc0 hc1, fun g2 => ?_, fun g2 => ⟨h.g.ix a b, _, h.g.parent a b, ⟨_, rfl, hp, ?_⟩, by
          show (dep 3 W.groups (gi W.groups x).parent).toNat < (dep 3 W.groups x).toNat
          omega⟩⟩
        · have g2 : (shf W x (tkk W t).cpu).on = false := by simpa [tkk] using g2
          rw [g2, Bool.false_and] at hI
          unfold lineG
          rw [← hI]
        · have g2 : (shf W x (tkk W t).cpu).on = true := by simpa [tkk] using g2
          rw [g2, Bool.true_and] at hI
          exact hI
      · have hz : x = 0 := by simpa using hz
        subst hz
        unfold lineG at hI
        rw [show pathW W.groups 0 = [] from path_root _ _, List.all_nil] at hI
        unfold lineG
        rw [← hI]
end
theorem k_spec_l8Stand {v f k : Int} {w : World} {bs : List Nat} : PureX bs Tryz.prog fn_spec_l8Stand #[.int .i64 v, .int .i64 f, .int .i64 k] w (.bool (standW v f k)) :=
  p_spec_l8Stand v f k fun wr hx => ⟨IntKind.i64.wrap (v - f), fun _ wq => by simp [eqGuard, binOp, Op.intArith], _, fun _ => k_spec_LagMost, rfl⟩
end Go.Proofs.YthojnihahmlboaaGreat
