/- The paths of groups: TreePath, TreeFind, TreeKids of the reference and of the program. -/
import Derived.Test.YthojnihahmlboaaGreatWldC
namespace Go.Proofs.YthojnihahmlboaaGreat
open Go.RowKit
set_option linter.unusedVariables false
set_option linter.unusedSimpArgs false
set_option maxRecDepth 10000

/-! ### Plain -/
/-- A group's path below the root. -/
def pathN : Nat → List Grp → Int → ByteArray
  | 0, _, _ => ⟨[].toArray⟩
  | f + 1, gs, g => if g = 0 then ⟨[].toArray⟩ else (pathN f gs (gi gs g).parent ++ ⟨[47].toArray⟩) ++ (gi gs g).name
theorem pathN_root (f : Nat) (gs : List Grp) : pathN f gs 0 = ⟨[].toArray⟩ := by cases f <;> simp [pathN]
theorem pathN_more {gs : List Grp} (ht : TreeP gs) : ∀ (f f' : Nat) (h : Int), usedD gs h = true → dep 3 gs h ≤ f → dep 3 gs h ≤ f' → pathN f gs h = pathN f' gs h := by
  intro f
  induction f with
  | zero =>
    intro f' h hu h1 h2
    have hz : h = 0 := Decidable.byContradiction fun hz => by
      obtain ⟨_, _, _, d, e, _⟩ := climb ht hu hz
      omega
    subst hz
    rw [pathN_root, pathN_root]
  | succ f ih =>
    intro f' h hu h1 h2
    by_cases hz : h = 0
    · subst hz
      rw [pathN_root, pathN_root]
    · obtain ⟨hp, _, _, d, e, e2, _⟩ := climb ht hu hz
      cases f' with
      | zero => omega
      | succ f' =>
        simp only [pathN]
        rw [ih f' (gi gs h).parent hp (by omega) (by omega)]
theorem pathN_step {gs : List Grp} (ht : TreeP gs) {h : Int} (hu : usedD gs h = true) (hz : h ≠ 0) : pathN 3 gs h = (pathN 3 gs (gi gs h).parent ++ ⟨[47].toArray⟩) ++ (gi gs h).name := by
  obtain ⟨hp, _, _, d, e, e2, hd⟩ := climb ht hu hz
  rw [← pathN_more ht 2 3 (gi gs h).parent hp (by omega) (by omega)]
  have : pathN 3 gs h = if h = 0 then ⟨[].toArray⟩ else (pathN 2 gs (gi gs h).parent ++ ⟨[47].toArray⟩) ++ (gi gs h).name := rfl
  rw [this, if_neg hz]
theorem name_le {gs : List Grp} (ht : TreeP gs) {h : Int} (hu : usedD gs h = true) : (gi gs h).name.size ≤ 8 := by
  obtain ⟨a, b, u⟩ := usedD_iff.1 hu
  have hl := ht.len
  by_cases hz : h = 0
  · subst hz; rw [ht.rn]; decide
  · have := ht.nm h (by omega) (by omega) u
    exact (nameOk_iff.1 this).1.2
theorem size_lit (l : List UInt8) : (ByteArray.mk l.toArray).size = l.length := rfl
theorem size_one : (ByteArray.mk [47].toArray).size = 1 := rfl
theorem pathN_le {gs : List Grp} (ht : TreeP gs) : ∀ (f : Nat) (h : Int), usedD gs h = true → (pathN f gs h).size ≤ 9 * f
  | 0, _, _ => by simp only [pathN]; rw [size_lit]; simp
  | f + 1, h, hu => by
    simp only [pathN]
    by_cases hz : h = 0
    · rw [if_pos hz, size_lit]; simp
    · rw [if_neg hz]
      have h1 := pathN_le ht f _ (climb ht hu hz).1
      have h2 := name_le ht hu
      rw [ByteArray.size_append, ByteArray.size_append, size_one]
      omega
/-- A group's path. -/
def wayD (gs : List Grp) (g : Int) : ByteArray := if g = 0 then ⟨[47].toArray⟩ else pathN 3 gs g
/-- The first group from g on that has this path. -/
def findN : Nat → List Grp → ByteArray → Int → Int
  | 0, _, _, _ => -1
  | f + 1, gs, p, g => if ((gi gs g).used && strEq (wayD gs g) p) = true then g else findN f gs p (g + 1)
noncomputable def findD (gs : List Grp) (p : ByteArray) : Int := if treeB gs = true then findN 8 gs p 0 else -1
theorem findN_range (gs : List Grp) (p : ByteArray) : ∀ (f : Nat) (g : Int), findN f gs p g = -1 ∨ (g ≤ findN f gs p g ∧ findN f gs p g < g + f ∧ (gi gs (findN f gs p g)).used = true)
  | 0, _ => .inl rfl
  | f + 1, g => by
    simp only [findN]
    split
    · rename_i h
      simp only [Bool.and_eq_true] at h
      exact .inr ⟨by omega, by omega, h.1⟩
    · rcases findN_range gs p f (g + 1) with h | ⟨h1, h2, h3⟩
      · exact .inl h
      · exact .inr ⟨by omega, by omega, h3⟩
theorem findD_range {gs : List Grp} {p : ByteArray} : findD gs p = -1 ∨ (TreeP gs ∧ usedD gs (findD gs p) = true) := by
  unfold findD
  split
  · rename_i h
    have ht := treeB_iff.1 h
    have hl := ht.len
    rcases findN_range gs p 8 0 with h | ⟨h1, h2, h3⟩
    · exact .inl h
    · exact .inr ⟨ht, usedD_iff.2 ⟨h1, by omega, h3⟩⟩
  · exact .inl rfl
/-- The groups below k that are directly in g. -/
def kidP (gs : List Grp) (g : Int) (k : Nat) : Bool := (gi gs (k : Int)).used && ((gi gs (k : Int)).parent == g)
def kidL (gs : List Grp) (g : Int) (k : Nat) : List Int := ((List.range k).filter (kidP gs g)).map fun (i : Nat) => (i : Int)
theorem kidL_step {gs : List Grp} {g : Int} {k : Nat} (h : kidP gs g k = true) : kidL gs g (k + 1) = kidL gs g k ++ [(k : Int)] := by
  unfold kidL
  rw [List.range_succ, List.filter_append]; simp [h]
theorem kidL_skip {gs : List Grp} {g : Int} {k : Nat} (h : kidP gs g k = false) : kidL gs g (k + 1) = kidL gs g k := by
  unfold kidL
  rw [List.range_succ, List.filter_append]; simp [h]
theorem kidL_le (gs : List Grp) (g : Int) (k : Nat) : (kidL gs g k).length ≤ k := by
  unfold kidL
  rw [List.length_map]
  have := List.length_filter_le (kidP gs g) (List.range k)
  simpa using this
theorem kidL_mem {gs : List Grp} {g : Int} {k : Nat} {x : Int} (h : x ∈ kidL gs g k) : 0 ≤ x ∧ x < (k : Int) ∧ (gi gs x).used = true := by
  unfold kidL at h
  obtain ⟨i, hi, rfl⟩ := List.mem_map.1 h
  obtain ⟨h1, h2⟩ := List.mem_filter.1 hi
  have h1 := List.mem_range.1 h1
  unfold kidP at h2
  simp only [Bool.and_eq_true] at h2
  exact ⟨by omega, by omega, h2.1⟩
noncomputable def kidsD (gs : List Grp) (g : Int) : List Int := if (treeB gs && usedD gs g) = true then kidL gs g 8 else []
theorem kidL_one {gs : List Grp} (ht : TreeP gs) {g : Int} (h : 0 ≤ g) : kidL gs g 1 = [] := by
  have : kidP gs g 0 = false := by
    unfold kidP
    have e : ((0 : Nat) : Int) = 0 := rfl
    rw [e, ht.rp]
    have : ((-1 : Int) == g) = false := by simpa using (show ¬ (-1 : Int) = g by omega)
    rw [this, Bool.and_false]
  rw [kidL_skip this]
  rfl

/-! ### The reference -/
section
variable {gs : List Grp} {ms : Nat → MG} {o : Option Addr} {c : Nat} {w : World}
theorem k_spec_l6Path (ht : TreeP gs) : ∀ (n : Nat) (w : World) (g : Int), RdG [] w o gs ms → usedD gs g = true → dep 3 gs g ≤ n → Calls Tryz.prog fn_spec_l6Path #[.slice o gs.length c, .int .i64 g] w fun e w' => e = .returned (.string (pathN 3 gs g)) ∧ ExtX [] w w'
  | n, w, g, h, hu, hd => by
    refine (e_spec_l6Path o gs.length c g (R := fun v w' => v = .string (pathN 3 gs g) ∧ ExtX [] w w') ?_).mono fun e w' ⟨v, he, hv, h1⟩ => ⟨by rw [he, hv], h1⟩
    obtain ⟨a, b, u⟩ := usedD_iff.1 hu
    refine ⟨fun hz wr hx => ?_, fun hz => ?_⟩
    · have hz : g = 0 := by simpa using hz
      subst hz
      rw [pathN_root]; exact ⟨rfl, hx⟩
    · have hz : g ≠ 0 := by simpa using hz
      obtain ⟨hp, _, _, d, e, e2, _⟩ := climb ht hu hz
      refine ⟨h.ix a b, _, h.parent a b, h.ix a b, _, h.name a b, fun wr hx _ => ?_⟩
      cases n with
      | zero => omega
      | succ n =>
        refine (k_spec_l6Path ht n wr (gi gs g).parent (h.ext hx) hp (by omega)).mono fun e w1 ⟨he, hx1⟩ => ⟨_, he, kept_nil, ((h.ext hx).ext hx1).name a b, ?_, ?_, fun wr2 hx2 => ?_⟩
        · have := pathN_le ht 3 _ hp
          rw [size_one]; omega
        · have := pathN_le ht 3 _ hp
          have := name_le ht hu
          rw [ByteArray.size_append, size_one]; omega
        · exact ⟨by rw [pathN_step ht hu hz], (hx.trans hx1).trans hx2⟩
theorem k_spec_TreePath {g : Int} (h : RdG [] w o gs ms) (hl : gs.length ≤ maxLen) : Calls Tryz.prog fn_spec_TreePath #[.slice o gs.length c, .int .i64 g] w fun e w' => e = .returned (.string (if (treeB gs && usedD gs g) = true then wayD gs g else ⟨[].toArray⟩)) ∧ ExtX [] w w' := by
  refine (e_spec_TreePath o gs.length c g (R := fun v w' => v = .string (if (treeB gs && usedD gs g) = true then wayD gs g else ⟨[].toArray⟩) ∧ ExtX [] w w') ?_).mono fun e w' ⟨v, he, hv, h1⟩ => ⟨by rw [he, hv], h1⟩
  refine ⟨_, k_spec_TreeOk h hl, _, fun _ => k_spec_l6Used h, fun q wr hx => ?_, fun q => ?_⟩
  · have : (treeB gs && usedD gs g) = false := by cases h1 : treeB gs <;> cases h2 : usedD gs g <;> simp_all
    rw [this]; exact ⟨rfl, hx⟩
  · simp only [Bool.or_eq_false_iff, Bool.not_eq_false'] at q
    have ht := treeB_iff.1 q.1
    rw [q.1, q.2]
    refine ⟨fun hz wr hx => ?_, fun hz wr hx _ => ?_⟩
    · have hz : g = 0 := by simpa using hz
      subst hz
      exact ⟨rfl, hx⟩
    · have hz : g ≠ 0 := by simpa using hz
      have hd := dep_range gs 3 g
      refine (k_spec_l6Path ht 3 wr g (h.ext hx) q.2 (by omega)).mono fun e w1 ⟨he, hx1⟩ => ⟨_, he, kept_nil, fun wr2 hx2 => ⟨?_, (hx.trans hx1).trans hx2⟩⟩
      unfold wayD
      rw [if_neg hz]; rfl
theorem k_spec_TreeFind {p : ByteArray} (h : RdG [] w o gs ms) (hl : gs.length ≤ maxLen) : Calls Tryz.prog fn_spec_TreeFind #[.slice o gs.length c, .string p] w fun e w' => e = .returned (.int .i64 (findD gs p)) ∧ ExtX [] w w' := by
  refine (e_spec_TreeFind o gs.length c p (R := fun v w' => v = .int .i64 (findD gs p) ∧ ExtX [] w w') ?_).mono fun e w' ⟨v, he, hv, h1⟩ => ⟨by rw [he, hv], h1⟩
  refine ⟨_, k_spec_TreeOk h hl, fun q wr hx => ?_, fun q => ?_⟩
  · have q : treeB gs = false := by simpa using q
    unfold findD; rw [q]; exact ⟨rfl, hx⟩
  · have q : treeB gs = true := by simpa using q
    have ht := treeB_iff.1 q
    have hl8 := ht.len
    refine loop1w 8 0 rfl (fun k w1 => k ≤ 8 ∧ ExtX [] w w1 ∧ findN (8 - k) gs p (k : Int) = findD gs p) (fun w1 hx1 _ => ⟨Nat.zero_le _, hx1, by unfold findD; rw [if_pos q]; rfl⟩) fun k w1 _ ⟨hk, hX, hF⟩ => ⟨fun hlt => ?_, fun hge wr hx => ?_⟩
    · have hlt := of_decide_eq_true hlt
      have hk8 : k < 8 := by omega
      have hr := h.ext hX
      have hF' : findN (8 - k) gs p (k : Int) = if ((gi gs (k : Int)).used && strEq (wayD gs (k : Int)) p) = true then (k : Int) else findN (8 - (k + 1)) gs p ((k : Int) + 1) := by
        rw [show 8 - k = (8 - (k + 1)) + 1 by omega]; rfl
      have nxt : ∀ w2, ExtX [] w1 w2 → ((gi gs (k : Int)).used && strEq (wayD gs (k : Int)) p) = false → ∀ wr4, ExtX [] w2 wr4 → k + 1 ≤ 8 ∧ ExtX [] w wr4 ∧ findN (8 - (k + 1)) gs p ((k + 1 : Nat) : Int) = findD gs p := fun w2 hx2 hn wr4 hx4 => ⟨by omega, (hX.trans hx2).trans hx4, by
        rw [hn] at hF'
        rw [← hF, hF']; rfl⟩
      refine ⟨hr.ix (by omega) hlt, _, hr.used (by omega) hlt, fun hu wr hx _ => ?_, fun hu => ⟨fun g => (by cases g), fun _ => ⟨⟨by omega, by omega⟩, fun wr hx _ => loop1w_next hk8 (nxt w1 (ExtX.refl _ _) (by cases hq : (gi gs (k : Int)).used <;> simp_all) wr hx)⟩⟩⟩
      have hU : usedD gs (k : Int) = true := usedD_iff.2 ⟨by omega, hlt, hu⟩
      refine (k_spec_TreePath (g := (k : Int)) (hr.ext hx) hl).mono fun e w2 ⟨he, hx2⟩ => ⟨_, he, kept_nil, ?_⟩
      rw [q, hU, show (if (true && true) = true then wayD gs (k : Int) else ⟨[].toArray⟩) = wayD gs (k : Int) from if_pos rfl]
      refine ⟨fun g wr3 hx3 => ⟨?_, ((hX.trans hx).trans hx2).trans hx3⟩, fun g => ⟨⟨by omega, by omega⟩, fun wr4 hx4 _ => loop1w_next hk8 (nxt w2 (hx.trans hx2) g wr4 hx4)⟩⟩
      rw [← hF, hF', if_pos g]
    · have hge := of_decide_eq_false hge
      have hk8 : k = 8 := by omega
      subst hk8
      rw [← hF]; exact ⟨rfl, hX.trans hx⟩
theorem k_spec_TreeKids {g : Int} (h : RdG [] w o gs ms) (hl : gs.length ≤ maxLen) : Calls Tryz.prog fn_spec_TreeKids #[.slice o gs.length c, .int .i64 g] w fun e w' => ∃ o' c', e = .returned (.slice o' (kidsD gs g).length c') ∧ Own encI 1 ty_int w.heap.size w' o' c' (kidsD gs g) ∧ ExtX [] w w' := by
  refine (e_spec_TreeKids o gs.length c g (R := fun v w' => ∃ o' c', v = .slice o' (kidsD gs g).length c' ∧ Own encI 1 ty_int w.heap.size w' o' c' (kidsD gs g) ∧ ExtX [] w w') ?_).mono fun e w' ⟨v, he, o', c', hv, h1⟩ => ⟨o', c', by rw [he, hv], h1⟩
  refine ⟨_, k_spec_TreeOk h hl, _, fun _ => k_spec_l6Used h, fun q wr hx => ?_, fun q => ?_⟩
  · have : kidsD gs g = [] := if_neg (by cases h1 : treeB gs <;> cases h2 : usedD gs g <;> simp_all)
    rw [this]; exact ⟨none, 0, rfl, .inl ⟨rfl, rfl, rfl⟩, hx⟩
  · simp only [Bool.or_eq_false_iff, Bool.not_eq_false'] at q
    have ht := treeB_iff.1 q.1
    have hl8 := ht.len
    obtain ⟨g0, g1, _⟩ := usedD_iff.1 q.2
    have hD : kidsD gs g = kidL gs g 8 := if_pos (by rw [q.1, q.2]; rfl)
    rw [hD]
    refine ⟨fun vs w1 => ∃ (k : Nat) (o1 : Option Addr) (c1 : Nat), vs = [.slice o1 (kidL gs g k).length c1, .int .i64 (k : Int)] ∧ 1 ≤ k ∧ k ≤ 8 ∧ ExtX [] w w1 ∧ Own encI 1 ty_int w.heap.size w1 o1 c1 (kidL gs g k), cntMw 8 1, fun wr hx _ => ⟨1, none, 0, by rw [kidL_one ht g0]; rfl, by omega, by omega, hx, by rw [kidL_one ht g0]; exact .inl ⟨rfl, rfl, rfl⟩⟩, ?_⟩
    rintro o1 L1 C1 x w1 hs1 ⟨k, o1', c1', he, hk1, hk, hX, hO⟩
    simp only [List.cons.injEq, Value.int.injEq, Value.slice.injEq, true_and, and_true] at he
    obtain ⟨⟨rfl, rfl, rfl⟩, rfl⟩ := he
    have hr := h.ext hX
    refine ⟨fun hlt => ?_, fun hge wr hx => ?_⟩
    · have hlt := of_decide_eq_true hlt
      have hk8 : k < 8 := by omega
      refine ⟨hr.ix (by omega) hlt, _, hr.used (by omega) hlt, fun _ => hr.ix (by omega) hlt, _, fun _ => hr.parent (by omega) hlt, fun q2 b hb wr2 hx2 hs2 hcell => ?_, fun q2 => ⟨⟨by omega, by omega⟩, fun wr4 hx4 _ => ⟨⟨k + 1, o1, C1, by rw [kidL_skip q2]; simp, by omega, by omega, hX.trans hx4, by rw [kidL_skip q2]; exact hO.ext0 hx4⟩, cntM_ltW (k := k) rfl rfl hk8⟩⟩⟩
      have hob : Ob encI 1 ty_int w.heap.size [b] wr2 o1 C1 (kidL gs g k) := ⟨hO.ext0 hx2, fun y hy hm => by
        have := (hO.lt y hy).2
        have : y = b := by simpa using hm
        omega⟩
      have hle := kidL_le gs g k
      obtain ⟨o2, c2, w2, hrun, hk2, hO3, hx3⟩ := hob.app1 elt_Int u_sl_int (x := (k : Int)) hs2 (hX.trans hx2).size hcell rfl (by omega) (by decide) ty_sl_int #[false, false]
      rw [← kidL_step q2] at hrun hO3
      exact ⟨_, _, _, w2, hrun, hk2, ⟨by omega, by omega⟩, fun wr3 hx4 _ => ⟨⟨k + 1, o2, c2, by simp, by omega, by omega, ((hX.trans hx2).fresh hx3 fun x hm => .inl (hO.lt x hm).1).fresh hx4 fun x hm => .inl (by
        have : x = b := by simpa using hm
        have := hX.size
        omega), (hO3.step hx4).own⟩, cntM_ltW (k := k) rfl rfl hk8⟩⟩
    · have hge := of_decide_eq_false hge
      have : k = 8 := by omega
      subst this
      exact ⟨o1, C1, rfl, hO.ext0 hx, hX.trans hx⟩

/-! ### The program -/
theorem k_node_path {gs : List Grp} {nb : Int → Nat} {w : World} {bs : List Nat} (ht : TreeP gs) (h : Ns bs w gs nb) {x : Int} (hu : usedD gs x = true) : PureX bs Tryz.prog fn_impl_node_path #[.pointer (some ⟨nb x, 0, none⟩)] w (.string (wayD gs x)) :=
  p_impl_node_path (some ⟨nb x, 0, none⟩) fun wr hx => by
    have h := (h.ext hx).less (cs := []) (by simp)
    refine ⟨rfl, x, (h.node x hu).get 0 _ rfl, fun hz => ?_, fun hz => ?_⟩
    · have hz : x = 0 := by simpa using hz
      unfold wayD; rw [if_pos hz]
    · have hz : x ≠ 0 := by simpa using hz
      have hle := pathN_le ht 3 x hu
      have hpd : wayD gs x = pathN 3 gs x := if_neg hz
      rw [hpd]
      refine ⟨fun vs => ∃ (y : Int) (s : ByteArray), usedD gs y = true ∧ vs = [.pointer (some ⟨nb y, 0, none⟩), .string s] ∧ pathN 3 gs y ++ s = pathN 3 gs x, fun vs => (dep 3 gs (match vs with | [.pointer (some a), _] => (match wr.cell? a with | some (.int _ z) => z | _ => 0) | _ => 0)).toNat, ⟨x, _, hu, rfl, by apply ByteArray.ext; simp⟩, ?_⟩
      rintro n1 s ⟨y, s', hy, he, hI⟩
      simp only [List.cons.injEq, Value.string.injEq, Value.pointer.injEq, and_true] at he
      obtain ⟨rfl, rfl⟩ := he
      have hn := h.node y hy
      have hcell : ∀ z : Int, usedD gs z = true → wr.cell? ⟨nb z, 0, none⟩ = some (.int .i64 z) := fun z hz => by
        obtain ⟨a, ha, _, hc⟩ := (h.node z hz).get 0 _ rfl
        cases ha
        simpa [Addr.add] using hc
      refine ⟨rfl, y, hn.get 0 _ rfl, fun hz => ?_, fun hz => ?_⟩
      · have hz : y ≠ 0 := by simpa using hz
        obtain ⟨hp, a, b, d, e, e2, hd⟩ := climb ht hy hz
        have hm : upOf gs nb y = some ⟨nb (gi gs y).parent, 0, none⟩ := by unfold upOf; rw [if_neg hz]
        have hsz : (pathN 3 gs y).size + s.size = (pathN 3 gs x).size := by rw [← hI, ByteArray.size_append]
        have hps := pathN_step ht hy hz
        have h8 := name_le ht hy
        refine ⟨rfl, _, hn.get 1 _ rfl, ?_, ?_, rfl, _, hn.get 2 _ rfl, ⟨(gi gs y).parent, _, hp, by rw [hm], ?_⟩, ?_⟩
        · rw [size_one]; omega
        · rw [ByteArray.size_append, size_one]; omega
        · rw [← hI, hps, ByteArray.append_assoc, ByteArray.append_assoc, ByteArray.append_assoc]
        · rw [hm]
          simp only [hcell _ hp, hcell _ hy]
          omega
      · have hz : y = 0 := by simpa using hz
        subst hz
        rw [pathN_root] at hI
        rw [← hI]
        congr 1
theorem k_impl_TreeFind {bs : List Nat} {p : ByteArray} (h : RdG bs w o gs ms) (hl : gs.length ≤ maxLen) : PureX bs Tryz.prog fn_impl_TreeFind #[.slice o gs.length c, .string p] w (.int .i64 (findD gs p)) := by
  refine pureX_of fun wr hx => e_impl_TreeFind o gs.length c p (R := fun v w' => v = .int .i64 (findD gs p) ∧ ExtX [] wr w') ?_
  have h := (h.ext hx).less (cs := []) (by simp)
  intro w1 hx1 _
  refine (k_nodes (h.ext hx1) hl).mono fun e w2 ⟨o', L, C, ok, he, hok, hx2, hno, hyes⟩ => ⟨_, _, _, _, he, kept_nil, ?_⟩
  have hX2 := hx1.trans hx2
  cases hq : treeB gs with
  | false =>
    have hL := hno (hok.trans hq)
    subst hL
    have hF : findD gs p = -1 := by unfold findD; rw [hq]; rfl
    rw [hF]
    refine loop1w 0 0 rfl (fun k w3 => k = 0 ∧ ExtX [] wr w3) (fun w3 hx3 _ => ⟨rfl, hX2.trans hx3⟩) fun k w3 _ ⟨hk, hX⟩ => ⟨fun hlt => ?_, fun _ w4 hx4 => ⟨rfl, hX.trans hx4⟩⟩
    have hlt := of_decide_eq_true hlt
    subst hk
    exact absurd hlt (by decide)
  | true =>
    obtain ⟨hL, pl, nb, hpl, hR, hP, hN⟩ := hyes (hok.trans hq)
    subst hL
    have ht := treeB_iff.1 hq
    have hl8 := ht.len
    refine loop1w 8 0 rfl (fun k w3 => k ≤ 8 ∧ ExtX [] w2 w3 ∧ findN (8 - k) gs p (k : Int) = findD gs p) (fun w3 hx3 _ => ⟨Nat.zero_le _, hx3, by unfold findD; rw [if_pos hq]; rfl⟩) fun k w3 _ ⟨hk, hX, hF⟩ => ⟨fun hlt => ?_, fun hge w4 hx4 => ?_⟩
    · have hlt := of_decide_eq_true hlt
      have hk8 : k < 8 := by omega
      have hF' : findN (8 - k) gs p (k : Int) = if ((gi gs (k : Int)).used && strEq (wayD gs (k : Int)) p) = true then (k : Int) else findN (8 - (k + 1)) gs p ((k : Int) + 1) := by
        rw [show 8 - k = (8 - (k + 1)) + 1 by omega]; rfl
      have hc := (hR.ext hX) (k : Int) (by omega) (by omega)
      refine ⟨by have := (hR.ext hX).ix encQ_c (i := (k : Int)) (by omega) (by omega); rwa [hpl] at this, _, hc, wayD gs (k : Int), fun hs => ?_, ?_⟩
      · rw [hP (k : Int) (by omega) (by omega)] at hs ⊢
        split at hs
        · rename_i hu
          rw [if_pos hu]
          exact k_node_path ht (hN.ext hX) (usedD_iff.2 ⟨by omega, by omega, hu⟩)
        · simp at hs
      · have e : (!(gi pl (k : Int)).isNone) = (gi gs (k : Int)).used := by
          rw [hP (k : Int) (by omega) (by omega)]
          cases hu : (gi gs (k : Int)).used <;> simp
        rw [e]
        refine ⟨fun g w4 hx4 => ⟨by rw [← hF, hF', if_pos g], (hX2.trans hX).trans hx4⟩, fun g => ⟨⟨by omega, by omega⟩, fun w4 hx4 _ => loop1w_next hk8 ⟨by omega, hX.trans hx4, by rw [← hF, hF', if_neg (by rw [g]; decide)]; rfl⟩⟩⟩
    · have hge := of_decide_eq_false hge
      have hk8 : k = 8 := by omega
      subst hk8
      rw [← hF]; exact ⟨rfl, (hX2.trans hX).trans hx4⟩
theorem k_impl_TreeKids {g : Int} (h : RdG [] w o gs ms) (hl : gs.length ≤ maxLen) : Calls Tryz.prog fn_impl_TreeKids #[.slice o gs.length c, .int .i64 g] w fun e w' => ∃ o' c', e = .returned (.slice o' (kidsD gs g).length c') ∧ Own encI 1 ty_int w.heap.size w' o' c' (kidsD gs g) ∧ ExtX [] w w' := by
  refine (e_impl_TreeKids o gs.length c g (R := fun v w' => ∃ o' c', v = .slice o' (kidsD gs g).length c' ∧ Own encI 1 ty_int w.heap.size w' o' c' (kidsD gs g) ∧ ExtX [] w w') ?_).mono fun e w' ⟨v, he, o', c', hv, h1⟩ => ⟨o', c', by rw [he, hv], h1⟩
  refine ⟨_, k_impl_TreeOk h hl, _, fun _ => k_impl_groupUsed h hl, fun q wr hx => ?_, fun q => ?_⟩
  · have : kidsD gs g = [] := if_neg (by cases h1 : treeB gs <;> cases h2 : usedD gs g <;> simp_all)
    rw [this]; exact ⟨none, 0, rfl, .inl ⟨rfl, rfl, rfl⟩, hx⟩
  · simp only [Bool.or_eq_false_iff, Bool.not_eq_false'] at q
    have ht := treeB_iff.1 q.1
    have hl8 := ht.len
    obtain ⟨g0, g1, _⟩ := usedD_iff.1 q.2
    have hD : kidsD gs g = kidL gs g 8 := if_pos (by rw [q.1, q.2]; rfl)
    rw [hD]
    refine ⟨fun vs w1 => ∃ (k : Nat) (o1 : Option Addr) (c1 : Nat), vs = [.slice o1 (kidL gs g k).length c1, .int .i64 (k : Int)] ∧ k ≤ 8 ∧ ExtX [] w w1 ∧ Own encI 1 ty_int w.heap.size w1 o1 c1 (kidL gs g k), cntMw 8 1, fun wr hx _ => ⟨0, none, 0, rfl, by omega, hx, .inl ⟨rfl, rfl, rfl⟩⟩, ?_⟩
    rintro o1 L1 C1 x w1 hs1 ⟨k, o1', c1', he, hk, hX, hO⟩
    simp only [List.cons.injEq, Value.int.injEq, Value.slice.injEq, true_and, and_true] at he
    obtain ⟨⟨rfl, rfl, rfl⟩, rfl⟩ := he
    have hr := h.ext hX
    refine ⟨fun hlt => ?_, fun hge wr hx => ?_⟩
    · have hlt := of_decide_eq_true hlt
      have hk8 : k < 8 := by omega
      refine ⟨hr.ix (by omega) hlt, _, hr.used (by omega) hlt, fun _ => hr.ix (by omega) hlt, _, fun _ => hr.parent (by omega) hlt, fun q2 b hb wr2 hx2 hs2 hcell => ?_, fun q2 => ⟨⟨by omega, by omega⟩, fun wr4 hx4 _ => ⟨⟨k + 1, o1, C1, by rw [kidL_skip q2]; simp, by omega, hX.trans hx4, by rw [kidL_skip q2]; exact hO.ext0 hx4⟩, cntM_ltW (k := k) rfl rfl hk8⟩⟩⟩
      have hob : Ob encI 1 ty_int w.heap.size [b] wr2 o1 C1 (kidL gs g k) := ⟨hO.ext0 hx2, fun y hy hm => by
        have := (hO.lt y hy).2
        have : y = b := by simpa using hm
        omega⟩
      have hle := kidL_le gs g k
      obtain ⟨o2, c2, w2, hrun, hk2, hO3, hx3⟩ := hob.app1 elt_Int u_sl_int (x := (k : Int)) hs2 (hX.trans hx2).size hcell rfl (by omega) (by decide) ty_sl_int #[false, false]
      rw [← kidL_step q2] at hrun hO3
      exact ⟨_, _, _, w2, hrun, hk2, ⟨by omega, by omega⟩, fun wr3 hx4 _ => ⟨⟨k + 1, o2, c2, by simp, by omega, ((hX.trans hx2).fresh hx3 fun x hm => .inl (hO.lt x hm).1).fresh hx4 fun x hm => .inl (by
        have : x = b := by simpa using hm
        have := hX.size
        omega), (hO3.step hx4).own⟩, cntM_ltW (k := k) rfl rfl hk8⟩⟩
    · have hge := of_decide_eq_false hge
      have : k = 8 := by omega
      subst this
      exact ⟨o1, C1, rfl, hO.ext0 hx, hX.trans hx⟩
end
end Go.Proofs.YthojnihahmlboaaGreat
