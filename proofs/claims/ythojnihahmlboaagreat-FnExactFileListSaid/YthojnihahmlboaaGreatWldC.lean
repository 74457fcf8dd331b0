/- Worlds: what waits on a processor, its load; groups' parts. -/
import Derived.Test.YthojnihahmlboaaGreatWldJ
import Derived.Test.YthojnihahmlboaaGreatWldM
import Derived.Test.YthojnihahmlboaaGreatScn
namespace Go.Proofs.YthojnihahmlboaaGreat
open Go.RowKit
set_option linter.unusedVariables false
set_option linter.unusedSimpArgs false
set_option maxRecDepth 10000

/-- append of one, in a walk. -/
theorem Ob.app1 {α : Type} [Inhabited α] {P : Program} {enc : α → List Value} {z : Nat} {ty t : TypeId} {bytes : Nat} {zero : α} (E : Elt P enc z ty bytes zero) (ht : P.underlying t = some (.slice ty)) {base : Nat} {bs : List Nat} {w : World} {o : Option Addr} {cap : Nat} {l : List α} (hO : Ob enc z ty base bs w o cap l)
    (hs : ∀ x ∈ bs, x < w.heap.size) (hbase : base ≤ w.heap.size) {x : α} {b : Nat} {t' : TypeId} {fz : Nat × Nat} (hb : w.heap[b]? = some (.cells (enc x).toArray t' fz)) (h1 : oneCells (enc x) = true) (hl : l.length ≤ 1048576) (hby : bytes ≤ 1000) (tr : TypeId) (cs : Array Bool) :
    ∃ o' cap' w', (builtin .append #[t, t] tr cs #[.slice o l.length cap, .slice (some ⟨b, 0, none⟩) 1 1]).run P w = .ok (.value (.slice o' (l ++ [x]).length cap')) w' ∧ Kept bs w w' ∧ Ob enc z ty base bs w' o' cap' (l ++ [x]) ∧ ExtX (blkOf o) w w' := by
  have hbb : (2 * (l.length + 1)) * bytes ≤ 281474976710656 := Nat.le_trans (Nat.mul_le_mul (show 2 * (l.length + 1) ≤ 2097154 by omega) hby) (by decide)
  obtain ⟨o2, c2, w2, hrun, hO2, hx2, ho2⟩ := run_app1 E ht hO.own hb h1 hbb (by omega) tr cs hbase
  refine ⟨o2, c2, w2, hrun, fun y hm => hx2.block y (hs y hm) fun hm' => hO.nb y hm' hm, ⟨hO2, fun y hy hm => ?_⟩, hx2⟩
  rcases ho2 with rfl | rfl
  · exact hO.nb y hy hm
  · have : y = w.heap.size := by simpa [blkOf] using hy
    have := hs y hm
    omega
def sumF (f : Nat → Int) : Nat → Int
  | 0 => 0
  | k + 1 => sumF f k + f k
theorem sumF_range {f : Nat → Int} {B : Int} (h : ∀ j, 0 ≤ f j ∧ f j ≤ B) : ∀ k : Nat, 0 ≤ sumF f k ∧ sumF f k ≤ (k : Int) * B
  | 0 => by simp [sumF]
  | k + 1 => by
    have ih := sumF_range h k
    have := h k
    simp only [sumF]
    rw [show ((k + 1 : Nat) : Int) * B = (k : Int) * B + B by rw [show ((k + 1 : Nat) : Int) = (k : Int) + 1 by omega, Int.add_mul, Int.one_mul]]
    omega
theorem sumI_app (l : List Int) (x : Int) : sumI (l ++ [x]) (l ++ [x]).length = sumI l l.length + x := by
  have key : ∀ k : Nat, k ≤ l.length → sumI (l ++ [x]) k = sumI l k := fun k => by
    induction k with
    | zero => intro _; rfl
    | succ k ih =>
      intro hk
      simp only [sumI]
      rw [ih (by omega), gi_lt (by simp; omega), gi_lt (by omega), List.getElem_append_left]
  rw [List.length_append]
  show sumI (l ++ [x]) (l.length + 1) = _
  simp only [sumI]
  rw [key _ (Nat.le_refl _), gi_lt (by simp)]
  simp
theorem weightOf_range (n : Int) : 0 ≤ weightOf n ∧ weightOf n ≤ 20 := by
  unfold weightOf
  split
  · rename_i h
    have := inB_t.1 h
    omega
  · omega
def waitF (W : Wld) (c : Int) (j : Nat) : Int := if ((((tkk W (j : Int)).cpu == c) && lineD W (j : Int)) && ((gi W.cpus c).cur != (j : Int))) = true then 1 else 0
def loadF (W : Wld) (c : Int) (j : Nat) : Int := if (((tkk W (j : Int)).cpu == c) && lineD W (j : Int)) = true then weightOf (tkk W (j : Int)).nice else 0
def insF (W : Wld) (g c : Int) (j : Nat) : Int := if ((((tkk W (j : Int)).state == 1) && ((tkk W (j : Int)).cpu == c)) && insD 3 W.groups g (tkk W (j : Int)).group) = true then weightOf (tkk W (j : Int)).nice else 0
theorem waitF_t {W : Wld} {c : Int} {k : Nat} (h : ((((tkk W (k : Int)).cpu == c) && lineD W (k : Int)) && ((gi W.cpus c).cur != (k : Int))) = true) : waitF W c k = 1 := if_pos h
theorem waitF_f {W : Wld} {c : Int} {k : Nat} (h : ((((tkk W (k : Int)).cpu == c) && lineD W (k : Int)) && ((gi W.cpus c).cur != (k : Int))) = false) : waitF W c k = 0 := if_neg (by rw [h]; decide)
theorem loadF_t {W : Wld} {c : Int} {k : Nat} (h : (((tkk W (k : Int)).cpu == c) && lineD W (k : Int)) = true) : loadF W c k = weightOf (tkk W (k : Int)).nice := if_pos h
theorem loadF_f {W : Wld} {c : Int} {k : Nat} (h : (((tkk W (k : Int)).cpu == c) && lineD W (k : Int)) = false) : loadF W c k = 0 := if_neg (by rw [h]; decide)
theorem insF_t {W : Wld} {g c : Int} {k : Nat} (h : ((((tkk W (k : Int)).state == 1) && ((tkk W (k : Int)).cpu == c)) && insD 3 W.groups g (tkk W (k : Int)).group) = true) : insF W g c k = weightOf (tkk W (k : Int)).nice := if_pos h
theorem insF_f {W : Wld} {g c : Int} {k : Nat} (h : ((((tkk W (k : Int)).state == 1) && ((tkk W (k : Int)).cpu == c)) && insD 3 W.groups g (tkk W (k : Int)).group) = false) : insF W g c k = 0 := if_neg (by rw [h]; decide)
def waitS (W : Wld) (c : Int) : Int := sumF (waitF W c) W.tasks.length
def loadS (W : Wld) (c : Int) : Int := sumF (loadF W c) W.tasks.length
def insS (W : Wld) (g c : Int) : Int := sumF (insF W g c) W.tasks.length
theorem waitF_range (W : Wld) (c : Int) (j : Nat) : 0 ≤ waitF W c j ∧ waitF W c j ≤ 1 := by unfold waitF; split <;> omega
theorem loadF_range (W : Wld) (c : Int) (j : Nat) : 0 ≤ loadF W c j ∧ loadF W c j ≤ 20 := by
  unfold loadF
  split
  · exact weightOf_range _
  · omega
theorem insF_range (W : Wld) (g c : Int) (j : Nat) : 0 ≤ insF W g c j ∧ insF W g c j ≤ 20 := by
  unfold insF
  split
  · exact weightOf_range _
  · omega
def cpuIn (W : Wld) (c : Int) : Bool := inB c 0 ((W.cpus.length : Int) - 1)
theorem cpuIn_t {W : Wld} {c : Int} (h : cpuIn W c = true) : 0 ≤ c ∧ c < (W.cpus.length : Int) := by have := inB_t.1 h; omega
noncomputable def waitD (W : Wld) (c : Int) : Int := if worldB W = true ∧ cpuIn W c = true then waitS W c else 0
noncomputable def loadD (W : Wld) (c : Int) : Int := if worldB W = true ∧ cpuIn W c = true then loadS W c else 0
noncomputable def insideD (W : Wld) (g c : Int) : Int := if worldB W = true ∧ usedD W.groups g = true ∧ cpuIn W c = true then insS W g c else 0
theorem WldP.li {W : Wld} (wp : WldP W) {t : Int} (t0 : 0 ≤ t) (t1 : t < (W.tasks.length : Int)) (hs : (tkk W t).state = 1) : usedD W.groups (tkk W t).group = true ∧ 0 ≤ (tkk W t).cpu ∧ (tkk W t).cpu < (W.cpus.length : Int) := by
  have := wp.a.t
  exact line_use wp.a (wp.t t t0 (by omega)) hs
/-- What a law over a world holds of it: its lengths. -/
structure LenW (W : Wld) : Prop where
  c : W.cpus.length ≤ maxLen
  t : W.tasks.length ≤ maxLen
  g : W.groups.length ≤ maxLen
  f : ∀ i : Int, 0 ≤ i → i < (W.groups.length : Int) → FitG (gi W.groups i)
section
variable {W : Wld} {m : MW} {w : World} {bs : List Nat} {p : Option Addr}
theorem k_spec_CpuWaiting {c : Int} (h : RdW bs w W m) (hl : LenW W) : PureX bs Tryz.prog fn_spec_CpuWaiting #[.agg (encW W m).toArray, .int .i64 c] w (.int .i64 (waitD W c)) :=
  p_spec_CpuWaiting W.now m.cO W.cpus.length m.cC m.tO W.tasks.length m.tC m.gO W.groups.length m.gC c fun wr hx => by
    have h := (h.ext hx).less (cs := []) (by simp)
    have hm := maxLen_le
    have hlc := hl.c
    intro _ _
    refine ⟨_, k_spec_WorldOk h hl.c hl.t hl.g hl.f, fun _ => ⟨by omega, by omega⟩, _, fun _ => k_spec_l1In, fun g => ?_, fun g => ?_⟩
    · unfold waitD
      rw [if_neg]
      rintro ⟨h1, h2⟩
      have h2 : inB c 0 (((W.cpus.length : Nat) : Int) - 1) = true := h2
      rw [h1, h2] at g; cases g
    · simp only [Bool.or_eq_false_iff, Bool.not_eq_false'] at g
      have wp := decB_t.1 g.1
      obtain ⟨c0, c1⟩ := cpuIn_t (W := W) g.2
      have htl := wp.a.t
      have e : waitD W c = waitS W c := by unfold waitD; rw [if_pos ⟨g.1, g.2⟩]
      rw [e]
      refine loop2 W.tasks.length 0 rfl (fun x k => k ≤ W.tasks.length ∧ x = sumF (waitF W c) k) ⟨Nat.zero_le _, rfl⟩ fun x k ⟨hk, hx2⟩ => ⟨fun hlt => ?_, fun hge => ?_⟩
      · have hlt := of_decide_eq_true hlt
        have hr := sumF_range (waitF_range W c) k
        have eF : waitF W c k = if ((((tkk W (k : Int)).cpu == c) && lineD W (k : Int)) && ((gi W.cpus c).cur != (k : Int))) = true then 1 else 0 := rfl
        refine ⟨h.t.ix encT_c (by omega) hlt, _, h.t.f (by omega) hlt (j := 2) rfl, lineD W (k : Int), fun _ => k_spec_l8InLine h wp.a (by omega) hlt fun hs => wp.li (by omega) hlt hs, fun _ => h.c.ix encC_c c0 c1, (gi W.cpus c).cur, fun _ => h.c.f c0 c1 (j := 1) rfl, fun g2 => ⟨⟨by omega, by omega⟩, ⟨by omega, by omega⟩, loop2_next (by omega) ⟨by omega, ?_⟩⟩, fun g2 => ⟨⟨by omega, by omega⟩, loop2_next (by omega) ⟨by omega, ?_⟩⟩⟩
        · simp only [sumF]; rw [waitF_t (W := W) (c := c) (k := k) g2, hx2]
        · simp only [sumF]; rw [waitF_f (W := W) (c := c) (k := k) g2, hx2]; omega
      · have hge := of_decide_eq_false hge
        have : k = W.tasks.length := by omega
        subst this
        rw [hx2]; rfl
theorem k_spec_l12Load {c : Int} (h : RdW bs w W m) (wp : WldP W) : PureX bs Tryz.prog fn_spec_l12Load #[.agg (encW W m).toArray, .int .i64 c] w (.int .i64 (loadS W c)) :=
  p_spec_l12Load W.now m.cO W.cpus.length m.cC m.tO W.tasks.length m.tC m.gO W.groups.length m.gC c fun wr hx => by
    have h := (h.ext hx).less (cs := []) (by simp)
    have htl := wp.a.t
    intro _ _
    refine loop2 W.tasks.length 0 rfl (fun x k => k ≤ W.tasks.length ∧ x = sumF (loadF W c) k) ⟨Nat.zero_le _, rfl⟩ fun x k ⟨hk, hx2⟩ => ⟨fun hlt => ?_, fun hge => ?_⟩
    · have hlt := of_decide_eq_true hlt
      have hr := sumF_range (loadF_range W c) k
      have hw := weightOf_range (tkk W (k : Int)).nice
      have eF : loadF W c k = if (((tkk W (k : Int)).cpu == c) && lineD W (k : Int)) = true then weightOf (tkk W (k : Int)).nice else 0 := rfl
      refine ⟨h.t.ix encT_c (by omega) hlt, _, h.t.f (by omega) hlt (j := 0) rfl, fun _ => h.t.ix encT_c (by omega) hlt, _, fun _ => h.t.f (by omega) hlt (j := 2) rfl, lineD W (k : Int), fun _ => k_spec_l8InLine h wp.a (by omega) hlt fun hs => wp.li (by omega) hlt hs, fun g2 => ⟨h.t.ix encT_c (by omega) hlt, _, h.t.f (by omega) hlt (j := 3) rfl, weightOf (tkk W (k : Int)).nice, k_spec_WeightOf, ⟨by omega, by omega⟩, ⟨by omega, by omega⟩, loop2_next (by omega) ⟨by omega, ?_⟩⟩, fun g2 => ⟨⟨by omega, by omega⟩, loop2_next (by omega) ⟨by omega, ?_⟩⟩⟩
      · have g2 : ((((tkk W (k : Int)).state == 1) && ((tkk W (k : Int)).cpu == c)) && lineD W (k : Int)) = true := g2
        simp only [Bool.and_eq_true] at g2
        simp only [sumF]; rw [eF, if_pos (by rw [g2.1.2, g2.2]; rfl), hx2]
      · have g2 : ((((tkk W (k : Int)).state == 1) && ((tkk W (k : Int)).cpu == c)) && lineD W (k : Int)) = false := g2
        simp only [sumF]; rw [eF, if_neg (fun hc => by
          simp only [Bool.and_eq_true] at hc
          have hl := hc.2
          unfold lineD at hl
          simp only [Bool.and_eq_true] at hl
          rw [hc.1, hc.2, hl.1] at g2
          cases g2), hx2]; omega
    · have hge := of_decide_eq_false hge
      have : k = W.tasks.length := by omega
      subst this
      rw [hx2]; rfl
theorem k_spec_CpuLoad {c : Int} (h : RdW bs w W m) (hl : LenW W) : PureX bs Tryz.prog fn_spec_CpuLoad #[.agg (encW W m).toArray, .int .i64 c] w (.int .i64 (loadD W c)) :=
  p_spec_CpuLoad W.now m.cO W.cpus.length m.cC m.tO W.tasks.length m.tC m.gO W.groups.length m.gC c fun wr hx => by
    have h := (h.ext hx).less (cs := []) (by simp)
    have hm := maxLen_le
    have hlc := hl.c
    intro _ _
    refine ⟨_, k_spec_WorldOk h hl.c hl.t hl.g hl.f, fun _ => ⟨by omega, by omega⟩, _, fun _ => k_spec_l1In, fun g => ?_, fun g => ?_⟩
    · unfold loadD
      rw [if_neg]
      rintro ⟨h1, h2⟩
      have h2 : inB c 0 (((W.cpus.length : Nat) : Int) - 1) = true := h2
      rw [h1, h2] at g; cases g
    · simp only [Bool.or_eq_false_iff, Bool.not_eq_false'] at g
      have e : loadD W c = loadS W c := by unfold loadD; rw [if_pos ⟨g.1, g.2⟩]
      exact ⟨_, k_spec_l12Load h (decB_t.1 g.1), by rw [e]⟩
theorem k_spec_l12Inside {g c : Int} (h : RdW bs w W m) (wp : WldP W) (hl : LenW W) (hu : usedD W.groups g = true) : PureX bs Tryz.prog fn_spec_l12Inside #[.agg (encW W m).toArray, .int .i64 g, .int .i64 c] w (.int .i64 (insS W g c)) :=
  p_spec_l12Inside W.now m.cO W.cpus.length m.cC m.tO W.tasks.length m.tC m.gO W.groups.length m.gC g c fun wr hx => by
    have h := (h.ext hx).less (cs := []) (by simp)
    have htl := wp.a.t
    intro _ _
    refine loop2 W.tasks.length 0 rfl (fun x k => k ≤ W.tasks.length ∧ x = sumF (insF W g c) k) ⟨Nat.zero_le _, rfl⟩ fun x k ⟨hk, hx2⟩ => ⟨fun hlt => ?_, fun hge => ?_⟩
    · have hlt := of_decide_eq_true hlt
      have hr := sumF_range (insF_range W g c) k
      have hw := weightOf_range (tkk W (k : Int)).nice
      have hun : (((tkk W (k : Int)).state == 1) && ((tkk W (k : Int)).cpu == c)) = true → underB W.groups g (tkk W (k : Int)).group = insD 3 W.groups g (tkk W (k : Int)).group := fun q => by
        simp only [Bool.and_eq_true, beq_iff_eq] at q
        unfold underB
        rw [treeB_iff.2 wp.a.tree, hu, (wp.li (by omega) hlt q.1).1]; rfl
      have eF : insF W g c k = if ((((tkk W (k : Int)).state == 1) && ((tkk W (k : Int)).cpu == c)) && insD 3 W.groups g (tkk W (k : Int)).group) = true then weightOf (tkk W (k : Int)).nice else 0 := rfl
      have e2 : ((((tkk W (k : Int)).state == 1) && ((tkk W (k : Int)).cpu == c)) && insD 3 W.groups g (tkk W (k : Int)).group) = ((((tkk W (k : Int)).state == 1) && ((tkk W (k : Int)).cpu == c)) && underB W.groups g (tkk W (k : Int)).group) := by
        cases hq : (((tkk W (k : Int)).state == 1) && ((tkk W (k : Int)).cpu == c)) with
        | false => rfl
        | true => rw [hun hq]
      refine ⟨h.t.ix encT_c (by omega) hlt, _, _, _, _, _, _, _, _, _, h.t k (by omega) hlt, fun _ _ => ⟨underB W.groups g (tkk W (k : Int)).group, fun _ => k_spec_TreeUnder h.g hl.g, fun g2 => ⟨weightOf (tkk W (k : Int)).nice, k_spec_WeightOf, ⟨by omega, by omega⟩, ⟨by omega, by omega⟩, loop2_next (by omega) ⟨by omega, ?_⟩⟩, fun g2 => ⟨⟨by omega, by omega⟩, loop2_next (by omega) ⟨by omega, ?_⟩⟩⟩⟩
      · simp only [sumF]; rw [insF_t (W := W) (g := g) (c := c) (k := k) (e2.trans g2), hx2]
      · simp only [sumF]; rw [insF_f (W := W) (g := g) (c := c) (k := k) (e2.trans g2), hx2]; omega
    · have hge := of_decide_eq_false hge
      have : k = W.tasks.length := by omega
      subst this
      rw [hx2]; rfl
theorem k_spec_GroupInside {g c : Int} (h : RdW bs w W m) (hl : LenW W) : PureX bs Tryz.prog fn_spec_GroupInside #[.agg (encW W m).toArray, .int .i64 g, .int .i64 c] w (.int .i64 (insideD W g c)) :=
  p_spec_GroupInside W.now m.cO W.cpus.length m.cC m.tO W.tasks.length m.tC m.gO W.groups.length m.gC g c fun wr hx => by
    have h := (h.ext hx).less (cs := []) (by simp)
    have hm := maxLen_le
    have hlc := hl.c
    intro _ _
    refine ⟨_, k_spec_WorldOk h hl.c hl.t hl.g hl.f, _, fun _ => k_spec_l6Used (c := m.gC) h.g, fun _ => ⟨by omega, by omega⟩, _, fun _ => k_spec_l1In, fun q => ?_, fun q => ?_⟩
    · unfold insideD
      rw [if_neg]
      rintro ⟨h1, h2, h3⟩
      have h3 : inB c 0 (((W.cpus.length : Nat) : Int) - 1) = true := h3
      rw [h1, h2, h3] at q; cases q
    · simp only [Bool.or_eq_false_iff, Bool.not_eq_false'] at q
      have e : insideD W g c = insS W g c := by unfold insideD; rw [if_pos ⟨q.1.1, q.1.2, q.2⟩]
      exact ⟨_, k_spec_l12Inside h (decB_t.1 q.1.1) hl q.1.2, by rw [e]⟩

/-! ### The program's -/
theorem wpt_of {b : Nat} {wb w1 : World} {t : TypeId} (hcell : wb.heap[b]? = some (.cells (encW W m).toArray t (0, 0))) (h : RdW [] wb W m) (hx : ExtX [] wb w1) (hbs : ∀ x ∈ bs, wb.heap.size ≤ x) : WPt bs w1 (some ⟨b, 0, none⟩) W m := by
  have hbn : b ∉ bs := fun hm => by
    have := hbs b hm
    have := blk_lt hcell
    omega
  have hrd : RdW bs w1 W m := (h.wide (cs := bs) fun x hm => .inr (hbs x hm)).ext hx.of_nil
  exact ⟨cellsX_blk (blk_ext hcell hx (by simp)) hbn (k0 := 0) fun j v hj => by rw [Nat.zero_add, Nat.zero_add]; exact hj, hrd⟩
theorem WPt.sc {w0 w1 : World} (h : WPt [] w0 p W m) (s : Sc w0 bs w1) : WPt bs w1 p W m := (h.wide (cs := bs) fun x hm => .inr (s.new x hm)).ext s.ext.of_nil
theorem k_impl_total {l : List Int} {o : Option Addr} {c : Nat} (h : RdI bs w o l) (hl : l.length ≤ 1000) (hr : ∀ x ∈ l, 0 ≤ x ∧ x ≤ 1000000) : PureX bs Tryz.prog fn_impl_total #[.slice o l.length c] w (.int .i64 (sumI l l.length)) :=
  p_impl_total o l.length c fun wr hx => by
    have h := (h.ext hx).less (cs := []) (by simp)
    have hs := sumI_range (l := l) (q := 1000000) (fun i h0 h1 => hr _ (gi_mem h0 h1)) (by decide)
    refine loop2 l.length 0 rfl (fun x k => k ≤ l.length ∧ x = sumI l k) ⟨Nat.zero_le _, rfl⟩ fun x k ⟨hk, hx2⟩ => ⟨fun hlt => ?_, fun hge => ?_⟩
    · have hlt := of_decide_eq_true hlt
      have h1 := hs k hk
      have h2 := hr _ (gi_mem (l := l) (i := (k : Int)) (by omega) hlt)
      exact ⟨h.ix encI_c (by omega) hlt, _, h k (by omega) hlt, ⟨by omega, by omega⟩, ⟨by omega, by omega⟩, loop2_next (by omega) ⟨by omega, by simp only [sumI]; rw [hx2]⟩⟩
    · have hge := of_decide_eq_false hge
      have : k = l.length := by omega
      subst this
      rw [hx2]
theorem k_impl_weight {t : Int} (h : WPt bs w p W m) (t0 : 0 ≤ t) (t1 : t < (W.tasks.length : Int)) : PureX bs Tryz.prog fn_impl_World_weight #[.pointer p, .int .i64 t] w (.int .i64 (weightOf (tkk W t).nice)) :=
  p_impl_World_weight p t fun wr hx => by
    have h := (h.ext hx).less (cs := []) (by simp)
    exact ⟨h.some, _, _, _, h.tasks, h.rd.t.ix encT_c t0 t1, _, h.rd.t.f t0 t1 (j := 3) rfl, _, k_impl_WeightOf, rfl⟩
theorem k_impl_load {c : Int} (h : WPt bs w p W m) (wp : WldP W) (c0 : 0 ≤ c) (c1 : c < (W.cpus.length : Int)) : PureX bs Tryz.prog fn_impl_lane_load #[.agg #[.pointer p, .int .i64 c]] w (.int .i64 (loadS W c)) := by
  refine pureX_of fun wr0 hx0 => e_impl_lane_load p c (R := fun v w' => v = .int .i64 (loadS W c) ∧ ExtX [] wr0 w') ?_
  have h := (h.ext hx0).less (cs := []) (by simp)
  have htl := wp.a.t
  intro b hb
  refine ⟨h.some, _, _, _, h.tasks, ?_⟩
  refine ⟨fun vs w1 => ∃ (k : Nat) (ws : List Int) (o : Option Addr) (c' : Nat), vs = [.slice o ws.length c', .int .i64 (k : Int)] ∧ k ≤ W.tasks.length ∧ ws.length ≤ k ∧ (∀ x ∈ ws, 0 ≤ x ∧ x ≤ 20) ∧ sumI ws ws.length = sumF (loadF W c) k ∧ Sc wr0 [b] w1 ∧ Ob encI 1 ty_int wr0.heap.size [b] w1 o c' ws, cntMw W.tasks.length 1,
    fun wr hx _ => ⟨0, [], none, 0, rfl, Nat.zero_le _, Nat.le_refl _, by simp, rfl, ((Sc.start wr0).call0 hx |> fun s => ⟨s.ext, by simpa using hb⟩), ⟨.inl ⟨rfl, rfl, rfl⟩, by simp [blkOf]⟩⟩, ?_⟩
  rintro o1 L1 C1 x w1 hs1 ⟨k, ws, o', c', he, hk, hlen, hws, hsum, s1, hO⟩
  simp only [List.cons.injEq, Value.int.injEq, Value.slice.injEq, true_and, and_true] at he
  obtain ⟨⟨rfl, rfl, rfl⟩, rfl⟩ := he
  refine ⟨fun hlt => ?_, fun hge => ?_⟩
  · have hlt := of_decide_eq_true hlt
    have hp := h.sc s1
    have hw := weightOf_range (tkk W (k : Int)).nice
    have eF : loadF W c k = if (((tkk W (k : Int)).cpu == c) && lineD W (k : Int)) = true then weightOf (tkk W (k : Int)).nice else 0 := rfl
    refine ⟨_, k_impl_inLine hp wp.a (by omega) hlt c0 c1 fun hs => (wp.li (by omega) hlt hs).1, fun g => ⟨_, k_impl_weight hp (by omega) hlt, fun b1 hb1 wr1 hx1 hs2 hcell => ?_⟩, fun g => ⟨⟨by omega, by omega⟩, fun wr3 hx3 _ => ⟨⟨k + 1, ws, o1, C1, by simp, by omega, by omega, hws, ?_, s1.step hx3, hO.step hx3⟩, cntM_ltW (k := k) rfl rfl (by omega)⟩⟩⟩
    · have s2 := s1.put hx1 hb1
      have hO2 := hO.put hx1 hb1
      obtain ⟨o2, c2, w2, hrun, hk2, hO3, hx2⟩ := hO2.app1 elt_Int u_sl_int (x := weightOf (tkk W (k : Int)).nice) hs2 s2.ext.size hcell (oneI _) (by omega) (by decide) ty_sl_int #[false, false]
      have s3 := s2.call hx2 fun x hm => (hO2.own.lt x hm).1
      refine ⟨_, _, _, w2, hrun, hk2, ⟨by omega, by omega⟩, fun wr2 hx3 _ => ⟨⟨k + 1, ws ++ [weightOf (tkk W (k : Int)).nice], o2, c2, by simp, by omega, by simp; omega, fun x hm => ?_, ?_, (s3.step hx3).sub (by simp), (hO3.step hx3).sub (by simp)⟩, cntM_ltW (k := k) rfl rfl (by omega)⟩⟩
      · rcases List.mem_append.1 hm with hm | hm
        · exact hws x hm
        · have : x = weightOf (tkk W (k : Int)).nice := by simpa using hm
          rw [this]; exact hw
      · rw [sumI_app, hsum]
        simp only [sumF]; rw [eF, if_pos g]
    · simp only [sumF]; rw [eF, if_neg (by rw [g]; decide), hsum]; omega
  · have hge := of_decide_eq_false hge
    have : k = W.tasks.length := by omega
    subst this
    refine ⟨_, k_impl_total (hO.rd elt_Int.len) (by omega) (fun x hm => by have := hws x hm; omega), fun wr4 hx4 => ⟨?_, (s1.step hx4).ext⟩⟩
    rw [hsum]; rfl
theorem k_impl_ins {g c : Int} (h : WPt bs w p W m) (wp : WldP W) : PureX bs Tryz.prog fn_impl_lane_inside #[.agg #[.pointer p, .int .i64 c], .int .i64 g] w (.int .i64 (insS W g c)) := by
  refine pureX_of fun wr0 hx0 => e_impl_lane_inside p c g (R := fun v w' => v = .int .i64 (insS W g c) ∧ ExtX [] wr0 w') ?_
  have h := (h.ext hx0).less (cs := []) (by simp)
  have htl := wp.a.t
  intro b hb
  refine ⟨h.some, _, _, _, h.tasks, ?_⟩
  refine ⟨fun vs w1 => ∃ (k : Nat) (ws : List Int) (o : Option Addr) (c' : Nat), vs = [.slice o ws.length c', .int .i64 (k : Int)] ∧ k ≤ W.tasks.length ∧ ws.length ≤ k ∧ (∀ x ∈ ws, 0 ≤ x ∧ x ≤ 20) ∧ sumI ws ws.length = sumF (insF W g c) k ∧ Sc wr0 [b] w1 ∧ Ob encI 1 ty_int wr0.heap.size [b] w1 o c' ws, cntMw W.tasks.length 1,
    fun wr hx _ => ⟨0, [], none, 0, rfl, Nat.zero_le _, Nat.le_refl _, by simp, rfl, ((Sc.start wr0).call0 hx |> fun s => ⟨s.ext, by simpa using hb⟩), ⟨.inl ⟨rfl, rfl, rfl⟩, by simp [blkOf]⟩⟩, ?_⟩
  rintro o1 L1 C1 x w1 hs1 ⟨k, ws, o', c', he, hk, hlen, hws, hsum, s1, hO⟩
  simp only [List.cons.injEq, Value.int.injEq, Value.slice.injEq, true_and, and_true] at he
  obtain ⟨⟨rfl, rfl, rfl⟩, rfl⟩ := he
  refine ⟨fun hlt => ?_, fun hge => ?_⟩
  · have hlt := of_decide_eq_true hlt
    have hp := h.sc s1
    have hw := weightOf_range (tkk W (k : Int)).nice
    have eF : insF W g c k = if ((((tkk W (k : Int)).state == 1) && ((tkk W (k : Int)).cpu == c)) && insD 3 W.groups g (tkk W (k : Int)).group) = true then weightOf (tkk W (k : Int)).nice else 0 := rfl
    refine ⟨h.rd.t.ix encT_c (by omega) hlt, _, _, _, _, _, _, _, _, _, hp.rd.t k (by omega) hlt, fun b1 hb1 => ⟨fun _ => h.some, _, _, _, fun _ => hp.groups, _, fun q => k_impl_inside (c := m.gC) hp.rd.g wp.a.tree (by
      simp only [Bool.and_eq_true, beq_iff_eq] at q
      exact (wp.li (by omega) hlt q.1).1), fun q => ⟨_, k_impl_weight hp (by omega) hlt, fun b2 hb2 wr1 hx1 hs2 hcell => ?_⟩, fun q => ⟨⟨by omega, by omega⟩, fun wr3 hx3 _ => ⟨⟨k + 1, ws, o1, C1, by simp, by omega, by omega, hws, ?_, s1.step hx3, hO.step hx3⟩, cntM_ltW (k := k) rfl rfl (by omega)⟩⟩⟩⟩
    · have s2 := s1.put2 hx1 hb1 hb2
      have hO2 := hO.put2 hx1 hb1 hb2
      obtain ⟨o2, c2, w2, hrun, hk2, hO3, hx2⟩ := hO2.app1 elt_Int u_sl_int (x := weightOf (tkk W (k : Int)).nice) hs2 s2.ext.size hcell (oneI _) (by omega) (by decide) ty_sl_int #[false, false]
      have s3 := s2.call hx2 fun x hm => (hO2.own.lt x hm).1
      refine ⟨_, _, _, w2, hrun, hk2, ⟨by omega, by omega⟩, fun wr2 hx3 _ => ⟨⟨k + 1, ws ++ [weightOf (tkk W (k : Int)).nice], o2, c2, by simp, by omega, by simp; omega, fun x hm => ?_, ?_, (s3.step hx3).sub (by simp), (hO3.step hx3).sub (by simp)⟩, cntM_ltW (k := k) rfl rfl (by omega)⟩⟩
      · rcases List.mem_append.1 hm with hm | hm
        · exact hws x hm
        · have : x = weightOf (tkk W (k : Int)).nice := by simpa using hm
          rw [this]; exact hw
      · rw [sumI_app, hsum]
        simp only [sumF]; rw [insF_t (W := W) (g := g) (c := c) (k := k) q]
    · simp only [sumF]; rw [insF_f (W := W) (g := g) (c := c) (k := k) q, hsum]; omega
  · have hge := of_decide_eq_false hge
    have : k = W.tasks.length := by omega
    subst this
    refine ⟨_, k_impl_total (hO.rd elt_Int.len) (by omega) (fun x hm => by have := hws x hm; omega), fun wr4 hx4 => ⟨?_, (s1.step hx4).ext⟩⟩
    rw [hsum]; rfl
theorem k_impl_CpuWaiting {c : Int} (h : RdW bs w W m) (hl : LenW W) : PureX bs Tryz.prog fn_impl_CpuWaiting #[.agg (encW W m).toArray, .int .i64 c] w (.int .i64 (waitD W c)) := by
  refine pureX_of fun wr0 hx0 => e_impl_CpuWaiting W.now m.cO W.cpus.length m.cC m.tO W.tasks.length m.tC m.gO W.groups.length m.gC c (R := fun v w' => v = .int .i64 (waitD W c) ∧ ExtX [] wr0 w') ?_
  have h := (h.ext hx0).less (cs := []) (by simp)
  intro b wb hxb hb hcell _
  have hrd := h.ext hxb
  have hp := wpt_of (bs := []) hcell hrd (ExtX.refl _ _) (by simp)
  refine ⟨_, _, _, _, _, _, _, _, _, _, hp.cs, _, k_impl_WorldOk hrd hl.c hl.g hl.f, cpuIn W c, fun _ => by exact k_impl_cpuThere hp hl.c, fun g wr hx => ⟨?_, hxb.trans hx⟩, fun g => ⟨some ⟨b, 0, none⟩, c, by exact k_impl_lane, fun b1 hb1 => ⟨_, _, _, hp.tasks, ?_⟩⟩⟩
  · unfold waitD
    rw [if_neg]
    rintro ⟨h1, h2⟩
    rw [h1, h2] at g; cases g
  simp only [Bool.or_eq_false_iff, Bool.not_eq_false'] at g
  have wp := decB_t.1 g.1
  obtain ⟨c0, c1⟩ := cpuIn_t g.2
  have htl := wp.a.t
  have e : waitD W c = waitS W c := by unfold waitD; rw [if_pos ⟨g.1, g.2⟩]
  rw [e]
  refine ⟨fun vs w1 => ∃ k : Nat, vs = [.int .i64 (sumF (waitF W c) k), .int .i64 (k : Int)] ∧ k ≤ W.tasks.length ∧ Sc wb [b1] w1, cntMw W.tasks.length 1, fun wr hx _ => ⟨0, rfl, Nat.zero_le _, ⟨hx, by simpa using hb1⟩⟩, ?_⟩
  rintro n x w1 hs1 ⟨k, he, hk, s1⟩
  simp only [List.cons.injEq, Value.int.injEq, true_and, and_true] at he
  obtain ⟨rfl, rfl⟩ := he
  refine ⟨fun hlt => ?_, fun hge wr hx => ⟨?_, hxb.trans (s1.step hx).ext⟩⟩
  · have hlt := of_decide_eq_true hlt
    have hp1 := hp.sc s1
    have hr := sumF_range (waitF_range W c) k
    have eF : waitF W c k = if ((((tkk W (k : Int)).cpu == c) && lineD W (k : Int)) && ((gi W.cpus c).cur != (k : Int))) = true then 1 else 0 := rfl
    refine ⟨_, k_impl_inLine hp1 wp.a (by omega) hlt c0 c1 fun hs => (wp.li (by omega) hlt hs).1, m.cO.map (fun a => a.add (Int.toNat c * 5)), fun _ => by exact k_impl_cpu hp1 c0 c1, fun _ => some_atW (hp1.rd.c c c0 c1), (gi W.cpus c).cur, fun _ => cell_atW (hp1.rd.c c c0 c1) (j := 1) rfl, fun g2 => ⟨⟨by omega, by omega⟩, ⟨by omega, by omega⟩, fun wr hx _ => ⟨⟨k + 1, ?_, by omega, s1.step hx⟩, cntM_ltW (k := k) rfl rfl (by omega)⟩⟩, fun g2 => ⟨⟨by omega, by omega⟩, fun wr hx _ => ⟨⟨k + 1, ?_, by omega, s1.step hx⟩, cntM_ltW (k := k) rfl rfl (by omega)⟩⟩⟩
    · simp only [sumF]; rw [eF, if_pos g2]; simp
    · simp only [sumF]; rw [eF, if_neg (by rw [g2]; decide)]; simp
  · have hge := of_decide_eq_false hge
    have : k = W.tasks.length := by omega
    subst this
    rfl
theorem k_impl_CpuLoad {c : Int} (h : RdW bs w W m) (hl : LenW W) : PureX bs Tryz.prog fn_impl_CpuLoad #[.agg (encW W m).toArray, .int .i64 c] w (.int .i64 (loadD W c)) := by
  refine pureX_of fun wr0 hx0 => e_impl_CpuLoad W.now m.cO W.cpus.length m.cC m.tO W.tasks.length m.tC m.gO W.groups.length m.gC c (R := fun v w' => v = .int .i64 (loadD W c) ∧ ExtX [] wr0 w') ?_
  have h := (h.ext hx0).less (cs := []) (by simp)
  intro b wb hxb hb hcell _
  have hrd := h.ext hxb
  have hp := wpt_of (bs := []) hcell hrd (ExtX.refl _ _) (by simp)
  refine ⟨_, _, _, _, _, _, _, _, _, _, hp.cs, _, k_impl_WorldOk hrd hl.c hl.g hl.f, cpuIn W c, fun _ => by exact k_impl_cpuThere hp hl.c, fun g wr hx => ⟨?_, hxb.trans hx⟩, fun g => ?_⟩
  · unfold loadD
    rw [if_neg]
    rintro ⟨h1, h2⟩
    rw [h1, h2] at g; cases g
  simp only [Bool.or_eq_false_iff, Bool.not_eq_false'] at g
  have wp := decB_t.1 g.1
  obtain ⟨c0, c1⟩ := cpuIn_t g.2
  have e : loadD W c = loadS W c := by unfold loadD; rw [if_pos ⟨g.1, g.2⟩]
  rw [e]
  exact ⟨some ⟨b, 0, none⟩, c, by exact k_impl_lane, _, k_impl_load hp wp c0 c1, fun wr hx => ⟨rfl, hxb.trans hx⟩⟩
theorem k_impl_GroupInside {g c : Int} (h : RdW bs w W m) (hl : LenW W) : PureX bs Tryz.prog fn_impl_GroupInside #[.agg (encW W m).toArray, .int .i64 g, .int .i64 c] w (.int .i64 (insideD W g c)) := by
  refine pureX_of fun wr0 hx0 => e_impl_GroupInside W.now m.cO W.cpus.length m.cC m.tO W.tasks.length m.tC m.gO W.groups.length m.gC g c (R := fun v w' => v = .int .i64 (insideD W g c) ∧ ExtX [] wr0 w') ?_
  have h := (h.ext hx0).less (cs := []) (by simp)
  intro b wb hxb hb hcell _
  have hrd := h.ext hxb
  have hp := wpt_of (bs := []) hcell hrd (ExtX.refl _ _) (by simp)
  refine ⟨_, _, _, _, _, _, _, _, _, _, hp.cs, _, k_impl_WorldOk hrd hl.c hl.g hl.f, _, _, _, fun _ => hp.groups, _, fun _ => k_impl_groupUsed (c := m.gC) hrd.g hl.g, cpuIn W c, fun _ => by exact k_impl_cpuThere hp hl.c, fun q wr hx => ⟨?_, hxb.trans hx⟩, fun q => ?_⟩
  · unfold insideD
    rw [if_neg]
    rintro ⟨h1, h2, h3⟩
    rw [h1, h2, h3] at q; cases q
  simp only [Bool.or_eq_false_iff, Bool.not_eq_false'] at q
  have wp := decB_t.1 q.1.1
  have e : insideD W g c = insS W g c := by unfold insideD; rw [if_pos ⟨q.1.1, q.1.2, q.2⟩]
  rw [e]
  exact ⟨some ⟨b, 0, none⟩, c, by exact k_impl_lane, _, k_impl_ins hp wp, fun wr hx => ⟨rfl, hxb.trans hx⟩⟩
end
end Go.Proofs.YthojnihahmlboaaGreat
