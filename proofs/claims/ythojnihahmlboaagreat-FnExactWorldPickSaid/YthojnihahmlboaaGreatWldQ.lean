/- Worlds: who is next, as the program finds it. -/
import Derived.Test.YthojnihahmlboaaGreatWldP
namespace Go.Proofs.YthojnihahmlboaaGreat
open Go.RowKit
set_option linter.unusedVariables false
set_option maxRecDepth 10000

/-- An entry as the program holds it. -/
def ifvT (W : Wld) (i : Int) : Value := .iface ty_impl_taskMember (.agg (.int .i64 i :: encT (tkk W i)).toArray)
def ifvG (W : Wld) (c : Int) (i : Int) : Value := .iface ty_impl_groupMember (.agg (.int .i64 i :: encS (shf W i c)).toArray)
def ifv (W : Wld) (c : Int) (i : Nat) : Value := if i < 12 then ifvT W (i : Int) else ifvG W c ((i - 12 : Nat) : Int)
def encM (W : Wld) (c : Int) : Option Nat → List Value
  | none => [.nilIface]
  | some i => [ifv W c i]
theorem encM_len (W : Wld) (c : Int) (x : Option Nat) : (encM W c x).length = 1 := by cases x <;> rfl
theorem encM_c (W : Wld) (c : Int) (x : Option Nat) : ∃ v r, encM W c x = v :: r := by cases x <;> exact ⟨_, _, rfl⟩
theorem encM_one (W : Wld) (c : Int) (x : Option Nat) : oneCells (encM W c x) = true := by
  cases x with
  | none => rfl
  | some i =>
    show oneCells [ifv W c i] = true
    by_cases h : i < 12
    · rw [show ifv W c i = ifvT W (i : Int) from if_pos h]; rfl
    · rw [show ifv W c i = ifvG W c ((i - 12 : Nat) : Int) from if_neg h]; rfl
theorem elt_member (W : Wld) (c : Int) : Elt Tryz.prog (encM W c) 1 ty_impl_member 16 none := elt_of (by kernel_rfl) (encM_len W c)
theorem u_sl_member : Tryz.prog.underlying ty_sl_impl_member = some (.slice ty_impl_member) := by kernel_rfl
theorem ifv_t {W : Wld} {c : Int} {i : Nat} (h : i < 12) : ifv W c i = ifvT W (i : Int) := if_pos h
theorem ifv_g {W : Wld} {c : Int} {i : Nat} : ifv W c (12 + i) = ifvG W c (i : Int) := by
  unfold ifv
  rw [if_neg (by omega), show 12 + i - 12 = i by omega]
theorem cells_at {bs : List Nat} {w : World} {o : Option Addr} {n : Nat} {vs : List Value} (h : CellsX bs w o n vs) : CellsX bs w (o.map (·.add n)) 0 vs := cellsX_mk fun j v hj => by
  obtain ⟨a, ha, hb, hc⟩ := h.get j v hj
  refine ⟨a.add n, by rw [ha]; rfl, by rw [add_block]; exact hb, ?_⟩
  rw [add_add', Nat.zero_add]; exact hc
theorem filter_step (p : Nat → Bool) (k : Nat) (h : p k = true) : (List.range (k + 1)).filter p = (List.range k).filter p ++ [k] := by
  rw [List.range_succ, List.filter_append]; simp [h]
theorem filter_skip (p : Nat → Bool) (k : Nat) (h : p k = false) : (List.range (k + 1)).filter p = (List.range k).filter p := by
  rw [List.range_succ, List.filter_append]; simp [h]
theorem filter_le (p : Nat → Bool) (k : Nat) : ((List.range k).filter p).length ≤ k := by
  have := List.length_filter_le p (List.range k)
  simpa using this
def memL (W : Wld) (g c : Int) (k : Nat) : List Nat := (List.range k).filter (memP W g c)
section
variable {W : Wld} {m : MW} {w : World} {bs : List Nat} {p : Option Addr}
theorem k_impl_members {g c : Int} (h : WPt bs w p W m) (wp : WldP W) (c0 : 0 ≤ c) (c1 : c < (W.cpus.length : Int)) (hb0 : bs = []) :
    Calls Tryz.prog fn_impl_lane_members #[.agg #[.pointer p, .int .i64 c], .int .i64 g] w fun e w' => ∃ o cap, e = .returned (.slice o (memL W g c 20).length cap) ∧ Own (encM W c) 1 ty_impl_member w.heap.size w' o cap ((memL W g c 20).map some) ∧ ExtX [] w w' := by
  subst hb0
  refine (e_impl_lane_members p c g (R := fun v w' => ∃ o cap, v = .slice o (memL W g c 20).length cap ∧ Own (encM W c) 1 ty_impl_member w.heap.size w' o cap ((memL W g c 20).map some) ∧ ExtX [] w w') ?_).mono fun e w' ⟨v, he, o, cap, hv, h1⟩ => ⟨o, cap, by rw [he, hv], h1⟩
  have htl := wp.a.t
  have hgl := wp.a.gl
  intro b hb
  refine ⟨h.some, _, _, _, h.tasks, ?_⟩
  refine ⟨fun vs w1 => ∃ (k : Nat) (o : Option Addr) (c' : Nat), vs = [.slice o ((memL W g c k).map some).length c', .int .i64 (k : Int)] ∧ k ≤ 12 ∧ Sc w [b] w1 ∧ Ob (encM W c) 1 ty_impl_member w.heap.size [b] w1 o c' ((memL W g c k).map some), cntMw 12 1,
    fun wr hx _ => ⟨0, none, 0, rfl, by omega, ⟨hx, by simpa using hb⟩, ⟨.inl ⟨rfl, rfl, rfl⟩, by simp [blkOf]⟩⟩, ?_⟩
  rintro o1 L1 C1 x w1 hs1 ⟨k, o', c', he, hk, s1, hO⟩
  simp only [List.cons.injEq, Value.int.injEq, Value.slice.injEq, true_and, and_true] at he
  obtain ⟨⟨rfl, rfl, rfl⟩, rfl⟩ := he
  have hp1 := h.sc s1
  refine ⟨fun hlt => ?_, fun hge => ?_⟩
  · have hlt := of_decide_eq_true hlt
    have hk12 : k < 12 := by omega
    refine ⟨h.rd.t.ix encT_c (by omega) hlt, _, _, _, _, _, _, _, _, _, hp1.rd.t k (by omega) hlt, fun b1 hb1 => ⟨_, k_impl_queues hp1 (by omega) hlt, fun q b2 hb2 wr1 hx1 hs2 hcell => ?_, fun q => ⟨⟨by omega, by omega⟩, fun wr3 hx3 _ => ⟨⟨k + 1, o1, C1, ?_, by omega, s1.step hx3, ?_⟩, cntM_ltW (k := k) rfl rfl hk12⟩⟩⟩⟩
    · have q' : memP W g c k = true := by rw [memP_t hk12]; rwa [Int.toNat_natCast] at q
      have s2 := s1.put2 hx1 hb1 hb2
      have hO2 := hO.put2 hx1 hb1 hb2
      obtain ⟨o2, c2, w2, hrun, hk2, hO3, hx2⟩ := hO2.app1 (elt_member W c) u_sl_member (x := some k) hs2 s2.ext.size (by
        show _ = some (Obj.cells [ifv W c k].toArray _ _)
        rw [ifv_t hk12]; exact hcell) (encM_one _ _ _) (by have := filter_le (memP W g c) k; simp [memL]; omega) (by decide) ty_sl_impl_member #[false, false]
      have s3 := s2.call hx2 fun x hm => (hO2.own.lt x hm).1
      have hL : (memL W g c k).map some ++ [some k] = (memL W g c (k + 1)).map some := by
        unfold memL; rw [filter_step _ _ q', List.map_append]; rfl
      rw [hL] at hrun hO3
      exact ⟨_, _, _, w2, hrun, hk2, ⟨by omega, by omega⟩, fun wr2 hx3 _ => ⟨⟨k + 1, o2, c2, by simp, by omega, (s3.step hx3).sub (by simp), (hO3.step hx3).sub (by simp)⟩, cntM_ltW (k := k) rfl rfl hk12⟩⟩
    · have q' : memP W g c k = false := by rw [memP_t hk12]; rwa [Int.toNat_natCast] at q
      have hL : memL W g c (k + 1) = memL W g c k := filter_skip _ _ q'
      rw [hL]; simp
    · have q' : memP W g c k = false := by rw [memP_t hk12]; rwa [Int.toNat_natCast] at q
      have hL : memL W g c (k + 1) = memL W g c k := filter_skip _ _ q'
      rw [hL]; exact hO.step hx3
  · have hge := of_decide_eq_false hge
    have : k = 12 := by omega
    subst this
    refine ⟨h.some, _, _, _, hp1.groups, ?_⟩
    refine ⟨fun vs w1 => ∃ (k : Nat) (o : Option Addr) (c' : Nat), vs = [.slice o ((memL W g c (12 + k)).map some).length c', .int .i64 (k : Int)] ∧ k ≤ 8 ∧ Sc w [b] w1 ∧ Ob (encM W c) 1 ty_impl_member w.heap.size [b] w1 o c' ((memL W g c (12 + k)).map some), cntMw 8 1,
      fun wr hx _ => ⟨0, o1, C1, rfl, by omega, s1.step hx, hO.step hx⟩, ?_⟩
    rintro o3 L3 C3 x w3 hs3 ⟨k, o', c', he, hk, s3, hO3⟩
    simp only [List.cons.injEq, Value.int.injEq, Value.slice.injEq, true_and, and_true] at he
    obtain ⟨⟨rfl, rfl, rfl⟩, rfl⟩ := he
    have hp3 := h.sc s3
    refine ⟨fun hlt => ?_, fun hge2 wr hx => ?_⟩
    · have hlt := of_decide_eq_true hlt
      have hk8 : k < 8 := by omega
      have hk0 : (0 : Int) ≤ (k : Int) := by omega
      refine ⟨_, k_impl_holds hp3 wp.a (by omega) hlt c0 c1, fun q => ?_, fun q => ⟨⟨by omega, by omega⟩, fun wr7 hx7 _ => ⟨⟨k + 1, o3, C3, ?_, by omega, s3.step hx7, ?_⟩, cntM_ltW (k := k) rfl rfl hk8⟩⟩⟩
      · rw [Int.toNat_natCast] at q
        have q' : memP W g c (12 + k) = true := by rw [memP_g]; exact q
        have hus : (gi W.groups (k : Int)).used = true := by
          unfold actG at q
          simp only [Bool.and_eq_true] at q
          exact q.1.2.1
        have hkc : c < ((gi W.groups (k : Int)).shelves.length : Int) := by rw [wp.a.sl (used_of hlt hus)]; exact c1
        refine ⟨_, k_impl_shelf hp3 hk0 hlt c0 hkc, (hp3.sh hk0 hlt c0 hkc).1, _, _, _, _, _, cells_at (hp3.rd.g.shelves _ hk0 hlt c c0 hkc), fun b3 hb3 wr5 hx5 hs5 hcell => ?_⟩
        have s5 := s3.put hx5 hb3
        have hO5 := hO3.put hx5 hb3
        obtain ⟨o2, c2, w2, hrun, hk2, hO6, hx2⟩ := hO5.app1 (elt_member W c) u_sl_member (x := some (12 + k)) hs5 s5.ext.size (by
          show _ = some (Obj.cells [ifv W c (12 + k)].toArray _ _)
          rw [ifv_g]; exact hcell) (encM_one _ _ _) (by have := filter_le (memP W g c) (12 + k); simp [memL]; omega) (by decide) ty_sl_impl_member #[false, false]
        have s6 := s5.call hx2 fun x hm => (hO5.own.lt x hm).1
        have hL : (memL W g c (12 + k)).map some ++ [some (12 + k)] = (memL W g c (12 + (k + 1))).map some := by
          unfold memL; rw [show 12 + (k + 1) = 12 + k + 1 from rfl, filter_step _ _ q', List.map_append]; rfl
        rw [hL] at hrun hO6
        exact ⟨_, _, _, w2, hrun, hk2, ⟨by omega, by omega⟩, fun wr2 hx3 _ => ⟨⟨k + 1, o2, c2, by simp, by omega, (s6.step hx3).sub (by simp), (hO6.step hx3).sub (by simp)⟩, cntM_ltW (k := k) rfl rfl hk8⟩⟩
      · rw [Int.toNat_natCast] at q
        have q' : memP W g c (12 + k) = false := by rw [memP_g]; exact q
        have hL : memL W g c (12 + (k + 1)) = memL W g c (12 + k) := filter_skip _ _ q'
        rw [hL]; simp
      · rw [Int.toNat_natCast] at q
        have q' : memP W g c (12 + k) = false := by rw [memP_g]; exact q
        have hL : memL W g c (12 + (k + 1)) = memL W g c (12 + k) := filter_skip _ _ q'
        rw [hL]; exact hO3.step hx7
    · have hge2 := of_decide_eq_false hge2
      have : k = 8 := by omega
      subst this
      exact ⟨o3, C3, by simp, (hO3.step hx).own, (s3.step hx).ext⟩
theorem k_time_t {x : Int} {t : Tsk} : PureX bs Tryz.prog fn_impl_taskMember_time #[.agg (.int .i64 x :: encT t).toArray] w (.int .i64 t.v) := p_impl_taskMember_time x t.state t.group t.cpu t.nice t.mask t.v t.sum t.used t.load fun wr hx => fun _ _ => rfl
theorem k_time_g {x : Int} {s : Shf} : PureX bs Tryz.prog fn_impl_groupMember_time #[.agg (.int .i64 x :: encS s).toArray] w (.int .i64 s.v) := p_impl_groupMember_time x s.floor s.on s.v s.w s.sum fun wr hx => fun _ _ => rfl
theorem cm_task (W : Wld) (i : Int) (w : World) : (callM "loop.example/stint/impl.time" (ifvT W i) []).run Tryz.prog w = .ok (.enter fn_impl_taskMember_time #[.agg (.int .i64 i :: encT (tkk W i)).toArray]) w := by kernel_rfl
theorem cm_group (W : Wld) (c i : Int) (w : World) : (callM "loop.example/stint/impl.time" (ifvG W c i) []).run Tryz.prog w = .ok (.enter fn_impl_groupMember_time #[.agg (.int .i64 i :: encS (shf W i c)).toArray]) w := by kernel_rfl
/-- The time of an entry, by its method. -/
theorem m_time (c : Int) (i : Nat) : ∃ (F : FuncId) (aa : Array Value), (∀ w : World, (callM "loop.example/stint/impl.time" (ifv W c i) []).run Tryz.prog w = .ok (.enter F aa) w) ∧ ∀ (bs : List Nat) (w : World), PureX bs Tryz.prog F aa w (.int .i64 (memV W c i)) := by
  by_cases h : i < 12
  · rw [ifv_t h, memV_t h]
    refine ⟨fn_impl_taskMember_time, #[.agg (.int .i64 (i : Int) :: encT (tkk W (i : Int))).toArray], ?_, ?_⟩
    · intro w; exact cm_task W (i : Int) w
    · intro bs w; exact k_time_t (x := (i : Int)) (t := tkk W (i : Int))
  · have e : i = 12 + (i - 12) := by omega
    rw [e, ifv_g, memV_g]
    refine ⟨fn_impl_groupMember_time, #[.agg (.int .i64 ((i - 12 : Nat) : Int) :: encS (shf W ((i - 12 : Nat) : Int) c)).toArray], ?_, ?_⟩
    · intro w; exact cm_group W c ((i - 12 : Nat) : Int) w
    · intro bs w; exact k_time_g (x := ((i - 12 : Nat) : Int)) (s := shf W ((i - 12 : Nat) : Int) c)
theorem k_cmp_isNaN {x : Int} : PureX bs Tryz.prog fn_cmp_isNaN_int #[.int .i64 x] w (.bool false) := p_cmp_isNaN_int x fun wr hx => by
  show Value.bool (x != x) = _
  simp
def cmpD (x y : Int) : Int := if x < y then -1 else if x > y then 1 else 0
theorem k_cmp_Compare {x y : Int} : PureX bs Tryz.prog fn_cmp_Compare_int #[.int .i64 x, .int .i64 y] w (.int .i64 (cmpD x y)) := p_cmp_Compare_int x y fun wr hx => by
  refine ⟨_, k_cmp_isNaN, _, k_cmp_isNaN, fun g => (by cases g), fun _ => ⟨fun g => (by cases g), fun _ => ⟨fun g => ?_, fun g => ⟨fun g2 => ?_, fun g2 => ?_⟩⟩⟩⟩
  · unfold cmpD; rw [if_pos (of_decide_eq_true g)]
  · unfold cmpD; rw [if_neg (of_decide_eq_false g), if_pos (of_decide_eq_true g2)]
  · unfold cmpD; rw [if_neg (of_decide_eq_false g), if_neg (of_decide_eq_false g2)]
theorem cmpD_neg {x y : Int} : cmpD x y < 0 ↔ x < y := by
  unfold cmpD
  split
  · rename_i h; exact ⟨fun _ => h, fun _ => by decide⟩
  · rename_i h
    split <;> exact ⟨fun hc => by omega, fun hc => absurd hc h⟩
theorem k_pick_1 {c : Int} {i j : Nat} : PureX bs Tryz.prog fn_impl_lane_pick_1 #[ifv W c i, ifv W c j] w (.int .i64 (cmpD (memV W c i) (memV W c j))) := by
  refine pureX_of fun wr0 hx0 => e_impl_lane_pick_1 (ifv W c i) (ifv W c j) (R := fun v w' => v = .int .i64 (cmpD (memV W c i) (memV W c j)) ∧ ExtX [] wr0 w') ?_
  intro wr hx hs
  obtain ⟨F, aa, h1, h2⟩ := m_time (W := W) c i
  obtain ⟨F', aa', h1', h2'⟩ := m_time (W := W) c j
  exact ⟨F, aa, h1 wr, (h2 [] wr wr (ExtX.refl _ _)).mono fun e w1 ⟨he, hx1⟩ => ⟨_, he, kept_nil, fun wr1 hy1 _ => ⟨F', aa', h1' wr1, (h2' [] wr1 wr1 (ExtX.refl _ _)).mono fun e w2 ⟨he, hx2⟩ => ⟨_, he, kept_nil, _, k_cmp_Compare, fun wr2 hy2 => ⟨rfl, ((((hx.trans hx1).trans hy1).trans hx2)).trans hy2⟩⟩⟩⟩⟩
theorem k_MinFunc {c : Int} {L : List Nat} {o : Option Addr} {cap : Nat} (h : Rd (encM W c) 1 [] w o (L.map some)) (hl : 1 ≤ L.length) (hl2 : L.length ≤ 100) :
    Calls Tryz.prog fn_slices_MinFunc_impl_member_impl_member #[.slice o L.length cap, .func (.func fn_impl_lane_pick_1) #[] #[]] w fun e w' => e = .returned (ifv W c (minL (memV W c) L).toNat) ∧ ExtX [] w w' := by
  refine (e_slices_MinFunc_impl_member_impl_member o L.length cap fn_impl_lane_pick_1 #[] #[] (R := fun v w' => v = ifv W c (minL (memV W c) L).toNat ∧ ExtX [] w w') ?_).mono fun e w' ⟨v, he, hv, h1⟩ => ⟨by rw [he, hv], h1⟩
  have hlm : ((L.map some).length : Int) = (L.length : Int) := by simp
  have cell : ∀ {w1 : World} {k : Nat}, ExtX [] w w1 → k < L.length → CellsX [] w1 o (Int.toNat (k : Int) * 1) [ifv W c (gi L (k : Int))] := fun {w1 k} hx hk => by
    have := (h.ext hx) (k : Int) (by omega) (by omega)
    rwa [gi_map some L (by omega) (by omega)] at this
  have ix : ∀ {k : Nat}, k < L.length → Ix o L.length (k : Int) := fun {k} hk => by
    have := h.ix (encM_c W c) (i := (k : Int)) (by omega) (by omega)
    rwa [List.length_map] at this
  have take : ∀ {k : Nat}, k < L.length → L.take (k + 1) = L.take k ++ [gi L (k : Int)] := fun {k} hk => by
    rw [List.take_succ_eq_append_getElem hk, gi_lt hk]
  refine ⟨fun g => by have := of_decide_eq_true g; omega, fun _ => ⟨ix (k := 0) (by omega), _, cell (k := 0) (ExtX.refl _ _) (by omega), ?_⟩⟩
  refine ⟨fun vs w1 => ∃ k : Nat, vs = [ifv W c (minL (memV W c) (L.take k)).toNat, .int .i64 (k : Int)] ∧ 1 ≤ k ∧ k ≤ L.length ∧ ExtX [] w w1, cntMw L.length 1, fun wr hx _ => ⟨1, ?_, by omega, by omega, hx⟩, ?_⟩
  · rw [take (k := 0) (by omega), List.take_zero, minL_app]
    rw [if_pos (by rfl)]
    simp
  rintro mv x w1 hs1 ⟨k, he, hk1, hk, hX⟩
  simp only [List.cons.injEq, Value.int.injEq, and_true] at he
  obtain ⟨rfl, _, rfl⟩ := he
  refine ⟨fun hlt => ?_, fun hge wr hx => ⟨?_, hX.trans hx⟩⟩
  · have hlt := of_decide_eq_true hlt
    have hkl : k < L.length := by omega
    have hne : L.take k ≠ [] := fun e => by
      have h0 : (L.take k).length = 0 := by rw [e]; rfl
      rw [List.length_take] at h0
      omega
    have hmn := minL_nn (memV W c) (L.take k) hne
    refine ⟨ix hkl, _, cell hX hkl, fun wr1 hx1 hs2 => ⟨fn_impl_lane_pick_1, #[ifv W c (gi L (k : Int)), ifv W c (minL (memV W c) (L.take k)).toNat], by rfl, (k_pick_1 (bs := []) wr1 (ExtX.refl _ _)).mono fun e w2 ⟨he, hx2⟩ => ⟨_, he, kept_nil, fun g => ⟨ix hkl, _, cell ((hX.trans hx1).trans hx2) hkl, ⟨by omega, by omega⟩, fun wr2 hx3 _ => ⟨⟨k + 1, ?_, by omega, by omega, ((hX.trans hx1).trans hx2).trans hx3⟩, cntM_ltW (k := k) rfl rfl hkl⟩⟩, fun g => ⟨⟨by omega, by omega⟩, fun wr3 hx3 _ => ⟨⟨k + 1, ?_, by omega, by omega, ((hX.trans hx1).trans hx2).trans hx3⟩, cntM_ltW (k := k) rfl rfl hkl⟩⟩⟩⟩⟩
    · have g := cmpD_neg.1 (of_decide_eq_true g)
      rw [take hkl, minL_app, if_pos (by rw [decide_eq_true g, Bool.or_true]), Int.toNat_natCast]; simp
    · have g := of_decide_eq_false g
      have g : ¬ memV W c (gi L (k : Int)) < memV W c (minL (memV W c) (L.take k)).toNat := fun hc => g (cmpD_neg.2 hc)
      rw [take hkl, minL_app, if_neg (by rw [decide_eq_false g, decide_eq_false (show ¬ minL (memV W c) (L.take k) < 0 by omega)]; decide)]; simp
  · have hge := of_decide_eq_false hge
    have : k = L.length := by omega
    subst this
    rw [List.take_length]
theorem ta_task (W : Wld) (i : Int) (w : World) : (Instr.typeAssert (ifvT W i) ty_impl_member ty_impl_taskMember true).run Tryz.prog w = .ok (.tuple #[.agg (.int .i64 i :: encT (tkk W i)).toArray, .bool true]) w := by kernel_rfl
theorem ta_taskG (W : Wld) (c i : Int) (w : World) : (Instr.typeAssert (ifvG W c i) ty_impl_member ty_impl_taskMember true).run Tryz.prog w = .ok (.tuple #[.agg (.int .i64 0 :: encT zeroT).toArray, .bool false]) w := by kernel_rfl
theorem ta_group (W : Wld) (c i : Int) (w : World) : (Instr.typeAssert (ifvG W c i) ty_impl_member ty_impl_groupMember true).run Tryz.prog w = .ok (.tuple #[.agg (.int .i64 i :: encS (shf W i c)).toArray, .bool true]) w := by kernel_rfl
theorem k_impl_pick {c : Int} (h : WPt bs w p W m) (wp : WldP W) (c0 : 0 ≤ c) (c1 : c < (W.cpus.length : Int)) : PureX bs Tryz.prog fn_impl_lane_pick #[.agg #[.pointer p, .int .i64 c]] w (.int .i64 (if (gi W.cpus c).up = true then pickW W c else -1)) := by
  refine pureX_of fun wr0 hx0 => e_impl_lane_pick p c (R := fun v w' => v = .int .i64 (if (gi W.cpus c).up = true then pickW W c else -1) ∧ ExtX [] wr0 w') ?_
  have h := (h.ext hx0).less (cs := []) (by simp)
  have ha := wp.a
  have hgl := ha.gl
  have cc := h.rd.c c c0 c1
  have sm := some_atW (n := Int.toNat c * 5) cc
  have cur1 := (wp.c c c0 c1).c1
  intro b hb
  refine ⟨m.cO.map (fun a => a.add (Int.toNat c * 5)), by exact k_impl_cpu h c0 c1, sm, _, cell_atW cc (j := 0) rfl, fun g wr hx => ⟨?_, hx⟩, fun g => ⟨sm, _, cell_atW cc (j := 1) rfl, fun _ => sm, _, fun _ => cell_atW cc (j := 2) rfl, fun g2 => ⟨sm, _, cell_atW cc (j := 1) rfl, fun wr hx => ⟨?_, hx⟩⟩, fun g2 => ?_⟩⟩
  · rw [if_neg (by simpa using g)]
  · have gu : (gi W.cpus c).up = true := by simpa using g
    simp only [Bool.and_eq_true, bne_iff_ne, decide_eq_true_eq] at g2
    rw [if_pos gu]
    unfold pickW
    rw [if_pos ⟨by omega, g2.2⟩]
  have gu : (gi W.cpus c).up = true := by simpa using g
  have hpk : pickW W c = nextW W 0 c := by
    unfold pickW
    rw [if_neg]
    rintro ⟨e1, e2⟩
    rw [bne_iff_ne.2 (show (gi W.cpus c).cur ≠ -1 by omega), decide_eq_true e2] at g2
    cases g2
  rw [if_pos gu, hpk]
  refine ⟨fun vs w1 => ∃ x : Int, vs = [.int .i64 x] ∧ usedD W.groups x = true ∧ nextW W x c = nextW W 0 c ∧ Sc wr0 [b] w1, fun vs _ => (3 - dep 3 W.groups (ctrAt 0 vs)).toNat, fun wr hx _ => ⟨0, rfl, ha.root, rfl, ⟨hx, by simpa using hb⟩⟩, ?_⟩
  rintro x w1 hs1 ⟨x', he, hux, hI, s1⟩ wr3 hx3 hs3
  simp only [List.cons.injEq, Value.int.injEq, true_and, and_true] at he
  subst he
  have s3 := s1.step hx3
  have hp3 : WPt [] wr3 p W m := (h.sc s3).less (by simp)
  have hst := next_step ha hux (c := c)
  have hmin : minL (memV W c) (memL W x c 20) = firstD W x c := minL_filter _ _ _
  refine (k_impl_members hp3 wp c0 c1 rfl).mono fun e w4 ⟨o, cap, he, hO, hx4⟩ => ⟨_, _, _, he, kept_of hx4 hs3, fun q wr4 hx5 => ⟨?_, ((s3.call0 hx4).step hx5).ext⟩, fun q wr5 hx5 hs5 => ?_⟩
  · have hn : memL W x c 20 = [] := List.eq_nil_of_length_eq_zero (by have : (((memL W x c 20).length : Nat) : Int) = 0 := by simpa using q
                                                                      omega)
    have : firstD W x c = -1 := by rw [← hmin, hn]; rfl
    rw [← hI, hst, if_pos (by omega)]
  have hne : memL W x c 20 ≠ [] := fun e => by rw [e] at q; simp at q
  have hlen : 1 ≤ (memL W x c 20).length := by
    rcases Nat.eq_zero_or_pos (memL W x c 20).length with h0 | h0
    · exact absurd (List.eq_nil_of_length_eq_zero h0) hne
    · exact h0
  have hF : 0 ≤ firstD W x c := by rw [← hmin]; exact minL_nn _ _ hne
  have s5 := (s3.call0 hx4).step hx5
  have hO5 := (Ob.of hO hs3).step hx5
  have hlt20 := filter_le (memP W x c) 20
  refine (k_MinFunc (hO5.rd0 (elt_member W c).len) hlen (by unfold memL; omega)).mono fun e w6 ⟨he, hx6⟩ => ⟨_, he, kept_of hx6 hs5, ?_⟩
  rw [hmin]
  by_cases h12 : firstD W x c < 12
  · have hi : (firstD W x c).toNat < 12 := by omega
    rw [ifv_t hi]
    refine ⟨_, _, _, _, _, _, _, _, _, _, _, fun wq => ta_task W _ wq, fun _ b1 hb1 wr6 hx7 => ⟨?_, ((s5.call0 hx6).step hx7).ext⟩, fun g => by cases g⟩
    rw [← hI, hst, if_neg (by omega), if_pos h12, show (((firstD W x c).toNat : Nat) : Int) = firstD W x c by omega]
  · have e : (firstD W x c).toNat = 12 + ((firstD W x c).toNat - 12) := by omega
    rw [e, ifv_g]
    have ei : (((firstD W x c).toNat - 12 : Nat) : Int) = firstD W x c - 12 := by omega
    obtain ⟨k1, k2, k3, _⟩ := first_kid ha hux (c := c) (by omega)
    have hdk := dep_le ha k1
    rw [ei]
    refine ⟨_, _, _, _, _, _, _, _, _, _, _, fun wq => ta_taskG W c _ wq, fun g => (by cases g), fun _ => ⟨_, _, _, _, _, _, _, fun wq => ta_group W c _ wq, fun _ b2 hb2 wr7 hx7 _ => ⟨⟨firstD W x c - 12, rfl, k1, ?_, (s5.call0 hx6).step hx7⟩, ?_⟩, fun g => by cases g⟩⟩
    · rw [← hI, hst, if_neg (by omega), if_neg h12]
    · show (3 - dep 3 W.groups (firstD W x c - 12)).toNat < (3 - dep 3 W.groups x).toNat
      omega
theorem k_impl_WorldPick {c : Int} (h : RdW bs w W m) (hl : LenW W) : PureX bs Tryz.prog fn_impl_WorldPick #[.agg (encW W m).toArray, .int .i64 c] w (.int .i64 (pickD W c)) := by
  refine pureX_of fun wr0 hx0 => e_impl_WorldPick W.now m.cO W.cpus.length m.cC m.tO W.tasks.length m.tC m.gO W.groups.length m.gC c (R := fun v w' => v = .int .i64 (pickD W c) ∧ ExtX [] wr0 w') ?_
  have h := (h.ext hx0).less (cs := []) (by simp)
  intro b wb hxb hb hcell _
  have hrd := h.ext hxb
  have hp := wpt_of (bs := []) hcell hrd (ExtX.refl _ _) (by simp)
  refine ⟨_, _, _, _, _, _, _, _, _, _, hp.cs, _, k_impl_WorldOk hrd hl.c hl.g hl.f, cpuIn W c, fun _ => by exact k_impl_cpuThere hp hl.c, fun g wr hx => ⟨?_, hxb.trans hx⟩, fun g => ?_⟩
  · unfold pickD
    rw [if_neg]
    rintro ⟨h1, h2, _⟩
    rw [h1, h2] at g; cases g
  simp only [Bool.or_eq_false_iff, Bool.not_eq_false'] at g
  have wp := decB_t.1 g.1
  obtain ⟨c0, c1⟩ := cpuIn_t g.2
  refine ⟨some ⟨b, 0, none⟩, c, by exact k_impl_lane, _, k_impl_pick hp wp c0 c1, fun wr hx => ⟨?_, hxb.trans hx⟩⟩
  unfold pickD
  cases hu : (gi W.cpus c).up with
  | true => rw [if_pos rfl, if_pos ⟨g.1, g.2, rfl⟩]
  | false => rw [if_neg (by decide), if_neg (fun hc => by cases hc.2.2)]
end
end Go.Proofs.YthojnihahmlboaaGreat
