/- Worlds: the mirror functions; worlds of one's own. -/
import Derived.Test.YthojnihahmlboaaGreatWld
import Derived.Test.YthojnihahmlboaaGreatMirW
namespace Go.Proofs.YthojnihahmlboaaGreat
open Go.RowKit
set_option linter.unusedVariables false
set_option linter.unusedSimpArgs false
set_option maxRecDepth 10000

structure SmW (W : Wld) : Prop where
  c : W.cpus.length ≤ 1048576
  t : W.tasks.length ≤ 1048576
  g : W.groups.length ≤ 1048576
  gs : ∀ i : Int, 0 ≤ i → i < (W.groups.length : Int) → SmG (gi W.groups i)
def szWd (W : Wld) (left : Int) : Int :=
  if szN W.cpus.length left < 0 then -1 else if szN W.tasks.length (szN W.cpus.length left) < 0 then -1
  else if szGS W.groups (szN W.tasks.length (szN W.cpus.length left)) < 0 then -1 else szGS W.groups (szN W.tasks.length (szN W.cpus.length left))
theorem szWd_nn {W : Wld} {left : Int} (hl2 : left ≤ 1048576) (h : 0 ≤ szWd W left) : SmW W ∧ szWd W left ≤ left := by
  unfold szWd at h ⊢
  split at h
  · omega
  · rename_i h1
    rw [if_neg h1]
    obtain ⟨a1, a2⟩ := szN_nn (n := W.cpus.length) (left := left) (by omega)
    split at h
    · omega
    · rename_i h2
      rw [if_neg h2]
      obtain ⟨b1, b2⟩ := szN_nn (n := W.tasks.length) (left := szN W.cpus.length left) (by omega)
      split at h
      · omega
      · rename_i h3
        rw [if_neg h3]
        obtain ⟨c1, c2, c3⟩ := szGS_nn (gs := W.groups) (left := szN W.tasks.length (szN W.cpus.length left)) (by omega) (by omega)
        exact ⟨⟨by omega, by omega, c2, c3⟩, by omega⟩
section
variable {W : Wld} {m : MW} {w w' : World}
theorem k_szWorld {left : Int} (ft : FitW w W m) (hl : 0 ≤ left) (hl2 : left ≤ 1048576) : PureX [] Tryz.prog fn_laws_szWorld #[.agg (encW W m).toArray, .int .i64 left] w (.int .i64 (szWd W left)) :=
  p_laws_szWorld W.now m.cO W.cpus.length m.cC m.tO W.tasks.length m.tC m.gO W.groups.length m.gC left fun wr hx => by
    have rd := ft.rd.ext hx
    intro _ _
    refine ⟨_, k_szCpuS ft.lc hl hl2, fun g => ?_, fun g => ?_⟩
    · unfold szWd; rw [if_pos (of_decide_eq_true g)]
    · have g := of_decide_eq_false g
      obtain ⟨a1, a2⟩ := szN_nn (n := W.cpus.length) (left := left) (by omega)
      refine ⟨_, k_szTaskS ft.lt (by omega) (by omega), fun g2 => ?_, fun g2 => ?_⟩
      · unfold szWd; rw [if_neg g, if_pos (of_decide_eq_true g2)]
      · have g2 := of_decide_eq_false g2
        obtain ⟨b1, b2⟩ := szN_nn (n := W.tasks.length) (left := szN W.cpus.length left) (by omega)
        refine ⟨_, k_szGroupS rd.g ft.ft (by omega) (by omega) ft.lg, fun g3 => ?_, fun g3 => ?_⟩
        · unfold szWd; rw [if_neg g, if_neg g2, if_pos (of_decide_eq_true g3)]
        · have g3 := of_decide_eq_false g3
          unfold szWd; rw [if_neg g, if_neg g2, if_neg g3]
theorem k_eqWorld {A B : Wld} {ma mb : MW} {bs : List Nat} (ha : RdW bs w A ma) (hb : RdW bs w B mb) (hs : SmW A) :
    PureX bs Tryz.prog fn_laws_eqWorld #[.agg (encW A ma).toArray, .agg (encW B mb).toArray] w (.bool (decide (A = B))) :=
  p_laws_eqWorld A.now ma.cO A.cpus.length ma.cC ma.tO A.tasks.length ma.tC ma.gO A.groups.length ma.gC B.now mb.cO B.cpus.length mb.cC mb.tO B.tasks.length mb.tC mb.gO B.groups.length mb.gC fun wr hx => by
    have ha := (ha.ext hx).less (cs := []) (by simp)
    have hb := (hb.ext hx).less (cs := []) (by simp)
    have hm := maxLen_big
    have hc := hs.c
    have ht := hs.t
    have hg := hs.g
    intro _ _ _ _
    refine ⟨fun g => ?_, fun g => ⟨_, k_eqCpuS ha.c hb.c (by omega), fun g2 => ?_, fun g2 => ⟨_, k_eqTaskS ha.t hb.t (by omega), fun g3 => ?_, fun g3 => ⟨_, k_eqGroupS ha.g hb.g hs.gs (by omega), fun g4 => ?_, fun g4 => ?_⟩⟩⟩⟩
    · rw [decide_eq_false fun e => by rw [e] at g; simp at g]
    · rw [decide_eq_false fun e => by rw [e] at g2; simp at g2]
    · rw [decide_eq_false fun e => by rw [e] at g3; simp at g3]
    · rw [decide_eq_false fun e => by rw [e] at g4; simp at g4]
    · have e1 : A.now = B.now := by simpa using g
      have e2 : A.cpus = B.cpus := by simpa using g2
      have e3 : A.tasks = B.tasks := by simpa using g3
      have e4 : A.groups = B.groups := by simpa using g4
      have : A = B := by
        cases A; cases B
        simp only at e1 e2 e3 e4
        rw [e1, e2, e3, e4]
      rw [decide_eq_true this]

/-! ### One's own -/
structure OwnW (base : Nat) (w : World) (W : Wld) (m : MW) : Prop where
  c : Own encC 5 ty_impl_Cpu base w m.cO m.cC W.cpus
  t : Own encT 9 ty_impl_Task base w m.tO m.tC W.tasks
  g : ∃ ps : List (Grp × MG), ps.map (·.1) = W.groups ∧ (fun k : Nat => (gi ps (k : Int)).2) = m.ms ∧ OwnG base w m.gO m.gC ps
theorem OwnG.ext {base : Nat} {o : Option Addr} {cap : Nat} {ps : List (Grp × MG)} {bs : List Nat} (h : OwnG base w o cap ps) (hx : ExtX bs w w') (hb : ∀ x ∈ bs, x < base) : OwnG base w' o cap ps :=
  ⟨h.row.ext hx fun b hm hm' => by have := (h.row.lt b hm).1; have := hb b hm'; omega, fun i a b => (h.each i a b).ext hx fun x hm hm' => by have := ((h.each i a b).lt x hm).1; have := hb x hm'; omega, h.dj⟩
theorem OwnW.ext {base : Nat} {bs : List Nat} (h : OwnW base w W m) (hx : ExtX bs w w') (hb : ∀ x ∈ bs, x < base) : OwnW base w' W m :=
  ⟨h.c.ext hx fun b hm hm' => by have := (h.c.lt b hm).1; have := hb b hm'; omega, h.t.ext hx fun b hm hm' => by have := (h.t.lt b hm).1; have := hb b hm'; omega, by
    obtain ⟨ps, h1, h2, h3⟩ := h.g
    exact ⟨ps, h1, h2, h3.ext hx hb⟩⟩
theorem OwnW.ext0 {base : Nat} (h : OwnW base w W m) (hx : ExtX [] w w') : OwnW base w' W m := h.ext hx (by simp)
theorem OwnW.mono {base base' : Nat} (h : OwnW base w W m) (hb : base' ≤ base) : OwnW base' w W m :=
  ⟨h.c.mono hb, h.t.mono hb, by
    obtain ⟨ps, h1, h2, h3⟩ := h.g
    exact ⟨ps, h1, h2, h3.mono hb⟩⟩
theorem OwnW.rd {base : Nat} {bs : List Nat} (h : OwnW base w W m) (hb : ∀ x ∈ bs, x < base) : RdW bs w W m := by
  obtain ⟨ps, h1, h2, h3⟩ := h.g
  have hr := h3.rd (bs := bs) fun b h1 _ hm => by have := hb b hm; omega
  rw [h1, h2] at hr
  exact ⟨h.c.rd elt_Cpu.len fun b hm hm' => by have := (h.c.lt b hm).1; have := hb b hm'; omega, h.t.rd elt_Task.len fun b hm hm' => by have := (h.t.lt b hm).1; have := hb b hm'; omega, hr⟩
theorem k_toWorld (h : RdW [] w W m) (hs : SmW W) :
    Calls Tryz.prog fn_laws_toWorld #[.agg (encW W m).toArray] w fun e w' => ∃ m', e = .returned (.agg (encW W m').toArray) ∧ OwnW w.heap.size w' W m' ∧ ExtX [] w w' := by
  refine (e_laws_toWorld W.now m.cO W.cpus.length m.cC m.tO W.tasks.length m.tC m.gO W.groups.length m.gC (R := fun v w' => ∃ m', v = .agg (encW W m').toArray ∧ OwnW w.heap.size w' W m' ∧ ExtX [] w w') ?_).mono fun e w' ⟨v, he, m', hv, h1⟩ => ⟨m', by rw [he, hv], h1⟩
  intro b hb b1 hb1 b2 hb2 wr hx hs1
  have hbs : ∀ x ∈ [b, b1, b2], w.heap.size ≤ x := fun x hm => by
    simp only [List.mem_cons, List.not_mem_nil, or_false] at hm
    rcases hm with rfl | rfl | rfl <;> assumption
  refine (k_toCpuS (h.c.ext hx) hs.c).mono fun e w1 ⟨oc, cc, he, hC, hx1⟩ => ⟨_, _, _, he, kept_of hx1 hs1, fun wr1 hy1 hs2 => ?_⟩
  have X1 : ExtX [] w wr1 := (hx.trans hx1).fresh hy1 fun x hm => .inl (hbs x hm)
  have C1 := hC.ext hy1 fun x hm hm' => by have := (hC.lt x hm).1; have := hs1 x hm'; omega
  refine (k_toTaskS (h.t.ext X1) hs.t).mono fun e w2 ⟨ot, ct, he, hT, hx2⟩ => ⟨_, _, _, he, kept_of hx2 hs2, fun wr2 hy2 hs3 => ?_⟩
  have X2 : ExtX [] w wr2 := (X1.trans hx2).fresh hy2 fun x hm => .inl (hbs x hm)
  have C2 := (C1.ext0 hx2).ext hy2 fun x hm hm' => by have := (hC.lt x hm).1; have := hs1 x hm'; omega
  have T2 := hT.ext hy2 fun x hm hm' => by have := (hT.lt x hm).1; have := hs2 x hm'; omega
  refine (k_toGroupS (h.g.ext X2) hs.gs hs.g).mono fun e w3 ⟨og, cg, ps, he, hm, hG, hx3⟩ => ⟨_, _, _, he, kept_of hx3 hs3, fun wr3 hy3 => ?_⟩
  have X3 : ExtX [] w wr3 := (X2.trans hx3).fresh hy3 fun x hm => .inl (hbs x hm)
  have C3 := (C2.ext0 hx3).ext hy3 fun x hm hm' => by have := (hC.lt x hm).1; have := hs1 x hm'; omega
  have T3 := (T2.ext0 hx3).ext hy3 fun x hm hm' => by have := (hT.lt x hm).1; have := hs2 x hm'; omega
  have G3 := hG.ext hy3 hs3
  exact ⟨⟨oc, cc, ot, ct, og, cg, fun k => (gi ps (k : Int)).2⟩, rfl, ⟨C3.mono hx.size, T3.mono X1.size, ps, hm, rfl, G3.mono X2.size⟩, X3⟩
end
/-- What a law over a world knows while it walks: the world it was given. -/
theorem FitW.at {w w' : World} {W : Wld} {m : MW} (ft : FitW w W m) (hx : ExtX [] w w') : RdW [] w' W m := ft.rd.ext hx
end Go.Proofs.YthojnihahmlboaaGreat
