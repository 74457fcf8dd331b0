/- Worlds that came in. -/
import Derived.Test.YthojnihahmlboaaGreatOpG
namespace Go.Proofs.YthojnihahmlboaaGreat
open Go.RowKit Go.ChangeShapes
set_option linter.unusedVariables false
set_option linter.unusedSimpArgs false

section
variable {H : Type} {en : TypeId × Value → H} {w : World} {base : Nat} {spare : Nat → Bool} {held : Bool} {fuel : Nat} {cs : List Value} {x : DataW H × List MemPlace}

theorem u_sl_lCpu : Tryz.prog.underlying ty_sl_laws_Cpu = some (.slice ty_laws_Cpu) := by kernel_rfl
theorem c_sl_lCpu : Tryz.prog.cellsOf ty_sl_laws_Cpu = 1 := by kernel_rfl
theorem u_lCpu : Tryz.prog.underlying ty_laws_Cpu = some (.struct (structFs Tryz.prog ty_laws_Cpu)) := by kernel_rfl
theorem f_lCpu : (structFs Tryz.prog ty_laws_Cpu).toList.map (fun f => (f.type, f.offset)) = [(ty_bool, 0), (ty_int, 1), (ty_int, 2), (ty_int, 3), (ty_int, 4)] := by kernel_rfl
theorem c_lCpu : Tryz.prog.cellsOf ty_laws_Cpu = 5 := by kernel_rfl
theorem op_cpu (h : DataW.trod en Tryz.prog w base spare held fuel ty_laws_Cpu cs = some x) : ∃ s : Cpu, cs = encC s := by
  obtain ⟨hl, hp⟩ := tr_struct u_lCpu f_lCpu h
  rw [c_lCpu] at hl
  obtain ⟨a0, a1, a2, a3, a4, rfl⟩ := len5 hl
  · skip
    obtain ⟨_, _, h0⟩ := hp (ty_bool, 0) (by simp)
    obtain ⟨_, _, h1⟩ := hp (ty_int, 1) (by simp)
    obtain ⟨_, _, h2⟩ := hp (ty_int, 2) (by simp)
    obtain ⟨_, _, h3⟩ := hp (ty_int, 3) (by simp)
    obtain ⟨_, _, h4⟩ := hp (ty_int, 4) (by simp)
    obtain ⟨n0, e0⟩ := tr_b u_bool h0
    obtain ⟨n1, e1, _⟩ := tr_i u_int h1
    obtain ⟨n2, e2, _⟩ := tr_i u_int h2
    obtain ⟨n3, e3, _⟩ := tr_i u_int h3
    obtain ⟨n4, e4, _⟩ := tr_i u_int h4
    simp only [c_int, c_bool, List.drop, List.take, List.cons.injEq, and_true] at e0 e1 e2 e3 e4
    subst e0; subst e1; subst e2; subst e3; subst e4
    exact ⟨⟨n0, n1, n2, n3, n4⟩, rfl⟩
theorem u_sl_lTask : Tryz.prog.underlying ty_sl_laws_Task = some (.slice ty_laws_Task) := by kernel_rfl
theorem c_sl_lTask : Tryz.prog.cellsOf ty_sl_laws_Task = 1 := by kernel_rfl
theorem u_lTask : Tryz.prog.underlying ty_laws_Task = some (.struct (structFs Tryz.prog ty_laws_Task)) := by kernel_rfl
theorem f_lTask : (structFs Tryz.prog ty_laws_Task).toList.map (fun f => (f.type, f.offset)) = [(ty_int, 0), (ty_int, 1), (ty_int, 2), (ty_int, 3), (ty_int, 4), (ty_int, 5), (ty_int, 6), (ty_int, 7), (ty_int, 8)] := by kernel_rfl
theorem c_lTask : Tryz.prog.cellsOf ty_laws_Task = 9 := by kernel_rfl
theorem op_task (h : DataW.trod en Tryz.prog w base spare held fuel ty_laws_Task cs = some x) : ∃ s : Tsk, cs = encT s := by
  obtain ⟨hl, hp⟩ := tr_struct u_lTask f_lTask h
  rw [c_lTask] at hl
  obtain ⟨a0, a1, a2, a3, a4, a5, a6, a7, a8, rfl⟩ := len9 hl
  · skip
    obtain ⟨_, _, h0⟩ := hp (ty_int, 0) (by simp)
    obtain ⟨_, _, h1⟩ := hp (ty_int, 1) (by simp)
    obtain ⟨_, _, h2⟩ := hp (ty_int, 2) (by simp)
    obtain ⟨_, _, h3⟩ := hp (ty_int, 3) (by simp)
    obtain ⟨_, _, h4⟩ := hp (ty_int, 4) (by simp)
    obtain ⟨_, _, h5⟩ := hp (ty_int, 5) (by simp)
    obtain ⟨_, _, h6⟩ := hp (ty_int, 6) (by simp)
    obtain ⟨_, _, h7⟩ := hp (ty_int, 7) (by simp)
    obtain ⟨_, _, h8⟩ := hp (ty_int, 8) (by simp)
    obtain ⟨n0, e0, _⟩ := tr_i u_int h0
    obtain ⟨n1, e1, _⟩ := tr_i u_int h1
    obtain ⟨n2, e2, _⟩ := tr_i u_int h2
    obtain ⟨n3, e3, _⟩ := tr_i u_int h3
    obtain ⟨n4, e4, _⟩ := tr_i u_int h4
    obtain ⟨n5, e5, _⟩ := tr_i u_int h5
    obtain ⟨n6, e6, _⟩ := tr_i u_int h6
    obtain ⟨n7, e7, _⟩ := tr_i u_int h7
    obtain ⟨n8, e8, _⟩ := tr_i u_int h8
    simp only [c_int, c_bool, List.drop, List.take, List.cons.injEq, and_true] at e0 e1 e2 e3 e4 e5 e6 e7 e8
    subst e0; subst e1; subst e2; subst e3; subst e4; subst e5; subst e6; subst e7; subst e8
    exact ⟨⟨n0, n1, n2, n3, n4, n5, n6, n7, n8⟩, rfl⟩
theorem u_lWorld : Tryz.prog.underlying ty_laws_World = some (.struct (structFs Tryz.prog ty_laws_World)) := by kernel_rfl
theorem f_lWorld : (structFs Tryz.prog ty_laws_World).toList.map (fun f => (f.type, f.offset)) = [(ty_int, 0), (ty_sl_laws_Cpu, 1), (ty_sl_laws_Task, 2), (ty_sl_laws_Group, 3)] := by kernel_rfl
theorem c_lWorld : Tryz.prog.cellsOf ty_laws_World = 4 := by kernel_rfl
theorem c_sl_lGroup : Tryz.prog.cellsOf ty_sl_laws_Group = 1 := by kernel_rfl
/-- Where a world's slices lie. -/
structure MW where
  cO : Option Addr
  cC : Nat
  tO : Option Addr
  tC : Nat
  gO : Option Addr
  gC : Nat
  ms : Nat → MG
def encW (W : Wld) (m : MW) : List Value := [.int .i64 W.now, .slice m.cO W.cpus.length m.cC, .slice m.tO W.tasks.length m.tC, .slice m.gO W.groups.length m.gC]
structure RdW (bs : List Nat) (w : World) (W : Wld) (m : MW) : Prop where
  c : RdC bs w m.cO W.cpus
  t : RdT bs w m.tO W.tasks
  g : RdG bs w m.gO W.groups m.ms
theorem RdW.ext {bs : List Nat} {w w' : World} {W : Wld} {m : MW} (h : RdW bs w W m) (hx : ExtX bs w w') : RdW bs w' W m := ⟨h.c.ext hx, h.t.ext hx, h.g.ext hx⟩
theorem RdW.less {bs cs : List Nat} {w : World} {W : Wld} {m : MW} (h : RdW bs w W m) (hs : ∀ x ∈ cs, x ∈ bs) : RdW cs w W m := ⟨h.c.less hs, h.t.less hs, h.g.less hs⟩
theorem RdW.wide {bs cs : List Nat} {w : World} {W : Wld} {m : MW} (h : RdW bs w W m) (hs : ∀ x ∈ cs, x ∈ bs ∨ w.heap.size ≤ x) : RdW cs w W m := ⟨h.c.wide hs, h.t.wide hs, h.g.wide hs⟩
structure FitW (w : World) (W : Wld) (m : MW) : Prop where
  rd : RdW [] w W m
  lc : W.cpus.length ≤ maxLen
  lt : W.tasks.length ≤ maxLen
  lg : W.groups.length ≤ maxLen
  ft : ∀ i : Int, 0 ≤ i → i < (W.groups.length : Int) → FitG (gi W.groups i)
theorem op_world (h : DataW.trod en Tryz.prog w base spare held fuel ty_laws_World cs = some x) : ∃ (D : Wld) (M : MW), cs = encW D M ∧ FitW w D M := by
  obtain ⟨hl, hp⟩ := tr_struct u_lWorld f_lWorld h
  rw [c_lWorld] at hl
  obtain ⟨a, b, c, d, rfl⟩ := len4 hl
  · skip
    obtain ⟨_, _, h1⟩ := hp (ty_int, 0) (by simp)
    obtain ⟨_, _, h2⟩ := hp (ty_sl_laws_Cpu, 1) (by simp)
    obtain ⟨_, _, h3⟩ := hp (ty_sl_laws_Task, 2) (by simp)
    obtain ⟨_, _, h4⟩ := hp (ty_sl_laws_Group, 3) (by simp)
    obtain ⟨n1, e1, _⟩ := tr_i u_int h1
    obtain ⟨oc, cc, lc, e2, p2, q2, r2, _⟩ := rd_of (Q := fun _ => True) u_sl_lCpu c_lCpu (fun _ _ _ h => by obtain ⟨n, h1⟩ := op_cpu h; exact ⟨n, h1, trivial⟩) h2
    obtain ⟨ot, ct, lt, e3, p3, q3, r3, _⟩ := rd_of (Q := fun _ => True) u_sl_lTask c_lTask (fun _ _ _ h => by obtain ⟨n, h1⟩ := op_task h; exact ⟨n, h1, trivial⟩) h3
    obtain ⟨og, cg, lg, ms, e4, p4, q4, r4, f4⟩ := op_groups h4
    simp only [c_int, c_sl_lCpu, c_sl_lTask, c_sl_lGroup, List.drop, List.take, List.cons.injEq, and_true] at e1 e2 e3 e4
    subst e1; subst e2; subst e3; subst e4
    exact ⟨⟨n1, lc, lt, lg⟩, ⟨oc, cc, ot, ct, og, cg, ms⟩, rfl, ⟨r2, r3, r4⟩, by show lc.length ≤ _; omega, by show lt.length ≤ _; omega, by show lg.length ≤ _; omega, f4⟩
end
end Go.Proofs.YthojnihahmlboaaGreat
