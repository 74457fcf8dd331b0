/- Queues that came in. -/
import Derived.Test.YthihcdljmddgfaaOpen
namespace Go.Proofs.Ythihcdljmddgfaa
open Go.RowKit Go.ChangeShapes
set_option linter.unusedVariables false

section
variable {H : Type} {en : TypeId × Value → H} {w : World} {base : Nat} {spare : Nat → Bool} {held : Bool} {fuel : Nat} {cs : List Value} {x : DataW H × List MemPlace}

theorem u_lEntry : Try.prog.underlying ty_laws_Entry = some (.struct (structFs Try.prog ty_laws_Entry)) := by kernel_rfl
theorem f_lEntry : (structFs Try.prog ty_laws_Entry).toList.map (fun f => (f.type, f.offset)) = [(ty_bool, 0), (ty_int, 1), (ty_int, 2), (ty_int, 3)] := by kernel_rfl
theorem c_lEntry : Try.prog.cellsOf ty_laws_Entry = 4 := by kernel_rfl
theorem u_sl_lEntry : Try.prog.underlying ty_sl_laws_Entry = some (.slice ty_laws_Entry) := by kernel_rfl
theorem c_sl_lEntry : Try.prog.cellsOf ty_sl_laws_Entry = 1 := by kernel_rfl
theorem u_lQueue : Try.prog.underlying ty_laws_Queue = some (.struct (structFs Try.prog ty_laws_Queue)) := by kernel_rfl
theorem f_lQueue : (structFs Try.prog ty_laws_Queue).toList.map (fun f => (f.type, f.offset)) = [(ty_int, 0), (ty_int, 1), (ty_int, 2), (ty_sl_laws_Entry, 3)] := by kernel_rfl
theorem c_lQueue : Try.prog.cellsOf ty_laws_Queue = 4 := by kernel_rfl
theorem u_lQueueOp : Try.prog.underlying ty_laws_QueueOp = some (.struct (structFs Try.prog ty_laws_QueueOp)) := by kernel_rfl
theorem f_lQueueOp : (structFs Try.prog ty_laws_QueueOp).toList.map (fun f => (f.type, f.offset)) = [(ty_int, 0), (ty_int, 1), (ty_int, 2)] := by kernel_rfl
theorem c_lQueueOp : Try.prog.cellsOf ty_laws_QueueOp = 3 := by kernel_rfl
theorem u_sl_lQueueOp : Try.prog.underlying ty_sl_laws_QueueOp = some (.slice ty_laws_QueueOp) := by kernel_rfl

theorem op_entry (h : DataW.trod en Try.prog w base spare held fuel ty_laws_Entry cs = some x) : ∃ e : Ent, cs = encE e := by
  obtain ⟨hl, hp⟩ := tr_struct u_lEntry f_lEntry h
  rw [c_lEntry] at hl
  obtain ⟨a, b, c, d, rfl⟩ := len4 hl
  · skip
    obtain ⟨_, _, h1⟩ := hp (ty_bool, 0) (by simp)
    obtain ⟨_, _, h2⟩ := hp (ty_int, 1) (by simp)
    obtain ⟨_, _, h3⟩ := hp (ty_int, 2) (by simp)
    obtain ⟨_, _, h4⟩ := hp (ty_int, 3) (by simp)
    obtain ⟨n1, e1⟩ := tr_b u_bool h1
    obtain ⟨n2, e2, _⟩ := tr_i u_int h2
    obtain ⟨n3, e3, _⟩ := tr_i u_int h3
    obtain ⟨n4, e4, _⟩ := tr_i u_int h4
    simp only [c_int, c_bool, List.drop, List.take, List.cons.injEq, and_true] at e1 e2 e3 e4
    subst e1; subst e2; subst e3; subst e4
    exact ⟨⟨n1, n2, n3, n4⟩, rfl⟩
theorem op_queueop (h : DataW.trod en Try.prog w base spare held fuel ty_laws_QueueOp cs = some x) : ∃ (D : QOp) (_ : Unit), cs = encO D ∧ True := by
  obtain ⟨hl, hp⟩ := tr_struct u_lQueueOp f_lQueueOp h
  rw [c_lQueueOp] at hl
  obtain ⟨a, b, c, rfl⟩ := len3 hl
  · skip
    obtain ⟨_, _, h1⟩ := hp (ty_int, 0) (by simp)
    obtain ⟨_, _, h2⟩ := hp (ty_int, 1) (by simp)
    obtain ⟨_, _, h3⟩ := hp (ty_int, 2) (by simp)
    obtain ⟨n1, e1, _⟩ := tr_i u_int h1
    obtain ⟨n2, e2, _⟩ := tr_i u_int h2
    obtain ⟨n3, e3, _⟩ := tr_i u_int h3
    simp only [c_int, List.drop, List.take, List.cons.injEq, and_true] at e1 e2 e3
    subst e1; subst e2; subst e3
    exact ⟨⟨n1, n2, n3⟩, (), rfl, trivial⟩
theorem op_ops (h : DataW.trod en Try.prog w base spare held fuel ty_sl_laws_QueueOp cs = some x) : ∃ (o : Option Addr) (cap : Nat) (l : List QOp), cs = [.slice o l.length cap] ∧ l.length ≤ cap ∧ cap ≤ maxLen ∧ RdO [] w o l := by
  obtain ⟨o, cap, l, h1, h2, h3, h4, _⟩ := rd_of (Q := fun _ => True) u_sl_lQueueOp c_lQueueOp (fun _ _ _ h => by obtain ⟨n, _, h1, _⟩ := op_queueop h; exact ⟨n, h1, trivial⟩) h
  exact ⟨o, cap, l, h1, h2, h3, h4⟩
/-- A queue's cells; M says where its entries lie. -/
def encQ (q : Que) (o : Option Addr) (c : Nat) : List Value := [.int .i64 q.floor, .int .i64 q.cur, .int .i64 q.ran, .slice o q.es.length c]
structure FitQ (w : World) (q : Que) (M : Option Addr × Nat) : Prop where
  rd : RdE [] w M.1 q.es
  le : q.es.length ≤ maxLen
theorem op_queue (h : DataW.trod en Try.prog w base spare held fuel ty_laws_Queue cs = some x) : ∃ (D : Que) (M : Option Addr × Nat), cs = encQ D M.1 M.2 ∧ FitQ w D M := by
  obtain ⟨hl, hp⟩ := tr_struct u_lQueue f_lQueue h
  rw [c_lQueue] at hl
  obtain ⟨a, b, c, d, rfl⟩ := len4 hl
  · skip
    obtain ⟨_, _, h1⟩ := hp (ty_int, 0) (by simp)
    obtain ⟨_, _, h2⟩ := hp (ty_int, 1) (by simp)
    obtain ⟨_, _, h3⟩ := hp (ty_int, 2) (by simp)
    obtain ⟨_, _, h4⟩ := hp (ty_sl_laws_Entry, 3) (by simp)
    obtain ⟨n1, e1, _⟩ := tr_i u_int h1
    obtain ⟨n2, e2, _⟩ := tr_i u_int h2
    obtain ⟨n3, e3, _⟩ := tr_i u_int h3
    obtain ⟨o, cap, l, e4, h5, h6, h7, _⟩ := rd_of (Q := fun _ => True) u_sl_lEntry c_lEntry (fun _ _ _ h => by obtain ⟨n, h1⟩ := op_entry h; exact ⟨n, h1, trivial⟩) h4
    simp only [c_int, c_sl_lEntry, List.drop, List.take, List.cons.injEq, and_true] at e1 e2 e3 e4
    subst e1; subst e2; subst e3; subst e4
    exact ⟨⟨n1, n2, n3, l⟩, (o, cap), rfl, h7, by show l.length ≤ _; omega⟩
end
end Go.Proofs.Ythihcdljmddgfaa
