/- Printed by wip/tools/vc.py: what a function's text asks for. -/
import Derived.Test.YtopaajbfnpmjcaaTab
namespace Go.Proofs.Ytopaajbfnpmjcaa
open Go.RowKit
set_option maxRecDepth 100000
noncomputable def c_spec_l20Open : Cfg := { P := Try.prog, T := tblGet tbl, pf := pfT, ef := efT, vis := [10], n := 11, pm := false }
noncomputable def s_spec_l20Open : List (Nat × LSpec) := []
def V_spec_l20Open (codeO : Option Addr) (codeL : Nat) (codeC : Nat) (w : World) (R : Value → World → Prop) : Prop :=
    ((decide (((codeL : Nat) : Int) > 2000)) = true →
    (0 ≤ (0 : Int) ∧ (0 : Int) ≤ 2000 ∧ 2000 ≤ (codeC : Int)) ∧
    (∀ b wb, ExtX [] w wb → w.heap.size ≤ b → wb.heap[b]? = some (Obj.cells ([.slice (if codeC = Int.toNat 0 then codeO else codeO.map (·.add (Int.toNat 0 * 1))) (Int.toNat 2000 - Int.toNat 0) (codeC - Int.toNat 0), .int .i64 0] : List Value).toArray ty_spec_l20Rd (0, 0)) → b ∉ ([] : List Nat) →
    (∀ wr, ExtX [] wb wr → R (.pointer ((some (Addr.mk b 0 none)).map (·.add 0))) wr))) ∧
    ((decide (((codeL : Nat) : Int) > 2000)) = false →
    (∀ b1 wb1, ExtX [] w wb1 → w.heap.size ≤ b1 → wb1.heap[b1]? = some (Obj.cells ([.slice codeO codeL codeC, .int .i64 0] : List Value).toArray ty_spec_l20Rd (0, 0)) → b1 ∉ ([] : List Nat) →
    (∀ wr1, ExtX [] wb1 wr1 → R (.pointer ((some (Addr.mk b1 0 none)).map (·.add 0))) wr1)))
theorem v_spec_l20Open (codeO : Option Addr) (codeL : Nat) (codeC : Nat) (w : World) (R : Value → World → Prop) : evFn c_spec_l20Open s_spec_l20Open [.slice codeO codeL codeC] (bodyOf Try.f38) Try.f38.results.toList w R = V_spec_l20Open codeO codeL codeC w R := by kernel_rfl
theorem e_spec_l20Open (codeO : Option Addr) (codeL : Nat) (codeC : Nat) {w : World} {R : Value → World → Prop} (hvc : V_spec_l20Open codeO codeL codeC w R) : Calls Try.prog fn_spec_l20Open #[.slice codeO codeL codeC] w fun e0 wr0 => ∃ v0, e0 = .returned v0 ∧ R v0 wr0 :=
  eff_of_ev (C := c_spec_l20Open) (sps := s_spec_l20Open) (body := bodyOf Try.f38) (env _ _ _) Try.func38 rfl rfl (of_decide_eq_true (by kernel_rfl)) (of_decide_eq_true (by kernel_rfl)) rfl ((v_spec_l20Open codeO codeL codeC w _).mpr hvc)
noncomputable def c_spec_l20Rd_pick : Cfg := { P := Try.prog, T := tblGet tbl, pf := pfT, ef := efT, vis := [], n := 99, pm := false }
noncomputable def s_spec_l20Rd_pick : List (Nat × LSpec) := []
def V_spec_l20Rd_pick (r : Option Addr) (n : Int) (w : World) (R : Value → World → Prop) : Prop :=
    r.isSome = true ∧
    (∃ (p : Int),
    CellsX [] w r (0 + 1) [.int .i64 p] ∧
    InR .i64 (p + 1) ∧
    r.isSome = true ∧
    WrX [] w r (0 + 1) 1 ∧
    ((decide (n < 1)) = false → r.isSome = true) ∧
    (∃ (bO : Option Addr) (bL : Nat) (bC : Nat),
    ((decide (n < 1)) = false → CellsX [] (sto w r (0 + 1) [.int .i64 (p + 1)]) r (0 + 0) [.slice bO bL bC]) ∧
    (((decide (n < 1)) || (((bL : Nat) : Int) == 0)) = true →
    (∀ wr, ExtX [] (sto w r (0 + 1) [.int .i64 (p + 1)]) wr → R (.int .i64 0) wr)) ∧
    (((decide (n < 1)) || (((bL : Nat) : Int) == 0)) = false →
    r.isSome = true ∧
    (∃ (p1 : Int),
    CellsX [] (sto w r (0 + 1) [.int .i64 (p + 1)]) r (0 + 1) [.int .i64 p1] ∧
    InR .i64 (p1 - 1) ∧
    r.isSome = true ∧
    (∃ (b1O : Option Addr) (b1L : Nat) (b1C : Nat),
    CellsX [] (sto w r (0 + 1) [.int .i64 (p + 1)]) r (0 + 0) [.slice b1O b1L b1C] ∧
    ((decide (p1 - 1 < ((b1L : Nat) : Int))) = true →
    r.isSome = true ∧
    (∃ (b2O : Option Addr) (b2L : Nat) (b2C : Nat),
    CellsX [] (sto w r (0 + 1) [.int .i64 (p + 1)]) r (0 + 0) [.slice b2O b2L b2C] ∧
    Ix b2O b2L (p1 - 1) ∧
    (∃ (x : Int),
    CellsX [] (sto w r (0 + 1) [.int .i64 (p + 1)]) b2O (Int.toNat (p1 - 1) * 1) [.int .u8 x] ∧
    InR .i64 x ∧
    n ≠ 0 ∧
    (∀ wr1, ExtX [] (sto w r (0 + 1) [.int .i64 (p + 1)]) wr1 → R (.int .i64 (Int.tmod x n)) wr1)))) ∧
    ((decide (p1 - 1 < ((b1L : Nat) : Int))) = false →
    r.isSome = true ∧
    (∃ (b3O : Option Addr) (b3L : Nat) (b3C : Nat),
    CellsX [] (sto w r (0 + 1) [.int .i64 (p + 1)]) r (0 + 0) [.slice b3O b3L b3C] ∧
    r.isSome = true ∧
    (∃ (b4O : Option Addr) (b4L : Nat) (b4C : Nat),
    CellsX [] (sto w r (0 + 1) [.int .i64 (p + 1)]) r (0 + 0) [.slice b4O b4L b4C] ∧
    ((b4L : Nat) : Int) ≠ 0 ∧
    Ix b3O b3L (Int.tmod (p1 - 1) ((b4L : Nat) : Int)) ∧
    (∃ (x1 : Int),
    CellsX [] (sto w r (0 + 1) [.int .i64 (p + 1)]) b3O (Int.toNat (Int.tmod (p1 - 1) ((b4L : Nat) : Int)) * 1) [.int .u8 x1] ∧
    InR .i64 x1 ∧
    InR .i64 (x1 * 131) ∧
    r.isSome = true ∧
    (∃ (b5O : Option Addr) (b5L : Nat) (b5C : Nat),
    CellsX [] (sto w r (0 + 1) [.int .i64 (p + 1)]) r (0 + 0) [.slice b5O b5L b5C] ∧
    InR .i64 ((p1 - 1) * 7) ∧
    InR .i64 (((p1 - 1) * 7) + 3) ∧
    r.isSome = true ∧
    (∃ (b6O : Option Addr) (b6L : Nat) (b6C : Nat),
    CellsX [] (sto w r (0 + 1) [.int .i64 (p + 1)]) r (0 + 0) [.slice b6O b6L b6C] ∧
    ((b6L : Nat) : Int) ≠ 0 ∧
    Ix b5O b5L (Int.tmod (((p1 - 1) * 7) + 3) ((b6L : Nat) : Int)) ∧
    (∃ (x2 : Int),
    CellsX [] (sto w r (0 + 1) [.int .i64 (p + 1)]) b5O (Int.toNat (Int.tmod (((p1 - 1) * 7) + 3) ((b6L : Nat) : Int)) * 1) [.int .u8 x2] ∧
    InR .i64 x2 ∧
    InR .i64 (x2 * 1117) ∧
    InR .i64 ((x1 * 131) + (x2 * 1117)) ∧
    InR .i64 ((p1 - 1) * 29) ∧
    InR .i64 (((x1 * 131) + (x2 * 1117)) + ((p1 - 1) * 29)) ∧
    r.isSome = true ∧
    (∃ (b7O : Option Addr) (b7L : Nat) (b7C : Nat),
    CellsX [] (sto w r (0 + 1) [.int .i64 (p + 1)]) r (0 + 0) [.slice b7O b7L b7C] ∧
    (((b7L : Nat) : Int) ≠ 0 ∧ InR .i64 (Int.tdiv (p1 - 1) ((b7L : Nat) : Int))) ∧
    InR .i64 ((Int.tdiv (p1 - 1) ((b7L : Nat) : Int)) * 53) ∧
    InR .i64 ((((x1 * 131) + (x2 * 1117)) + ((p1 - 1) * 29)) + ((Int.tdiv (p1 - 1) ((b7L : Nat) : Int)) * 53)) ∧
    ((64 : Int) ≠ 0 ∧ InR .i64 (Int.tdiv ((((x1 * 131) + (x2 * 1117)) + ((p1 - 1) * 29)) + ((Int.tdiv (p1 - 1) ((b7L : Nat) : Int)) * 53)) 64)) ∧
    n ≠ 0 ∧
    (∀ wr2, ExtX [] (sto w r (0 + 1) [.int .i64 (p + 1)]) wr2 → R (.int .i64 (Int.tmod (BitI .xor .i64 ((((x1 * 131) + (x2 * 1117)) + ((p1 - 1) * 29)) + ((Int.tdiv (p1 - 1) ((b7L : Nat) : Int)) * 53)) (Int.tdiv ((((x1 * 131) + (x2 * 1117)) + ((p1 - 1) * 29)) + ((Int.tdiv (p1 - 1) ((b7L : Nat) : Int)) * 53)) 64)) n)) wr2))))))))))))))
theorem v_spec_l20Rd_pick (r : Option Addr) (n : Int) (w : World) (R : Value → World → Prop) : evFn c_spec_l20Rd_pick s_spec_l20Rd_pick [.pointer r, .int .i64 n] (bodyOf Try.f39) Try.f39.results.toList w R = V_spec_l20Rd_pick r n w R := by kernel_rfl
theorem e_spec_l20Rd_pick (r : Option Addr) (n : Int) {w : World} {R : Value → World → Prop} (hvc : V_spec_l20Rd_pick r n w R) : Calls Try.prog fn_spec_l20Rd_pick #[.pointer r, .int .i64 n] w fun e0 wr0 => ∃ v0, e0 = .returned v0 ∧ R v0 wr0 :=
  eff_of_ev (C := c_spec_l20Rd_pick) (sps := s_spec_l20Rd_pick) (body := bodyOf Try.f39) (env _ _ _) Try.func39 rfl rfl (of_decide_eq_true (by kernel_rfl)) (of_decide_eq_true (by kernel_rfl)) rfl ((v_spec_l20Rd_pick r n w _).mpr hvc)
noncomputable def c_spec_l20Rd_big : Cfg := { P := Try.prog, T := tblGet tbl, pf := pfT, ef := efT, vis := [], n := 15, pm := false }
noncomputable def s_spec_l20Rd_big : List (Nat × LSpec) := [(3, { chg := [(3, .int .i64), (4, .int .i64)], chgL := [], keep := [0] })]
def V_spec_l20Rd_big (r : Option Addr) (w : World) (R : Value → World → Prop) : Prop :=
    (∃ (xInv : List Value → World → Prop) (mu : List Value → World → Nat), (∀ wr, ExtX [] w wr → (∀ bq ∈ ([] : List Nat), bq < wr.heap.size) → xInv [.int .i64 0, .int .i64 0] wr) ∧
    ∀ (n : Int) (i : Int) wv, (∀ bq ∈ ([] : List Nat), bq < wv.heap.size) → xInv [.int .i64 n, .int .i64 i] wv →
    ((decide (i < 7)) = true →
    InR .i64 (n * 256) ∧
    (∀ wr1, ExtX [] wv wr1 → (∀ bq ∈ ([] : List Nat), bq < wr1.heap.size) → 
    Calls Try.prog fn_spec_l20Rd_pick #[.pointer r, .int .i64 256] wr1 fun e wv1 =>
    (∃ (pick : Int),
    e = .returned (.int .i64 pick) ∧ Kept [] wr1 wv1 ∧
    InR .i64 ((n * 256) + pick) ∧
    InR .i64 (i + 1) ∧
    (∀ wr2, ExtX [] wv1 wr2 → (∀ bq ∈ ([] : List Nat), bq < wr2.heap.size) → xInv [.int .i64 ((n * 256) + pick), .int .i64 (i + 1)] wr2 ∧ mu [.int .i64 ((n * 256) + pick), .int .i64 (i + 1)] wr2 < mu [.int .i64 n, .int .i64 i] wv)))) ∧
    ((decide (i < 7)) = false →
    (∀ wr3, ExtX [] wv wr3 → R (.int .i64 n) wr3)))
theorem v_spec_l20Rd_big (r : Option Addr) (w : World) (R : Value → World → Prop) : evFn c_spec_l20Rd_big s_spec_l20Rd_big [.pointer r] (bodyOf Try.f40) Try.f40.results.toList w R = V_spec_l20Rd_big r w R := by kernel_rfl
theorem e_spec_l20Rd_big (r : Option Addr) {w : World} {R : Value → World → Prop} (hvc : V_spec_l20Rd_big r w R) : Calls Try.prog fn_spec_l20Rd_big #[.pointer r] w fun e0 wr0 => ∃ v0, e0 = .returned v0 ∧ R v0 wr0 :=
  eff_of_ev (C := c_spec_l20Rd_big) (sps := s_spec_l20Rd_big) (body := bodyOf Try.f40) (env _ _ _) Try.func40 rfl rfl (of_decide_eq_true (by kernel_rfl)) (of_decide_eq_true (by kernel_rfl)) rfl ((v_spec_l20Rd_big r w _).mpr hvc)
noncomputable def c_spec_l20Rd_weight : Cfg := { P := Try.prog, T := tblGet tbl, pf := pfT, ef := efT, vis := [], n := 14, pm := false }
noncomputable def s_spec_l20Rd_weight : List (Nat × LSpec) := []
def V_spec_l20Rd_weight (r : Option Addr) (w : World) (R : Value → World → Prop) : Prop :=
    (∀ wr, ExtX [] w wr → (∀ bq ∈ ([] : List Nat), bq < wr.heap.size) → 
    Calls Try.prog fn_spec_l20Rd_pick #[.pointer r, .int .i64 24] wr fun e wv =>
    (∃ (pick : Int),
    e = .returned (.int .i64 pick) ∧ Kept [] wr wv ∧
    ((pick == 0) = true →
    (∀ wr1, ExtX [] wv wr1 → (∀ bq ∈ ([] : List Nat), bq < wr1.heap.size) → 
    Calls Try.prog fn_spec_l20Rd_pick #[.pointer r, .int .i64 24] wr1 fun e1 wv1 =>
    (∃ (pick1 : Int),
    e1 = .returned (.int .i64 pick1) ∧ Kept [] wr1 wv1 ∧
    InR .i64 (pick1 - 2) ∧
    (∀ wr2, ExtX [] wv1 wr2 → R (.int .i64 (pick1 - 2)) wr2)))) ∧
    ((pick == 0) = false →
    (∀ b, wv.heap.size ≤ b →
    (∀ wr3, ExtX [] wv wr3 → (∀ bq ∈ ([b] : List Nat), bq < wr3.heap.size) → 
    Calls Try.prog fn_spec_l20Rd_pick #[.pointer r, .int .i64 10] wr3 fun e2 wv2 =>
    (∃ (pick2 : Int),
    e2 = .returned (.int .i64 pick2) ∧ Kept [b] wr3 wv2 ∧
    (0 ≤ pick2 ∧ pick2 < ((10 : Nat) : Int)) ∧
    (∃ (x : Int),
    (0 ≤ pick2 ∧ ([.int .i64 1, .int .i64 2, .int .i64 3, .int .i64 5, .int .i64 7, .int .i64 10, .int .i64 10, .int .i64 13, .int .i64 19, .int .i64 20] : List Value)[Int.toNat pick2 + 0]? = some (.int .i64 x)) ∧
    (∀ wr4, ExtX [b] wv2 wr4 → R (.int .i64 x) wr4))))))))
theorem v_spec_l20Rd_weight (r : Option Addr) (w : World) (R : Value → World → Prop) : evFn c_spec_l20Rd_weight s_spec_l20Rd_weight [.pointer r] (bodyOf Try.f41) Try.f41.results.toList w R = V_spec_l20Rd_weight r w R := by kernel_rfl
theorem e_spec_l20Rd_weight (r : Option Addr) {w : World} {R : Value → World → Prop} (hvc : V_spec_l20Rd_weight r w R) : Calls Try.prog fn_spec_l20Rd_weight #[.pointer r] w fun e0 wr0 => ∃ v0, e0 = .returned v0 ∧ R v0 wr0 :=
  eff_of_ev (C := c_spec_l20Rd_weight) (sps := s_spec_l20Rd_weight) (body := bodyOf Try.f41) (env _ _ _) Try.func41 rfl rfl (of_decide_eq_true (by kernel_rfl)) (of_decide_eq_true (by kernel_rfl)) rfl ((v_spec_l20Rd_weight r w _).mpr hvc)
noncomputable def c_spec_DrawVirtualStep : Cfg := { P := Try.prog, T := tblGet tbl, pf := pfT, ef := efT, vis := [], n := 19, pm := false }
noncomputable def s_spec_DrawVirtualStep : List (Nat × LSpec) := []
def V_spec_DrawVirtualStep (codeO : Option Addr) (codeL : Nat) (codeC : Nat) (w : World) (R : Value → World → Prop) : Prop :=
    (∀ wr, ExtX [] w wr → (∀ bq ∈ ([] : List Nat), bq < wr.heap.size) → 
    Calls Try.prog fn_spec_l20Open #[.slice codeO codeL codeC] wr fun e wv =>
    (∃ (l20Ope : Option Addr),
    e = .returned (.pointer l20Ope) ∧ Kept [] wr wv ∧
    (∀ wr1, ExtX [] wv wr1 → (∀ bq ∈ ([] : List Nat), bq < wr1.heap.size) → 
    Calls Try.prog fn_spec_l20Rd_pick #[.pointer l20Ope, .int .i64 200] wr1 fun e1 wv1 =>
    (∃ (pick : Int),
    e1 = .returned (.int .i64 pick) ∧ Kept [] wr1 wv1 ∧
    (∀ wr2, ExtX [] wv1 wr2 → (∀ bq ∈ ([] : List Nat), bq < wr2.heap.size) → 
    Calls Try.prog fn_spec_l20Rd_big #[.pointer l20Ope] wr2 fun e2 wv2 =>
    (∃ (big : Int),
    e2 = .returned (.int .i64 big) ∧ Kept [] wr2 wv2 ∧
    (200000000 : Int) ≠ 0 ∧
    ((∀ b, wv2.heap.size ≤ b →
    (∀ wr3, ExtX [] wv2 wr3 → (∀ bq ∈ ([b] : List Nat), bq < wr3.heap.size) → 
    Calls Try.prog fn_spec_l20Rd_pick #[.pointer l20Ope, .int .i64 5] wr3 fun e3 wv3 =>
    (∃ (pick1 : Int),
    e3 = .returned (.int .i64 pick1) ∧ Kept [b] wr3 wv3 ∧
    (0 ≤ pick1 ∧ pick1 < ((5 : Nat) : Int)) ∧
    (∃ (x : Int),
    (0 ≤ pick1 ∧ ([.int .i64 pick, .int .i64 100000000, .int .i64 100000001, .int .i64 (-1), .int .i64 (Int.tmod big 200000000)] : List Value)[Int.toNat pick1 + 0]? = some (.int .i64 x)) ∧
    (∀ wr4, ExtX [b] wv3 wr4 → (∀ bq ∈ ([b] : List Nat), bq < wr4.heap.size) → 
    Calls Try.prog fn_spec_l20Rd_weight #[.pointer l20Ope] wr4 fun e4 wv4 =>
    (∃ (weight : Int),
    e4 = .returned (.int .i64 weight) ∧ Kept [b] wr4 wv4 ∧
    (some (ty_int, ([.int .i64 pick, .int .i64 100000000, .int .i64 100000001, .int .i64 (-1), .int .i64 (Int.tmod big 200000000)] : List Value)) = some (ty_int, ([.int .i64 pick, .int .i64 100000000, .int .i64 100000001, .int .i64 (-1), .int .i64 (Int.tmod big 200000000)] : List Value))) ∧
    (∀ wr5, ExtX [b] wv4 wr5 → R (.tuple #[.int .i64 x, .int .i64 weight]) wr5)))))))) ∧
    ((∀ wr6, ExtX [] wv2 wr6 → (∀ bq ∈ ([] : List Nat), bq < wr6.heap.size) → 
    Calls Try.prog fn_spec_l20Rd_pick #[.pointer l20Ope, .int .i64 5] wr6 fun e5 wv5 =>
    (∃ (pick2 : Int),
    e5 = .returned (.int .i64 pick2) ∧ Kept [] wr6 wv5 ∧
    ((∀ b1, wv5.heap.size ≤ b1 →
    (0 ≤ pick2 ∧ pick2 < ((5 : Nat) : Int)) ∧
    (∃ (x1 : Int),
    (0 ≤ pick2 ∧ ([.int .i64 pick, .int .i64 100000000, .int .i64 100000001, .int .i64 (-1), .int .i64 (Int.tmod big 200000000)] : List Value)[Int.toNat pick2 + 0]? = some (.int .i64 x1)) ∧
    (∀ wr7, ExtX [] wv5 wr7 → (∀ bq ∈ ([b1] : List Nat), bq < wr7.heap.size) → 
    Calls Try.prog fn_spec_l20Rd_weight #[.pointer l20Ope] wr7 fun e6 wv6 =>
    (∃ (weight1 : Int),
    e6 = .returned (.int .i64 weight1) ∧ Kept [b1] wr7 wv6 ∧
    (some (ty_int, ([.int .i64 pick, .int .i64 100000000, .int .i64 100000001, .int .i64 (-1), .int .i64 (Int.tmod big 200000000)] : List Value)) = some (ty_int, ([.int .i64 pick, .int .i64 100000000, .int .i64 100000001, .int .i64 (-1), .int .i64 (Int.tmod big 200000000)] : List Value))) ∧
    (∀ wr8, ExtX [b1] wv6 wr8 → R (.tuple #[.int .i64 x1, .int .i64 weight1]) wr8)))))) ∧
    ((∀ wr9, ExtX [] wv5 wr9 → (∀ bq ∈ ([] : List Nat), bq < wr9.heap.size) → 
    Calls Try.prog fn_spec_l20Rd_weight #[.pointer l20Ope] wr9 fun e7 wv7 =>
    (∃ (weight2 : Int),
    e7 = .returned (.int .i64 weight2) ∧ Kept [] wr9 wv7 ∧
    (∀ b2, wv7.heap.size ≤ b2 →
    (0 ≤ pick2 ∧ pick2 < ((5 : Nat) : Int)) ∧
    (∃ (x2 : Int),
    (0 ≤ pick2 ∧ ([.int .i64 pick, .int .i64 100000000, .int .i64 100000001, .int .i64 (-1), .int .i64 (Int.tmod big 200000000)] : List Value)[Int.toNat pick2 + 0]? = some (.int .i64 x2)) ∧
    (∀ wr10, ExtX [] wv7 wr10 → R (.tuple #[.int .i64 x2, .int .i64 weight2]) wr10)))))))))))))))
theorem v_spec_DrawVirtualStep (codeO : Option Addr) (codeL : Nat) (codeC : Nat) (w : World) (R : Value → World → Prop) : evFn c_spec_DrawVirtualStep s_spec_DrawVirtualStep [.slice codeO codeL codeC] (bodyOf Try.f8) Try.f8.results.toList w R = V_spec_DrawVirtualStep codeO codeL codeC w R := by kernel_rfl
theorem e_spec_DrawVirtualStep (codeO : Option Addr) (codeL : Nat) (codeC : Nat) {w : World} {R : Value → World → Prop} (hvc : V_spec_DrawVirtualStep codeO codeL codeC w R) : Calls Try.prog fn_spec_DrawVirtualStep #[.slice codeO codeL codeC] w fun e0 wr0 => ∃ v0, e0 = .returned v0 ∧ R v0 wr0 :=
  eff_of_ev (C := c_spec_DrawVirtualStep) (sps := s_spec_DrawVirtualStep) (body := bodyOf Try.f8) (env _ _ _) Try.func8 rfl rfl (of_decide_eq_true (by kernel_rfl)) (of_decide_eq_true (by kernel_rfl)) rfl ((v_spec_DrawVirtualStep codeO codeL codeC w _).mpr hvc)
noncomputable def c_impl_inRange : Cfg := { P := Try.prog, T := tblGet tbl, pf := pfT, ef := efT, vis := [], n := 15, pm := true }
noncomputable def s_impl_inRange : List (Nat × LSpec) := []
def V_impl_inRange (n : Int) (least : Int) (most : Int) (w : World) (R : Value → World → Prop) : Prop :=
    R (.bool ((decide (n ≥ least)) && (decide (n ≤ most)))) w
theorem v_impl_inRange (n : Int) (least : Int) (most : Int) (w : World) (R : Value → World → Prop) : evFn c_impl_inRange s_impl_inRange [.int .i64 n, .int .i64 least, .int .i64 most] (bodyOf Try.f42) Try.f42.results.toList w R = V_impl_inRange n least most w R := by kernel_rfl
theorem p_impl_inRange (n : Int) (least : Int) (most : Int) {w : World} {bs : List Nat} {ret : Value} (hvc : ∀ wr0, ExtX bs w wr0 → V_impl_inRange n least most wr0 fun v0 _ => v0 = ret) : PureX bs Try.prog fn_impl_inRange #[.int .i64 n, .int .i64 least, .int .i64 most] w ret :=
  pure_of_ev (C := c_impl_inRange) (sps := s_impl_inRange) (body := bodyOf Try.f42) (env _ _ _) Try.func42 rfl rfl (of_decide_eq_true (by kernel_rfl)) (of_decide_eq_true (by kernel_rfl)) rfl fun wr0 hx0 => (v_impl_inRange n least most wr0 _).mpr (hvc wr0 hx0)
noncomputable def c_impl_weightOk : Cfg := { P := Try.prog, T := tblGet tbl, pf := pfT, ef := efT, vis := [], n := 5, pm := true }
noncomputable def s_impl_weightOk : List (Nat × LSpec) := []
def V_impl_weightOk (weight : Int) (w : World) (R : Value → World → Prop) : Prop :=
    (∃ (inRang : Bool),
    PureX [] Try.prog fn_impl_inRange #[.int .i64 weight, .int .i64 1, .int .i64 20] w (.bool inRang) ∧
    R (.bool inRang) w)
theorem v_impl_weightOk (weight : Int) (w : World) (R : Value → World → Prop) : evFn c_impl_weightOk s_impl_weightOk [.int .i64 weight] (bodyOf Try.f43) Try.f43.results.toList w R = V_impl_weightOk weight w R := by kernel_rfl
theorem p_impl_weightOk (weight : Int) {w : World} {bs : List Nat} {ret : Value} (hvc : ∀ wr0, ExtX bs w wr0 → V_impl_weightOk weight wr0 fun v0 _ => v0 = ret) : PureX bs Try.prog fn_impl_weightOk #[.int .i64 weight] w ret :=
  pure_of_ev (C := c_impl_weightOk) (sps := s_impl_weightOk) (body := bodyOf Try.f43) (env _ _ _) Try.func43 rfl rfl (of_decide_eq_true (by kernel_rfl)) (of_decide_eq_true (by kernel_rfl)) rfl fun wr0 hx0 => (v_impl_weightOk weight wr0 _).mpr (hvc wr0 hx0)
noncomputable def c_impl_weightSteps : Cfg := { P := Try.prog, T := tblGet tbl, pf := pfT, ef := efT, vis := [], n := 12, pm := true }
noncomputable def s_impl_weightSteps : List (Nat × LSpec) := [(3, { chg := [(2, .int .i64)], chgL := [(1, [.int .i64, .int .i64, .int .i64, .int .i64, .int .i64, .int .i64, .int .i64, .int .i64, .int .i64, .int .i64, .int .i64, .int .i64, .int .i64, .int .i64, .int .i64, .int .i64, .int .i64, .int .i64, .int .i64, .int .i64, .int .i64])], keep := [0, 1] })]
def V_impl_weightSteps (w : World) (R : Value → World → Prop) : Prop :=
    (∀ b, w.heap.size ≤ b →
    (∀ b1, w.heap.size ≤ b1 →
    (∃ (xInv1 : List Value → Prop) (mu1 : List Value → Nat), xInv1 [.int .i64 1, .int .i64 0, .int .i64 0, .int .i64 0, .int .i64 0, .int .i64 0, .int .i64 0, .int .i64 0, .int .i64 0, .int .i64 0, .int .i64 0, .int .i64 0, .int .i64 0, .int .i64 0, .int .i64 0, .int .i64 0, .int .i64 0, .int .i64 0, .int .i64 0, .int .i64 0, .int .i64 0, .int .i64 0] ∧
    ∀ (weight1 : Int) (l : Int) (l1 : Int) (l2 : Int) (l3 : Int) (l4 : Int) (l5 : Int) (l6 : Int) (l7 : Int) (l8 : Int) (l9 : Int) (l10 : Int) (l11 : Int) (l12 : Int) (l13 : Int) (l14 : Int) (l15 : Int) (l16 : Int) (l17 : Int) (l18 : Int) (l19 : Int) (l20 : Int), xInv1 [.int .i64 weight1, .int .i64 l, .int .i64 l1, .int .i64 l2, .int .i64 l3, .int .i64 l4, .int .i64 l5, .int .i64 l6, .int .i64 l7, .int .i64 l8, .int .i64 l9, .int .i64 l10, .int .i64 l11, .int .i64 l12, .int .i64 l13, .int .i64 l14, .int .i64 l15, .int .i64 l16, .int .i64 l17, .int .i64 l18, .int .i64 l19, .int .i64 l20] →
    ((decide (weight1 ≤ 20)) = true →
    (weight1 ≠ 0 ∧ InR .i64 (Int.tdiv 232792560 weight1)) ∧
    (0 ≤ weight1 ∧ weight1 < ((21 : Nat) : Int)) ∧
    (Int.toNat weight1 + 0 < 21) ∧
    (∃ (l21 : Int) (l22 : Int) (l23 : Int) (l24 : Int) (l25 : Int) (l26 : Int) (l27 : Int) (l28 : Int) (l29 : Int) (l30 : Int) (l31 : Int) (l32 : Int) (l33 : Int) (l34 : Int) (l35 : Int) (l36 : Int) (l37 : Int) (l38 : Int) (l39 : Int) (l40 : Int) (l41 : Int),
    ([.int .i64 l, .int .i64 l1, .int .i64 l2, .int .i64 l3, .int .i64 l4, .int .i64 l5, .int .i64 l6, .int .i64 l7, .int .i64 l8, .int .i64 l9, .int .i64 l10, .int .i64 l11, .int .i64 l12, .int .i64 l13, .int .i64 l14, .int .i64 l15, .int .i64 l16, .int .i64 l17, .int .i64 l18, .int .i64 l19, .int .i64 l20] : List Value).set (Int.toNat weight1 + 0) (.int .i64 (Int.tdiv 232792560 weight1)) = [.int .i64 l21, .int .i64 l22, .int .i64 l23, .int .i64 l24, .int .i64 l25, .int .i64 l26, .int .i64 l27, .int .i64 l28, .int .i64 l29, .int .i64 l30, .int .i64 l31, .int .i64 l32, .int .i64 l33, .int .i64 l34, .int .i64 l35, .int .i64 l36, .int .i64 l37, .int .i64 l38, .int .i64 l39, .int .i64 l40, .int .i64 l41] ∧
    InR .i64 (weight1 + 1) ∧
    xInv1 [.int .i64 (weight1 + 1), .int .i64 l21, .int .i64 l22, .int .i64 l23, .int .i64 l24, .int .i64 l25, .int .i64 l26, .int .i64 l27, .int .i64 l28, .int .i64 l29, .int .i64 l30, .int .i64 l31, .int .i64 l32, .int .i64 l33, .int .i64 l34, .int .i64 l35, .int .i64 l36, .int .i64 l37, .int .i64 l38, .int .i64 l39, .int .i64 l40, .int .i64 l41] ∧ mu1 [.int .i64 (weight1 + 1), .int .i64 l21, .int .i64 l22, .int .i64 l23, .int .i64 l24, .int .i64 l25, .int .i64 l26, .int .i64 l27, .int .i64 l28, .int .i64 l29, .int .i64 l30, .int .i64 l31, .int .i64 l32, .int .i64 l33, .int .i64 l34, .int .i64 l35, .int .i64 l36, .int .i64 l37, .int .i64 l38, .int .i64 l39, .int .i64 l40, .int .i64 l41] < mu1 [.int .i64 weight1, .int .i64 l, .int .i64 l1, .int .i64 l2, .int .i64 l3, .int .i64 l4, .int .i64 l5, .int .i64 l6, .int .i64 l7, .int .i64 l8, .int .i64 l9, .int .i64 l10, .int .i64 l11, .int .i64 l12, .int .i64 l13, .int .i64 l14, .int .i64 l15, .int .i64 l16, .int .i64 l17, .int .i64 l18, .int .i64 l19, .int .i64 l20])) ∧
    ((decide (weight1 ≤ 20)) = false →
    R (.agg #[.int .i64 l, .int .i64 l1, .int .i64 l2, .int .i64 l3, .int .i64 l4, .int .i64 l5, .int .i64 l6, .int .i64 l7, .int .i64 l8, .int .i64 l9, .int .i64 l10, .int .i64 l11, .int .i64 l12, .int .i64 l13, .int .i64 l14, .int .i64 l15, .int .i64 l16, .int .i64 l17, .int .i64 l18, .int .i64 l19, .int .i64 l20]) w))))
theorem v_impl_weightSteps (w : World) (R : Value → World → Prop) : evFn c_impl_weightSteps s_impl_weightSteps [] (bodyOf Try.f44) Try.f44.results.toList w R = V_impl_weightSteps w R := by kernel_rfl
theorem p_impl_weightSteps {w : World} {bs : List Nat} {ret : Value} (hvc : ∀ wr0, ExtX bs w wr0 → V_impl_weightSteps wr0 fun v0 _ => v0 = ret) : PureX bs Try.prog fn_impl_weightSteps #[] w ret :=
  pure_of_ev (C := c_impl_weightSteps) (sps := s_impl_weightSteps) (body := bodyOf Try.f44) (env _ _ _) Try.func44 rfl rfl (of_decide_eq_true (by kernel_rfl)) (of_decide_eq_true (by kernel_rfl)) rfl fun wr0 hx0 => (v_impl_weightSteps wr0 _).mpr (hvc wr0 hx0)
noncomputable def c_impl_VirtualStep : Cfg := { P := Try.prog, T := tblGet tbl, pf := pfT, ef := efT, vis := [], n := 18, pm := true }
noncomputable def s_impl_VirtualStep : List (Nat × LSpec) := []
def V_impl_VirtualStep (units : Int) (weight : Int) (w : World) (R : Value → World → Prop) : Prop :=
    (∃ (inRang : Bool),
    PureX [] Try.prog fn_impl_inRange #[.int .i64 units, .int .i64 0, .int .i64 100000000] w (.bool inRang) ∧
    (∃ (weight1 : Bool),
    ((!inRang) = false → PureX [] Try.prog fn_impl_weightOk #[.int .i64 weight] w (.bool weight1)) ∧
    (((!inRang) || (!weight1)) = true →
    R (.int .i64 0) w) ∧
    (((!inRang) || (!weight1)) = false →
    (∃ (weight2 : Int) (weight3 : Int) (weight4 : Int) (weight5 : Int) (weight6 : Int) (weight7 : Int) (weight8 : Int) (weight9 : Int) (weight10 : Int) (weight11 : Int) (weight12 : Int) (weight13 : Int) (weight14 : Int) (weight15 : Int) (weight16 : Int) (weight17 : Int) (weight18 : Int) (weight19 : Int) (weight20 : Int) (weight21 : Int) (weight22 : Int),
    PureX [] Try.prog fn_impl_weightSteps #[] w (.agg #[.int .i64 weight2, .int .i64 weight3, .int .i64 weight4, .int .i64 weight5, .int .i64 weight6, .int .i64 weight7, .int .i64 weight8, .int .i64 weight9, .int .i64 weight10, .int .i64 weight11, .int .i64 weight12, .int .i64 weight13, .int .i64 weight14, .int .i64 weight15, .int .i64 weight16, .int .i64 weight17, .int .i64 weight18, .int .i64 weight19, .int .i64 weight20, .int .i64 weight21, .int .i64 weight22]) ∧
    (∃ (x : Int),
    (0 ≤ weight ∧ weight < ((21 : Nat) : Int) ∧ (#[.int .i64 weight2, .int .i64 weight3, .int .i64 weight4, .int .i64 weight5, .int .i64 weight6, .int .i64 weight7, .int .i64 weight8, .int .i64 weight9, .int .i64 weight10, .int .i64 weight11, .int .i64 weight12, .int .i64 weight13, .int .i64 weight14, .int .i64 weight15, .int .i64 weight16, .int .i64 weight17, .int .i64 weight18, .int .i64 weight19, .int .i64 weight20, .int .i64 weight21, .int .i64 weight22] : Array Value)[Int.toNat weight]? = some (.int .i64 x)) ∧
    InR .i64 (units * x) ∧
    R (.int .i64 (units * x)) w)))))
theorem v_impl_VirtualStep (units : Int) (weight : Int) (w : World) (R : Value → World → Prop) : evFn c_impl_VirtualStep s_impl_VirtualStep [.int .i64 units, .int .i64 weight] (bodyOf Try.f9) Try.f9.results.toList w R = V_impl_VirtualStep units weight w R := by kernel_rfl
theorem p_impl_VirtualStep (units : Int) (weight : Int) {w : World} {bs : List Nat} {ret : Value} (hvc : ∀ wr0, ExtX bs w wr0 → V_impl_VirtualStep units weight wr0 fun v0 _ => v0 = ret) : PureX bs Try.prog fn_impl_VirtualStep #[.int .i64 units, .int .i64 weight] w ret :=
  pure_of_ev (C := c_impl_VirtualStep) (sps := s_impl_VirtualStep) (body := bodyOf Try.f9) (env _ _ _) Try.func9 rfl rfl (of_decide_eq_true (by kernel_rfl)) (of_decide_eq_true (by kernel_rfl)) rfl fun wr0 hx0 => (v_impl_VirtualStep units weight wr0 _).mpr (hvc wr0 hx0)
noncomputable def c_spec_l1In : Cfg := { P := Try.prog, T := tblGet tbl, pf := pfT, ef := efT, vis := [], n := 15, pm := true }
noncomputable def s_spec_l1In : List (Nat × LSpec) := []
def V_spec_l1In (n : Int) (low : Int) (high : Int) (w : World) (R : Value → World → Prop) : Prop :=
    R (.bool ((decide (n ≥ low)) && (decide (n ≤ high)))) w
theorem v_spec_l1In (n : Int) (low : Int) (high : Int) (w : World) (R : Value → World → Prop) : evFn c_spec_l1In s_spec_l1In [.int .i64 n, .int .i64 low, .int .i64 high] (bodyOf Try.f46) Try.f46.results.toList w R = V_spec_l1In n low high w R := by kernel_rfl
theorem p_spec_l1In (n : Int) (low : Int) (high : Int) {w : World} {bs : List Nat} {ret : Value} (hvc : ∀ wr0, ExtX bs w wr0 → V_spec_l1In n low high wr0 fun v0 _ => v0 = ret) : PureX bs Try.prog fn_spec_l1In #[.int .i64 n, .int .i64 low, .int .i64 high] w ret :=
  pure_of_ev (C := c_spec_l1In) (sps := s_spec_l1In) (body := bodyOf Try.f46) (env _ _ _) Try.func46 rfl rfl (of_decide_eq_true (by kernel_rfl)) (of_decide_eq_true (by kernel_rfl)) rfl fun wr0 hx0 => (v_spec_l1In n low high wr0 _).mpr (hvc wr0 hx0)
noncomputable def c_spec_l1Weight : Cfg := { P := Try.prog, T := tblGet tbl, pf := pfT, ef := efT, vis := [], n := 5, pm := true }
noncomputable def s_spec_l1Weight : List (Nat × LSpec) := []
def V_spec_l1Weight (wv : Int) (w : World) (R : Value → World → Prop) : Prop :=
    (∃ (l1In : Bool),
    PureX [] Try.prog fn_spec_l1In #[.int .i64 wv, .int .i64 1, .int .i64 20] w (.bool l1In) ∧
    R (.bool l1In) w)
theorem v_spec_l1Weight (wv : Int) (w : World) (R : Value → World → Prop) : evFn c_spec_l1Weight s_spec_l1Weight [.int .i64 wv] (bodyOf Try.f45) Try.f45.results.toList w R = V_spec_l1Weight wv w R := by kernel_rfl
theorem p_spec_l1Weight (wv : Int) {w : World} {bs : List Nat} {ret : Value} (hvc : ∀ wr0, ExtX bs w wr0 → V_spec_l1Weight wv wr0 fun v0 _ => v0 = ret) : PureX bs Try.prog fn_spec_l1Weight #[.int .i64 wv] w ret :=
  pure_of_ev (C := c_spec_l1Weight) (sps := s_spec_l1Weight) (body := bodyOf Try.f45) (env _ _ _) Try.func45 rfl rfl (of_decide_eq_true (by kernel_rfl)) (of_decide_eq_true (by kernel_rfl)) rfl fun wr0 hx0 => (v_spec_l1Weight wv wr0 _).mpr (hvc wr0 hx0)
noncomputable def c_spec_VirtualStep : Cfg := { P := Try.prog, T := tblGet tbl, pf := pfT, ef := efT, vis := [], n := 17, pm := true }
noncomputable def s_spec_VirtualStep : List (Nat × LSpec) := []
def V_spec_VirtualStep (units : Int) (weight : Int) (w : World) (R : Value → World → Prop) : Prop :=
    (∃ (l1Weig : Bool),
    PureX [] Try.prog fn_spec_l1Weight #[.int .i64 weight] w (.bool l1Weig) ∧
    (∃ (l1In : Bool),
    ((!l1Weig) = false → PureX [] Try.prog fn_spec_l1In #[.int .i64 units, .int .i64 0, .int .i64 100000000] w (.bool l1In)) ∧
    (((!l1Weig) || (!l1In)) = true →
    R (.int .i64 0) w) ∧
    (((!l1Weig) || (!l1In)) = false →
    (weight ≠ 0 ∧ InR .i64 (Int.tdiv 232792560 weight)) ∧
    InR .i64 (units * (Int.tdiv 232792560 weight)) ∧
    R (.int .i64 (units * (Int.tdiv 232792560 weight))) w)))
theorem v_spec_VirtualStep (units : Int) (weight : Int) (w : World) (R : Value → World → Prop) : evFn c_spec_VirtualStep s_spec_VirtualStep [.int .i64 units, .int .i64 weight] (bodyOf Try.f10) Try.f10.results.toList w R = V_spec_VirtualStep units weight w R := by kernel_rfl
theorem p_spec_VirtualStep (units : Int) (weight : Int) {w : World} {bs : List Nat} {ret : Value} (hvc : ∀ wr0, ExtX bs w wr0 → V_spec_VirtualStep units weight wr0 fun v0 _ => v0 = ret) : PureX bs Try.prog fn_spec_VirtualStep #[.int .i64 units, .int .i64 weight] w ret :=
  pure_of_ev (C := c_spec_VirtualStep) (sps := s_spec_VirtualStep) (body := bodyOf Try.f10) (env _ _ _) Try.func10 rfl rfl (of_decide_eq_true (by kernel_rfl)) (of_decide_eq_true (by kernel_rfl)) rfl fun wr0 hx0 => (v_spec_VirtualStep units weight wr0 _).mpr (hvc wr0 hx0)
noncomputable def c_impl_VirtualUnits : Cfg := { P := Try.prog, T := tblGet tbl, pf := pfT, ef := efT, vis := [], n := 23, pm := true }
noncomputable def s_impl_VirtualUnits : List (Nat × LSpec) := []
def V_impl_VirtualUnits (v : Int) (weight : Int) (w : World) (R : Value → World → Prop) : Prop :=
    (∃ (inRang : Bool),
    PureX [] Try.prog fn_impl_inRange #[.int .i64 v, .int .i64 1, .int .i64 300000000000000000] w (.bool inRang) ∧
    (∃ (weight1 : Bool),
    ((!inRang) = false → PureX [] Try.prog fn_impl_weightOk #[.int .i64 weight] w (.bool weight1)) ∧
    (((!inRang) || (!weight1)) = true →
    R (.int .i64 0) w) ∧
    (((!inRang) || (!weight1)) = false →
    (∃ (weight2 : Int) (weight3 : Int) (weight4 : Int) (weight5 : Int) (weight6 : Int) (weight7 : Int) (weight8 : Int) (weight9 : Int) (weight10 : Int) (weight11 : Int) (weight12 : Int) (weight13 : Int) (weight14 : Int) (weight15 : Int) (weight16 : Int) (weight17 : Int) (weight18 : Int) (weight19 : Int) (weight20 : Int) (weight21 : Int) (weight22 : Int),
    PureX [] Try.prog fn_impl_weightSteps #[] w (.agg #[.int .i64 weight2, .int .i64 weight3, .int .i64 weight4, .int .i64 weight5, .int .i64 weight6, .int .i64 weight7, .int .i64 weight8, .int .i64 weight9, .int .i64 weight10, .int .i64 weight11, .int .i64 weight12, .int .i64 weight13, .int .i64 weight14, .int .i64 weight15, .int .i64 weight16, .int .i64 weight17, .int .i64 weight18, .int .i64 weight19, .int .i64 weight20, .int .i64 weight21, .int .i64 weight22]) ∧
    (∃ (x : Int),
    (0 ≤ weight ∧ weight < ((21 : Nat) : Int) ∧ (#[.int .i64 weight2, .int .i64 weight3, .int .i64 weight4, .int .i64 weight5, .int .i64 weight6, .int .i64 weight7, .int .i64 weight8, .int .i64 weight9, .int .i64 weight10, .int .i64 weight11, .int .i64 weight12, .int .i64 weight13, .int .i64 weight14, .int .i64 weight15, .int .i64 weight16, .int .i64 weight17, .int .i64 weight18, .int .i64 weight19, .int .i64 weight20, .int .i64 weight21, .int .i64 weight22] : Array Value)[Int.toNat weight]? = some (.int .i64 x)) ∧
    InR .i64 (v + x) ∧
    InR .i64 ((v + x) - 1) ∧
    (x ≠ 0 ∧ InR .i64 (Int.tdiv ((v + x) - 1) x)) ∧
    R (.int .i64 (Int.tdiv ((v + x) - 1) x)) w)))))
theorem v_impl_VirtualUnits (v : Int) (weight : Int) (w : World) (R : Value → World → Prop) : evFn c_impl_VirtualUnits s_impl_VirtualUnits [.int .i64 v, .int .i64 weight] (bodyOf Try.f11) Try.f11.results.toList w R = V_impl_VirtualUnits v weight w R := by kernel_rfl
theorem p_impl_VirtualUnits (v : Int) (weight : Int) {w : World} {bs : List Nat} {ret : Value} (hvc : ∀ wr0, ExtX bs w wr0 → V_impl_VirtualUnits v weight wr0 fun v0 _ => v0 = ret) : PureX bs Try.prog fn_impl_VirtualUnits #[.int .i64 v, .int .i64 weight] w ret :=
  pure_of_ev (C := c_impl_VirtualUnits) (sps := s_impl_VirtualUnits) (body := bodyOf Try.f11) (env _ _ _) Try.func11 rfl rfl (of_decide_eq_true (by kernel_rfl)) (of_decide_eq_true (by kernel_rfl)) rfl fun wr0 hx0 => (v_impl_VirtualUnits v weight wr0 _).mpr (hvc wr0 hx0)
noncomputable def c_spec_LagMost : Cfg := { P := Try.prog, T := tblGet tbl, pf := pfT, ef := efT, vis := [], n := 5, pm := true }
noncomputable def s_spec_LagMost : List (Nat × LSpec) := []
def V_spec_LagMost (weight : Int) (w : World) (R : Value → World → Prop) : Prop :=
    (∃ (xVirtua : Int),
    PureX [] Try.prog fn_spec_VirtualStep #[.int .i64 149, .int .i64 weight] w (.int .i64 xVirtua) ∧
    R (.int .i64 xVirtua) w)
theorem v_spec_LagMost (weight : Int) (w : World) (R : Value → World → Prop) : evFn c_spec_LagMost s_spec_LagMost [.int .i64 weight] (bodyOf Try.f47) Try.f47.results.toList w R = V_spec_LagMost weight w R := by kernel_rfl
theorem p_spec_LagMost (weight : Int) {w : World} {bs : List Nat} {ret : Value} (hvc : ∀ wr0, ExtX bs w wr0 → V_spec_LagMost weight wr0 fun v0 _ => v0 = ret) : PureX bs Try.prog fn_spec_LagMost #[.int .i64 weight] w ret :=
  pure_of_ev (C := c_spec_LagMost) (sps := s_spec_LagMost) (body := bodyOf Try.f47) (env _ _ _) Try.func47 rfl rfl (of_decide_eq_true (by kernel_rfl)) (of_decide_eq_true (by kernel_rfl)) rfl fun wr0 hx0 => (v_spec_LagMost weight wr0 _).mpr (hvc wr0 hx0)
noncomputable def c_spec_DrawLagCut : Cfg := { P := Try.prog, T := tblGet tbl, pf := pfT, ef := efT, vis := [], n := 30, pm := false }
noncomputable def s_spec_DrawLagCut : List (Nat × LSpec) := []
def V_spec_DrawLagCut (codeO : Option Addr) (codeL : Nat) (codeC : Nat) (w : World) (R : Value → World → Prop) : Prop :=
    (∀ wr, ExtX [] w wr → (∀ bq ∈ ([] : List Nat), bq < wr.heap.size) → 
    Calls Try.prog fn_spec_l20Open #[.slice codeO codeL codeC] wr fun e wv =>
    (∃ (l20Ope : Option Addr),
    e = .returned (.pointer l20Ope) ∧ Kept [] wr wv ∧
    (∀ wr1, ExtX [] wv wr1 → (∀ bq ∈ ([] : List Nat), bq < wr1.heap.size) → 
    Calls Try.prog fn_spec_l20Rd_weight #[.pointer l20Ope] wr1 fun e1 wv1 =>
    (∃ (weight : Int),
    e1 = .returned (.int .i64 weight) ∧ Kept [] wr1 wv1 ∧
    (∀ wr2, ExtX [] wv1 wr2 → (∀ bq ∈ ([] : List Nat), bq < wr2.heap.size) → 
    Calls Try.prog fn_spec_l20Rd_big #[.pointer l20Ope] wr2 fun e2 wv2 =>
    (∃ (big : Int),
    e2 = .returned (.int .i64 big) ∧ Kept [] wr2 wv2 ∧
    (∀ wr3, ExtX [] wv2 wr3 → (∀ bq ∈ ([] : List Nat), bq < wr3.heap.size) → 
    Calls Try.prog fn_spec_l20Rd_big #[.pointer l20Ope] wr3 fun e3 wv3 =>
    (∃ (big1 : Int),
    e3 = .returned (.int .i64 big1) ∧ Kept [] wr3 wv3 ∧
    InR .i64 (0 - big1) ∧
    (∃ (xLagMos : Int),
    PureX [] Try.prog fn_spec_LagMost #[.int .i64 weight] wv3 (.int .i64 xLagMos) ∧
    (∃ (xLagMos1 : Int),
    PureX [] Try.prog fn_spec_LagMost #[.int .i64 weight] wv3 (.int .i64 xLagMos1) ∧
    InR .i64 (xLagMos1 + 1) ∧
    (∀ wr4, ExtX [] wv3 wr4 → (∀ bq ∈ ([] : List Nat), bq < wr4.heap.size) → 
    Calls Try.prog fn_spec_l20Rd_pick #[.pointer l20Ope, .int .i64 200] wr4 fun e4 wv4 =>
    (∃ (pick : Int),
    e4 = .returned (.int .i64 pick) ∧ Kept [] wr4 wv4 ∧
    (∃ (xVirtua : Int),
    PureX [] Try.prog fn_spec_VirtualStep #[.int .i64 pick, .int .i64 weight] wv4 (.int .i64 xVirtua) ∧
    (∀ b, wv4.heap.size ≤ b →
    (∀ wr5, ExtX [] wv4 wr5 → (∀ bq ∈ ([b] : List Nat), bq < wr5.heap.size) → 
    Calls Try.prog fn_spec_l20Rd_pick #[.pointer l20Ope, .int .i64 6] wr5 fun e5 wv5 =>
    (∃ (pick1 : Int),
    e5 = .returned (.int .i64 pick1) ∧ Kept [b] wr5 wv5 ∧
    (0 ≤ pick1 ∧ pick1 < ((6 : Nat) : Int)) ∧
    (∃ (x : Int),
    (0 ≤ pick1 ∧ ([.int .i64 big, .int .i64 (0 - big1), .int .i64 xLagMos, .int .i64 (xLagMos1 + 1), .int .i64 xVirtua, .int .i64 0] : List Value)[Int.toNat pick1 + 0]? = some (.int .i64 x)) ∧
    (∀ wr6, ExtX [b] wv5 wr6 → R (.tuple #[.int .i64 x, .int .i64 weight]) wr6))))))))))))))))))
theorem v_spec_DrawLagCut (codeO : Option Addr) (codeL : Nat) (codeC : Nat) (w : World) (R : Value → World → Prop) : evFn c_spec_DrawLagCut s_spec_DrawLagCut [.slice codeO codeL codeC] (bodyOf Try.f12) Try.f12.results.toList w R = V_spec_DrawLagCut codeO codeL codeC w R := by kernel_rfl
theorem e_spec_DrawLagCut (codeO : Option Addr) (codeL : Nat) (codeC : Nat) {w : World} {R : Value → World → Prop} (hvc : V_spec_DrawLagCut codeO codeL codeC w R) : Calls Try.prog fn_spec_DrawLagCut #[.slice codeO codeL codeC] w fun e0 wr0 => ∃ v0, e0 = .returned v0 ∧ R v0 wr0 :=
  eff_of_ev (C := c_spec_DrawLagCut) (sps := s_spec_DrawLagCut) (body := bodyOf Try.f12) (env _ _ _) Try.func12 rfl rfl (of_decide_eq_true (by kernel_rfl)) (of_decide_eq_true (by kernel_rfl)) rfl ((v_spec_DrawLagCut codeO codeL codeC w _).mpr hvc)
noncomputable def c_impl_LagMost : Cfg := { P := Try.prog, T := tblGet tbl, pf := pfT, ef := efT, vis := [], n := 5, pm := true }
noncomputable def s_impl_LagMost : List (Nat × LSpec) := []
def V_impl_LagMost (weight : Int) (w : World) (R : Value → World → Prop) : Prop :=
    (∃ (xVirtua : Int),
    PureX [] Try.prog fn_impl_VirtualStep #[.int .i64 149, .int .i64 weight] w (.int .i64 xVirtua) ∧
    R (.int .i64 xVirtua) w)
theorem v_impl_LagMost (weight : Int) (w : World) (R : Value → World → Prop) : evFn c_impl_LagMost s_impl_LagMost [.int .i64 weight] (bodyOf Try.f15) Try.f15.results.toList w R = V_impl_LagMost weight w R := by kernel_rfl
theorem p_impl_LagMost (weight : Int) {w : World} {bs : List Nat} {ret : Value} (hvc : ∀ wr0, ExtX bs w wr0 → V_impl_LagMost weight wr0 fun v0 _ => v0 = ret) : PureX bs Try.prog fn_impl_LagMost #[.int .i64 weight] w ret :=
  pure_of_ev (C := c_impl_LagMost) (sps := s_impl_LagMost) (body := bodyOf Try.f15) (env _ _ _) Try.func15 rfl rfl (of_decide_eq_true (by kernel_rfl)) (of_decide_eq_true (by kernel_rfl)) rfl fun wr0 hx0 => (v_impl_LagMost weight wr0 _).mpr (hvc wr0 hx0)
noncomputable def c_impl_LagCut : Cfg := { P := Try.prog, T := tblGet tbl, pf := pfT, ef := efT, vis := [], n := 10, pm := true }
noncomputable def s_impl_LagCut : List (Nat × LSpec) := []
def V_impl_LagCut (lag : Int) (weight : Int) (w : World) (R : Value → World → Prop) : Prop :=
    (∃ (xLagMos : Int),
    PureX [] Try.prog fn_impl_LagMost #[.int .i64 weight] w (.int .i64 xLagMos) ∧
    R (.int .i64 (if (if xLagMos < lag then xLagMos else lag) > 0 then (if xLagMos < lag then xLagMos else lag) else 0)) w)
theorem v_impl_LagCut (lag : Int) (weight : Int) (w : World) (R : Value → World → Prop) : evFn c_impl_LagCut s_impl_LagCut [.int .i64 lag, .int .i64 weight] (bodyOf Try.f13) Try.f13.results.toList w R = V_impl_LagCut lag weight w R := by kernel_rfl
theorem p_impl_LagCut (lag : Int) (weight : Int) {w : World} {bs : List Nat} {ret : Value} (hvc : ∀ wr0, ExtX bs w wr0 → V_impl_LagCut lag weight wr0 fun v0 _ => v0 = ret) : PureX bs Try.prog fn_impl_LagCut #[.int .i64 lag, .int .i64 weight] w ret :=
  pure_of_ev (C := c_impl_LagCut) (sps := s_impl_LagCut) (body := bodyOf Try.f13) (env _ _ _) Try.func13 rfl rfl (of_decide_eq_true (by kernel_rfl)) (of_decide_eq_true (by kernel_rfl)) rfl fun wr0 hx0 => (v_impl_LagCut lag weight wr0 _).mpr (hvc wr0 hx0)
noncomputable def c_spec_l1Min : Cfg := { P := Try.prog, T := tblGet tbl, pf := pfT, ef := efT, vis := [], n := 10, pm := true }
noncomputable def s_spec_l1Min : List (Nat × LSpec) := []
def V_spec_l1Min (a : Int) (b : Int) (w : World) (R : Value → World → Prop) : Prop :=
    ((decide (a < b)) = true →
    R (.int .i64 a) w) ∧
    ((decide (a < b)) = false →
    R (.int .i64 b) w)
theorem v_spec_l1Min (a : Int) (b : Int) (w : World) (R : Value → World → Prop) : evFn c_spec_l1Min s_spec_l1Min [.int .i64 a, .int .i64 b] (bodyOf Try.f48) Try.f48.results.toList w R = V_spec_l1Min a b w R := by kernel_rfl
theorem p_spec_l1Min (a : Int) (b : Int) {w : World} {bs : List Nat} {ret : Value} (hvc : ∀ wr0, ExtX bs w wr0 → V_spec_l1Min a b wr0 fun v0 _ => v0 = ret) : PureX bs Try.prog fn_spec_l1Min #[.int .i64 a, .int .i64 b] w ret :=
  pure_of_ev (C := c_spec_l1Min) (sps := s_spec_l1Min) (body := bodyOf Try.f48) (env _ _ _) Try.func48 rfl rfl (of_decide_eq_true (by kernel_rfl)) (of_decide_eq_true (by kernel_rfl)) rfl fun wr0 hx0 => (v_spec_l1Min a b wr0 _).mpr (hvc wr0 hx0)
noncomputable def c_spec_l1Max : Cfg := { P := Try.prog, T := tblGet tbl, pf := pfT, ef := efT, vis := [], n := 10, pm := true }
noncomputable def s_spec_l1Max : List (Nat × LSpec) := []
def V_spec_l1Max (a : Int) (b : Int) (w : World) (R : Value → World → Prop) : Prop :=
    ((decide (a > b)) = true →
    R (.int .i64 a) w) ∧
    ((decide (a > b)) = false →
    R (.int .i64 b) w)
theorem v_spec_l1Max (a : Int) (b : Int) (w : World) (R : Value → World → Prop) : evFn c_spec_l1Max s_spec_l1Max [.int .i64 a, .int .i64 b] (bodyOf Try.f49) Try.f49.results.toList w R = V_spec_l1Max a b w R := by kernel_rfl
theorem p_spec_l1Max (a : Int) (b : Int) {w : World} {bs : List Nat} {ret : Value} (hvc : ∀ wr0, ExtX bs w wr0 → V_spec_l1Max a b wr0 fun v0 _ => v0 = ret) : PureX bs Try.prog fn_spec_l1Max #[.int .i64 a, .int .i64 b] w ret :=
  pure_of_ev (C := c_spec_l1Max) (sps := s_spec_l1Max) (body := bodyOf Try.f49) (env _ _ _) Try.func49 rfl rfl (of_decide_eq_true (by kernel_rfl)) (of_decide_eq_true (by kernel_rfl)) rfl fun wr0 hx0 => (v_spec_l1Max a b wr0 _).mpr (hvc wr0 hx0)
noncomputable def c_spec_LagCut : Cfg := { P := Try.prog, T := tblGet tbl, pf := pfT, ef := efT, vis := [], n := 13, pm := true }
noncomputable def s_spec_LagCut : List (Nat × LSpec) := []
def V_spec_LagCut (lag : Int) (weight : Int) (w : World) (R : Value → World → Prop) : Prop :=
    (∃ (l1Weig : Bool),
    PureX [] Try.prog fn_spec_l1Weight #[.int .i64 weight] w (.bool l1Weig) ∧
    ((!l1Weig) = true →
    R (.int .i64 0) w) ∧
    ((!l1Weig) = false →
    (∃ (l1Max : Int),
    PureX [] Try.prog fn_spec_l1Max #[.int .i64 lag, .int .i64 0] w (.int .i64 l1Max) ∧
    (∃ (xLagMos : Int),
    PureX [] Try.prog fn_spec_LagMost #[.int .i64 weight] w (.int .i64 xLagMos) ∧
    (∃ (l1Min : Int),
    PureX [] Try.prog fn_spec_l1Min #[.int .i64 l1Max, .int .i64 xLagMos] w (.int .i64 l1Min) ∧
    R (.int .i64 l1Min) w)))))
theorem v_spec_LagCut (lag : Int) (weight : Int) (w : World) (R : Value → World → Prop) : evFn c_spec_LagCut s_spec_LagCut [.int .i64 lag, .int .i64 weight] (bodyOf Try.f14) Try.f14.results.toList w R = V_spec_LagCut lag weight w R := by kernel_rfl
theorem p_spec_LagCut (lag : Int) (weight : Int) {w : World} {bs : List Nat} {ret : Value} (hvc : ∀ wr0, ExtX bs w wr0 → V_spec_LagCut lag weight wr0 fun v0 _ => v0 = ret) : PureX bs Try.prog fn_spec_LagCut #[.int .i64 lag, .int .i64 weight] w ret :=
  pure_of_ev (C := c_spec_LagCut) (sps := s_spec_LagCut) (body := bodyOf Try.f14) (env _ _ _) Try.func14 rfl rfl (of_decide_eq_true (by kernel_rfl)) (of_decide_eq_true (by kernel_rfl)) rfl fun wr0 hx0 => (v_spec_LagCut lag weight wr0 _).mpr (hvc wr0 hx0)
noncomputable def c_impl_NiceOf : Cfg := { P := Try.prog, T := tblGet tbl, pf := pfT, ef := efT, vis := [], n := 9, pm := true }
noncomputable def s_impl_NiceOf : List (Nat × LSpec) := []
def V_impl_NiceOf (weight : Int) (w : World) (R : Value → World → Prop) : Prop :=
    (∃ (weight1 : Bool),
    PureX [] Try.prog fn_impl_weightOk #[.int .i64 weight] w (.bool weight1) ∧
    ((!weight1) = true →
    R (.tuple #[.int .i64 0, .bool false]) w) ∧
    ((!weight1) = false →
    InR .i64 (10 - weight) ∧
    R (.tuple #[.int .i64 (10 - weight), .bool true]) w))
theorem v_impl_NiceOf (weight : Int) (w : World) (R : Value → World → Prop) : evFn c_impl_NiceOf s_impl_NiceOf [.int .i64 weight] (bodyOf Try.f16) Try.f16.results.toList w R = V_impl_NiceOf weight w R := by kernel_rfl
theorem p_impl_NiceOf (weight : Int) {w : World} {bs : List Nat} {ret : Value} (hvc : ∀ wr0, ExtX bs w wr0 → V_impl_NiceOf weight wr0 fun v0 _ => v0 = ret) : PureX bs Try.prog fn_impl_NiceOf #[.int .i64 weight] w ret :=
  pure_of_ev (C := c_impl_NiceOf) (sps := s_impl_NiceOf) (body := bodyOf Try.f16) (env _ _ _) Try.func16 rfl rfl (of_decide_eq_true (by kernel_rfl)) (of_decide_eq_true (by kernel_rfl)) rfl fun wr0 hx0 => (v_impl_NiceOf weight wr0 _).mpr (hvc wr0 hx0)
noncomputable def c_impl_niceOk : Cfg := { P := Try.prog, T := tblGet tbl, pf := pfT, ef := efT, vis := [], n := 5, pm := true }
noncomputable def s_impl_niceOk : List (Nat × LSpec) := []
def V_impl_niceOk (nice : Int) (w : World) (R : Value → World → Prop) : Prop :=
    (∃ (inRang : Bool),
    PureX [] Try.prog fn_impl_inRange #[.int .i64 nice, .int .i64 (-10), .int .i64 9] w (.bool inRang) ∧
    R (.bool inRang) w)
theorem v_impl_niceOk (nice : Int) (w : World) (R : Value → World → Prop) : evFn c_impl_niceOk s_impl_niceOk [.int .i64 nice] (bodyOf Try.f50) Try.f50.results.toList w R = V_impl_niceOk nice w R := by kernel_rfl
theorem p_impl_niceOk (nice : Int) {w : World} {bs : List Nat} {ret : Value} (hvc : ∀ wr0, ExtX bs w wr0 → V_impl_niceOk nice wr0 fun v0 _ => v0 = ret) : PureX bs Try.prog fn_impl_niceOk #[.int .i64 nice] w ret :=
  pure_of_ev (C := c_impl_niceOk) (sps := s_impl_niceOk) (body := bodyOf Try.f50) (env _ _ _) Try.func50 rfl rfl (of_decide_eq_true (by kernel_rfl)) (of_decide_eq_true (by kernel_rfl)) rfl fun wr0 hx0 => (v_impl_niceOk nice wr0 _).mpr (hvc wr0 hx0)
noncomputable def c_impl_WeightOf : Cfg := { P := Try.prog, T := tblGet tbl, pf := pfT, ef := efT, vis := [], n := 8, pm := true }
noncomputable def s_impl_WeightOf : List (Nat × LSpec) := []
def V_impl_WeightOf (nice : Int) (w : World) (R : Value → World → Prop) : Prop :=
    (∃ (niceOk : Bool),
    PureX [] Try.prog fn_impl_niceOk #[.int .i64 nice] w (.bool niceOk) ∧
    ((!niceOk) = true →
    R (.int .i64 0) w) ∧
    ((!niceOk) = false →
    InR .i64 (10 - nice) ∧
    R (.int .i64 (10 - nice)) w))
theorem v_impl_WeightOf (nice : Int) (w : World) (R : Value → World → Prop) : evFn c_impl_WeightOf s_impl_WeightOf [.int .i64 nice] (bodyOf Try.f17) Try.f17.results.toList w R = V_impl_WeightOf nice w R := by kernel_rfl
theorem p_impl_WeightOf (nice : Int) {w : World} {bs : List Nat} {ret : Value} (hvc : ∀ wr0, ExtX bs w wr0 → V_impl_WeightOf nice wr0 fun v0 _ => v0 = ret) : PureX bs Try.prog fn_impl_WeightOf #[.int .i64 nice] w ret :=
  pure_of_ev (C := c_impl_WeightOf) (sps := s_impl_WeightOf) (body := bodyOf Try.f17) (env _ _ _) Try.func17 rfl rfl (of_decide_eq_true (by kernel_rfl)) (of_decide_eq_true (by kernel_rfl)) rfl fun wr0 hx0 => (v_impl_WeightOf nice wr0 _).mpr (hvc wr0 hx0)
noncomputable def c_laws_FnWeights : Cfg := { P := Try.prog, T := tblGet tbl, pf := pfT, ef := efT, vis := [], n := 149, pm := false }
noncomputable def s_laws_FnWeights : List (Nat × LSpec) := []
def V_laws_FnWeights (codeO : Option Addr) (codeL : Nat) (codeC : Nat) (moreO : Option Addr) (moreL : Nat) (moreC : Nat) (w : World) (R : Value → World → Prop) : Prop :=
    (((decide (((codeL : Nat) : Int) > 1048576)) || (decide (((moreL : Nat) : Int) > 1048576))) = true →
    (∀ wr, ExtX [] w wr → R (.bool true) wr)) ∧
    (((decide (((codeL : Nat) : Int) > 1048576)) || (decide (((moreL : Nat) : Int) > 1048576))) = false →
    (∀ wr1, ExtX [] w wr1 → (∀ bq ∈ ([] : List Nat), bq < wr1.heap.size) → 
    Calls Try.prog fn_spec_DrawVirtualStep #[.slice codeO codeL codeC] wr1 fun e wv =>
    (∃ (xDrawVi : Int) (xDrawVi1 : Int),
    e = .returned (.tuple #[.int .i64 xDrawVi, .int .i64 xDrawVi1]) ∧ Kept [] wr1 wv ∧
    (∀ wr2, ExtX [] wv wr2 → (∀ bq ∈ ([] : List Nat), bq < wr2.heap.size) → 
    Calls Try.prog fn_spec_DrawVirtualStep #[.slice moreO moreL moreC] wr2 fun e1 wv1 =>
    (∃ (xDrawVi2 : Int) (xDrawVi3 : Int),
    e1 = .returned (.tuple #[.int .i64 xDrawVi2, .int .i64 xDrawVi3]) ∧ Kept [] wr2 wv1 ∧
    (∃ (xVirtua : Int),
    PureX [] Try.prog fn_impl_VirtualStep #[.int .i64 xDrawVi, .int .i64 xDrawVi1] wv1 (.int .i64 xVirtua) ∧
    (∃ (xVirtua1 : Int),
    PureX [] Try.prog fn_spec_VirtualStep #[.int .i64 xDrawVi, .int .i64 xDrawVi1] wv1 (.int .i64 xVirtua1) ∧
    ((xVirtua != xVirtua1) = true →
    (∀ wr3, ExtX [] wv1 wr3 → R (.bool false) wr3)) ∧
    ((xVirtua != xVirtua1) = false →
    (∃ (xVirtua2 : Int),
    ((decide (xVirtua > 0)) = true → PureX [] Try.prog fn_impl_VirtualUnits #[.int .i64 xVirtua, .int .i64 xDrawVi1] wv1 (.int .i64 xVirtua2)) ∧
    ((xVirtua2 != xDrawVi) = false → ((decide (xVirtua > 0)) = true → InR .i64 (xVirtua - 1))) ∧
    (∃ (xVirtua3 : Int),
    ((xVirtua2 != xDrawVi) = false → ((decide (xVirtua > 0)) = true → PureX [] Try.prog fn_impl_VirtualUnits #[.int .i64 (xVirtua - 1), .int .i64 xDrawVi1] wv1 (.int .i64 xVirtua3))) ∧
    (((xVirtua2 != xDrawVi) || ((xVirtua3 != xDrawVi) && (decide (xVirtua > 1)))) = false → ((decide (xVirtua > 0)) = true → InR .i64 (xVirtua + 1))) ∧
    (∃ (xVirtua4 : Int),
    (((xVirtua2 != xDrawVi) || ((xVirtua3 != xDrawVi) && (decide (xVirtua > 1)))) = false → ((decide (xVirtua > 0)) = true → PureX [] Try.prog fn_impl_VirtualUnits #[.int .i64 (xVirtua + 1), .int .i64 xDrawVi1] wv1 (.int .i64 xVirtua4))) ∧
    (((xVirtua2 != xDrawVi) || ((xVirtua3 != xDrawVi) && (decide (xVirtua > 1)))) = false → ((decide (xVirtua > 0)) = true → InR .i64 (xDrawVi + 1))) ∧
    (((decide (xVirtua > 0)) && (((xVirtua2 != xDrawVi) || ((xVirtua3 != xDrawVi) && (decide (xVirtua > 1)))) || (xVirtua4 != (xDrawVi + 1)))) = true →
    (∀ wr4, ExtX [] wv1 wr4 → R (.bool false) wr4)) ∧
    (((decide (xVirtua > 0)) && (((xVirtua2 != xDrawVi) || ((xVirtua3 != xDrawVi) && (decide (xVirtua > 1)))) || (xVirtua4 != (xDrawVi + 1)))) = false →
    (((decide (xDrawVi2 ≥ 0)) && (decide (xDrawVi ≥ 0))) = true → InR .i64 (xDrawVi2 + xDrawVi)) ∧
    (∃ (xVirtua5 : Int),
    ((((decide (xDrawVi2 ≥ 0)) && (decide (xDrawVi ≥ 0))) && (decide (xDrawVi2 + xDrawVi ≤ 100000000))) = true → PureX [] Try.prog fn_impl_VirtualStep #[.int .i64 xDrawVi2, .int .i64 xDrawVi1] wv1 (.int .i64 xVirtua5)) ∧
    ((((decide (xDrawVi2 ≥ 0)) && (decide (xDrawVi ≥ 0))) && (decide (xDrawVi2 + xDrawVi ≤ 100000000))) = true → InR .i64 (xVirtua5 + xVirtua)) ∧
    ((((decide (xDrawVi2 ≥ 0)) && (decide (xDrawVi ≥ 0))) && (decide (xDrawVi2 + xDrawVi ≤ 100000000))) = true → InR .i64 (xDrawVi2 + xDrawVi)) ∧
    (∃ (xVirtua6 : Int),
    ((((decide (xDrawVi2 ≥ 0)) && (decide (xDrawVi ≥ 0))) && (decide (xDrawVi2 + xDrawVi ≤ 100000000))) = true → PureX [] Try.prog fn_impl_VirtualStep #[.int .i64 (xDrawVi2 + xDrawVi), .int .i64 xDrawVi1] wv1 (.int .i64 xVirtua6)) ∧
    (((((decide (xDrawVi2 ≥ 0)) && (decide (xDrawVi ≥ 0))) && (decide (xDrawVi2 + xDrawVi ≤ 100000000))) && ((xVirtua5 + xVirtua) != xVirtua6)) = true →
    (∀ wr5, ExtX [] wv1 wr5 → R (.bool false) wr5)) ∧
    (((((decide (xDrawVi2 ≥ 0)) && (decide (xDrawVi ≥ 0))) && (decide (xDrawVi2 + xDrawVi ≤ 100000000))) && ((xVirtua5 + xVirtua) != xVirtua6)) = false →
    (∀ wr6, ExtX [] wv1 wr6 → (∀ bq ∈ ([] : List Nat), bq < wr6.heap.size) → 
    Calls Try.prog fn_spec_DrawLagCut #[.slice codeO codeL codeC] wr6 fun e2 wv2 =>
    (∃ (xDrawLa : Int) (xDrawLa1 : Int),
    e2 = .returned (.tuple #[.int .i64 xDrawLa, .int .i64 xDrawLa1]) ∧ Kept [] wr6 wv2 ∧
    (∃ (xLagCut : Int),
    PureX [] Try.prog fn_impl_LagCut #[.int .i64 xDrawLa, .int .i64 xDrawLa1] wv2 (.int .i64 xLagCut) ∧
    (∃ (xLagCut1 : Int),
    PureX [] Try.prog fn_spec_LagCut #[.int .i64 xDrawLa, .int .i64 xDrawLa1] wv2 (.int .i64 xLagCut1) ∧
    (∃ (xLagCut2 : Int),
    ((xLagCut != xLagCut1) = false → PureX [] Try.prog fn_impl_LagCut #[.int .i64 xLagCut, .int .i64 xDrawLa1] wv2 (.int .i64 xLagCut2)) ∧
    (∃ (xLagMos : Int),
    ((((xLagCut != xLagCut1) || (xLagCut2 != xLagCut)) || (decide (xLagCut < 0))) = false → PureX [] Try.prog fn_impl_LagMost #[.int .i64 xDrawLa1] wv2 (.int .i64 xLagMos)) ∧
    (((((xLagCut != xLagCut1) || (xLagCut2 != xLagCut)) || (decide (xLagCut < 0))) || (decide (xLagCut > xLagMos))) = true →
    (∀ wr7, ExtX [] wv2 wr7 → R (.bool false) wr7)) ∧
    (((((xLagCut != xLagCut1) || (xLagCut2 != xLagCut)) || (decide (xLagCut < 0))) || (decide (xLagCut > xLagMos))) = false →
    (∃ (xNiceOf : Int) (xNiceOf1 : Bool),
    PureX [] Try.prog fn_impl_NiceOf #[.int .i64 xDrawLa1] wv2 (.tuple #[.int .i64 xNiceOf, .bool xNiceOf1]) ∧
    (∃ (xWeight : Int),
    ((!xNiceOf1) = false → ((xNiceOf1 == ((decide (xDrawLa1 ≥ 1)) && (decide (xDrawLa1 ≤ 20)))) = true → PureX [] Try.prog fn_impl_WeightOf #[.int .i64 xNiceOf] wv2 (.int .i64 xWeight))) ∧
    (∀ wr8, ExtX [] wv2 wr8 → R (.bool ((xNiceOf1 == ((decide (xDrawLa1 ≥ 1)) && (decide (xDrawLa1 ≤ 20)))) && ((!xNiceOf1) || (xWeight == xDrawLa1)))) wr8)))))))))))))))))))))))))
theorem v_laws_FnWeights (codeO : Option Addr) (codeL : Nat) (codeC : Nat) (moreO : Option Addr) (moreL : Nat) (moreC : Nat) (w : World) (R : Value → World → Prop) : evFn c_laws_FnWeights s_laws_FnWeights [.slice codeO codeL codeC, .slice moreO moreL moreC] (bodyOf Try.f3) Try.f3.results.toList w R = V_laws_FnWeights codeO codeL codeC moreO moreL moreC w R := by kernel_rfl
theorem e_laws_FnWeights (codeO : Option Addr) (codeL : Nat) (codeC : Nat) (moreO : Option Addr) (moreL : Nat) (moreC : Nat) {w : World} {R : Value → World → Prop} (hvc : V_laws_FnWeights codeO codeL codeC moreO moreL moreC w R) : Calls Try.prog fn_laws_FnWeights #[.slice codeO codeL codeC, .slice moreO moreL moreC] w fun e0 wr0 => ∃ v0, e0 = .returned v0 ∧ R v0 wr0 :=
  eff_of_ev (C := c_laws_FnWeights) (sps := s_laws_FnWeights) (body := bodyOf Try.f3) (env _ _ _) Try.func3 rfl rfl (of_decide_eq_true (by kernel_rfl)) (of_decide_eq_true (by kernel_rfl)) rfl ((v_laws_FnWeights codeO codeL codeC moreO moreL moreC w _).mpr hvc)
end Go.Proofs.Ytopaajbfnpmjcaa
