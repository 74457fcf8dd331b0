/- Printed by wip/tools/vc.py: what a function's text asks for. -/
import Derived.Test.YthihcdljmddgfaaTab
namespace Go.Proofs.Ythihcdljmddgfaa
open Go.RowKit
set_option linter.unusedVariables false
set_option maxRecDepth 100000
set_option maxHeartbeats 1600000
noncomputable def c_spec_l20Rd_pick : Cfg := { P := Try.prog, T := tblGet tbl, pf := pfT, ef := efT, tt := ttT, vis := [], n := 99, pm := false }
noncomputable def s_spec_l20Rd_pick : List (Nat × LSpec) := []
def V_spec_l20Rd_pick (r : Option Addr) (n : Int) (w : World) (R : Value → World → Prop) : Prop :=
    r.isSome = true ∧
    (∃ (p : Int),
    CellsX [] w r (0 + 1) [.int .i64 p] ∧
    InR .i64 (p + 1) ∧
    r.isSome = true ∧
    WrX [] w r (0 + 1) 1 ∧
    ((decide (n < 1)) = false → r.isSome = true) ∧
    (∃ (bO : Option Addr) (bL : Nat) (bC : Nat),
    ((decide (n < 1)) = false → CellsX [] (sto w r (0 + 1) [.int .i64 (p + 1)]) r (0 + 0) [.slice bO bL bC]) ∧
    (((decide (n < 1)) || (((bL : Nat) : Int) == 0)) = true →
    (∀ wr, ExtX [] (sto w r (0 + 1) [.int .i64 (p + 1)]) wr → R (.int .i64 0) wr)) ∧
    (((decide (n < 1)) || (((bL : Nat) : Int) == 0)) = false →
    r.isSome = true ∧
    (∃ (p1 : Int),
    CellsX [] (sto w r (0 + 1) [.int .i64 (p + 1)]) r (0 + 1) [.int .i64 p1] ∧
    InR .i64 (p1 - 1) ∧
    r.isSome = true ∧
    (∃ (b1O : Option Addr) (b1L : Nat) (b1C : Nat),
    CellsX [] (sto w r (0 + 1) [.int .i64 (p + 1)]) r (0 + 0) [.slice b1O b1L b1C] ∧
    ((decide (p1 - 1 < ((b1L : Nat) : Int))) = true →
    r.isSome = true ∧
    (∃ (b2O : Option Addr) (b2L : Nat) (b2C : Nat),
    CellsX [] (sto w r (0 + 1) [.int .i64 (p + 1)]) r (0 + 0) [.slice b2O b2L b2C] ∧
    Ix b2O b2L (p1 - 1) ∧
    (∃ (x : Int),
    CellsX [] (sto w r (0 + 1) [.int .i64 (p + 1)]) b2O (Int.toNat (p1 - 1) * 1) [.int .u8 x] ∧
    InR .i64 x ∧
    n ≠ 0 ∧
    (∀ wr1, ExtX [] (sto w r (0 + 1) [.int .i64 (p + 1)]) wr1 → R (.int .i64 (Int.tmod x n)) wr1)))) ∧
    ((decide (p1 - 1 < ((b1L : Nat) : Int))) = false →
    r.isSome = true ∧
    (∃ (b3O : Option Addr) (b3L : Nat) (b3C : Nat),
    CellsX [] (sto w r (0 + 1) [.int .i64 (p + 1)]) r (0 + 0) [.slice b3O b3L b3C] ∧
    r.isSome = true ∧
    (∃ (b4O : Option Addr) (b4L : Nat) (b4C : Nat),
    CellsX [] (sto w r (0 + 1) [.int .i64 (p + 1)]) r (0 + 0) [.slice b4O b4L b4C] ∧
    ((b4L : Nat) : Int) ≠ 0 ∧
    Ix b3O b3L (Int.tmod (p1 - 1) ((b4L : Nat) : Int)) ∧
    (∃ (x1 : Int),
    CellsX [] (sto w r (0 + 1) [.int .i64 (p + 1)]) b3O (Int.toNat (Int.tmod (p1 - 1) ((b4L : Nat) : Int)) * 1) [.int .u8 x1] ∧
    InR .i64 x1 ∧
    InR .i64 (x1 * 131) ∧
    r.isSome = true ∧
    (∃ (b5O : Option Addr) (b5L : Nat) (b5C : Nat),
    CellsX [] (sto w r (0 + 1) [.int .i64 (p + 1)]) r (0 + 0) [.slice b5O b5L b5C] ∧
    InR .i64 ((p1 - 1) * 7) ∧
    InR .i64 (((p1 - 1) * 7) + 3) ∧
    r.isSome = true ∧
    (∃ (b6O : Option Addr) (b6L : Nat) (b6C : Nat),
    CellsX [] (sto w r (0 + 1) [.int .i64 (p + 1)]) r (0 + 0) [.slice b6O b6L b6C] ∧
    ((b6L : Nat) : Int) ≠ 0 ∧
    Ix b5O b5L (Int.tmod (((p1 - 1) * 7) + 3) ((b6L : Nat) : Int)) ∧
    (∃ (x2 : Int),
    CellsX [] (sto w r (0 + 1) [.int .i64 (p + 1)]) b5O (Int.toNat (Int.tmod (((p1 - 1) * 7) + 3) ((b6L : Nat) : Int)) * 1) [.int .u8 x2] ∧
    InR .i64 x2 ∧
    InR .i64 (x2 * 1117) ∧
    InR .i64 ((x1 * 131) + (x2 * 1117)) ∧
    InR .i64 ((p1 - 1) * 29) ∧
    InR .i64 (((x1 * 131) + (x2 * 1117)) + ((p1 - 1) * 29)) ∧
    r.isSome = true ∧
    (∃ (b7O : Option Addr) (b7L : Nat) (b7C : Nat),
    CellsX [] (sto w r (0 + 1) [.int .i64 (p + 1)]) r (0 + 0) [.slice b7O b7L b7C] ∧
    (((b7L : Nat) : Int) ≠ 0 ∧ InR .i64 (Int.tdiv (p1 - 1) ((b7L : Nat) : Int))) ∧
    InR .i64 ((Int.tdiv (p1 - 1) ((b7L : Nat) : Int)) * 53) ∧
    InR .i64 ((((x1 * 131) + (x2 * 1117)) + ((p1 - 1) * 29)) + ((Int.tdiv (p1 - 1) ((b7L : Nat) : Int)) * 53)) ∧
    ((64 : Int) ≠ 0 ∧ InR .i64 (Int.tdiv ((((x1 * 131) + (x2 * 1117)) + ((p1 - 1) * 29)) + ((Int.tdiv (p1 - 1) ((b7L : Nat) : Int)) * 53)) 64)) ∧
    n ≠ 0 ∧
    (∀ wr2, ExtX [] (sto w r (0 + 1) [.int .i64 (p + 1)]) wr2 → R (.int .i64 (Int.tmod (BitI .xor .i64 ((((x1 * 131) + (x2 * 1117)) + ((p1 - 1) * 29)) + ((Int.tdiv (p1 - 1) ((b7L : Nat) : Int)) * 53)) (Int.tdiv ((((x1 * 131) + (x2 * 1117)) + ((p1 - 1) * 29)) + ((Int.tdiv (p1 - 1) ((b7L : Nat) : Int)) * 53)) 64)) n)) wr2))))))))))))))
theorem v_spec_l20Rd_pick (r : Option Addr) (n : Int) (w : World) (R : Value → World → Prop) : evFn c_spec_l20Rd_pick s_spec_l20Rd_pick [.pointer r, .int .i64 n] (bodyOf Try.f47) Try.f47.results.toList w R = V_spec_l20Rd_pick r n w R := by kernel_rfl
theorem e_spec_l20Rd_pick (r : Option Addr) (n : Int) {w : World} {R : Value → World → Prop} (hvc : V_spec_l20Rd_pick r n w R) : Calls Try.prog fn_spec_l20Rd_pick #[.pointer r, .int .i64 n] w fun e0 wr0 => ∃ v0, e0 = .returned v0 ∧ R v0 wr0 :=
  eff_of_ev (C := c_spec_l20Rd_pick) (sps := s_spec_l20Rd_pick) (body := bodyOf Try.f47) (env _ _ _) Try.func47 rfl rfl (of_decide_eq_true (by kernel_rfl)) (of_decide_eq_true (by kernel_rfl)) rfl (by rw [v_spec_l20Rd_pick]; exact hvc)
noncomputable def c_spec_l20Rd_weight : Cfg := { P := Try.prog, T := tblGet tbl, pf := pfT, ef := efT, tt := ttT, vis := [], n := 14, pm := false }
noncomputable def s_spec_l20Rd_weight : List (Nat × LSpec) := []
def V_spec_l20Rd_weight (r : Option Addr) (w : World) (R : Value → World → Prop) : Prop :=
    (∀ wr, ExtX [] w wr → (∀ bq ∈ ([] : List Nat), bq < wr.heap.size) → 
    Calls Try.prog fn_spec_l20Rd_pick #[.pointer r, .int .i64 24] wr fun e wv =>
    (∃ (pick : Int),
    e = .returned (.int .i64 pick) ∧ Kept [] wr wv ∧
    ((pick == 0) = true →
    (∀ wr1, ExtX [] wv wr1 → (∀ bq ∈ ([] : List Nat), bq < wr1.heap.size) → 
    Calls Try.prog fn_spec_l20Rd_pick #[.pointer r, .int .i64 24] wr1 fun e1 wv1 =>
    (∃ (pick1 : Int),
    e1 = .returned (.int .i64 pick1) ∧ Kept [] wr1 wv1 ∧
    InR .i64 (pick1 - 2) ∧
    (∀ wr2, ExtX [] wv1 wr2 → R (.int .i64 (pick1 - 2)) wr2)))) ∧
    ((pick == 0) = false →
    (∀ b, wv.heap.size ≤ b →
    (∀ wr3, ExtX [] wv wr3 → (∀ bq ∈ ([b] : List Nat), bq < wr3.heap.size) → 
    Calls Try.prog fn_spec_l20Rd_pick #[.pointer r, .int .i64 10] wr3 fun e2 wv2 =>
    (∃ (pick2 : Int),
    e2 = .returned (.int .i64 pick2) ∧ Kept [b] wr3 wv2 ∧
    (0 ≤ pick2 ∧ pick2 < ((10 : Nat) : Int)) ∧
    (∃ (x : Int),
    (0 ≤ pick2 ∧ ([.int .i64 1, .int .i64 2, .int .i64 3, .int .i64 5, .int .i64 7, .int .i64 10, .int .i64 10, .int .i64 13, .int .i64 19, .int .i64 20] : List Value)[Int.toNat pick2 + 0]? = some (.int .i64 x)) ∧
    (∀ wr4, ExtX [b] wv2 wr4 → R (.int .i64 x) wr4))))))))
theorem v_spec_l20Rd_weight (r : Option Addr) (w : World) (R : Value → World → Prop) : evFn c_spec_l20Rd_weight s_spec_l20Rd_weight [.pointer r] (bodyOf Try.f92) Try.f92.results.toList w R = V_spec_l20Rd_weight r w R := by kernel_rfl
theorem e_spec_l20Rd_weight (r : Option Addr) {w : World} {R : Value → World → Prop} (hvc : V_spec_l20Rd_weight r w R) : Calls Try.prog fn_spec_l20Rd_weight #[.pointer r] w fun e0 wr0 => ∃ v0, e0 = .returned v0 ∧ R v0 wr0 :=
  eff_of_ev (C := c_spec_l20Rd_weight) (sps := s_spec_l20Rd_weight) (body := bodyOf Try.f92) (env _ _ _) Try.func92 rfl rfl (of_decide_eq_true (by kernel_rfl)) (of_decide_eq_true (by kernel_rfl)) rfl (by rw [v_spec_l20Rd_weight]; exact hvc)
noncomputable def c_spec_l20Rd_units : Cfg := { P := Try.prog, T := tblGet tbl, pf := pfT, ef := efT, tt := ttT, vis := [], n := 16, pm := false }
noncomputable def s_spec_l20Rd_units : List (Nat × LSpec) := []
def V_spec_l20Rd_units (r : Option Addr) (w : World) (R : Value → World → Prop) : Prop :=
    (∀ wr, ExtX [] w wr → (∀ bq ∈ ([] : List Nat), bq < wr.heap.size) → 
    Calls Try.prog fn_spec_l20Rd_pick #[.pointer r, .int .i64 24] wr fun e wv =>
    (∃ (pick : Int),
    e = .returned (.int .i64 pick) ∧ Kept [] wr wv ∧
    ((pick == 0) = true →
    (∀ b, wv.heap.size ≤ b →
    (∀ wr1, ExtX [] wv wr1 → (∀ bq ∈ ([b] : List Nat), bq < wr1.heap.size) → 
    Calls Try.prog fn_spec_l20Rd_pick #[.pointer r, .int .i64 4] wr1 fun e1 wv1 =>
    (∃ (pick1 : Int),
    e1 = .returned (.int .i64 pick1) ∧ Kept [b] wr1 wv1 ∧
    (0 ≤ pick1 ∧ pick1 < ((4 : Nat) : Int)) ∧
    (∃ (x : Int),
    (0 ≤ pick1 ∧ ([.int .i64 0, .int .i64 101, .int .i64 (-1), .int .i64 100] : List Value)[Int.toNat pick1 + 0]? = some (.int .i64 x)) ∧
    (∀ wr2, ExtX [b] wv1 wr2 → R (.int .i64 x) wr2)))))) ∧
    ((pick == 0) = false →
    (∀ b1, wv.heap.size ≤ b1 →
    (∀ wr3, ExtX [] wv wr3 → (∀ bq ∈ ([b1] : List Nat), bq < wr3.heap.size) → 
    Calls Try.prog fn_spec_l20Rd_pick #[.pointer r, .int .i64 8] wr3 fun e2 wv2 =>
    (∃ (pick2 : Int),
    e2 = .returned (.int .i64 pick2) ∧ Kept [b1] wr3 wv2 ∧
    (0 ≤ pick2 ∧ pick2 < ((8 : Nat) : Int)) ∧
    (∃ (x1 : Int),
    (0 ≤ pick2 ∧ ([.int .i64 1, .int .i64 3, .int .i64 10, .int .i64 20, .int .i64 37, .int .i64 50, .int .i64 99, .int .i64 100] : List Value)[Int.toNat pick2 + 0]? = some (.int .i64 x1)) ∧
    (∀ wr4, ExtX [b1] wv2 wr4 → R (.int .i64 x1) wr4))))))))
theorem v_spec_l20Rd_units (r : Option Addr) (w : World) (R : Value → World → Prop) : evFn c_spec_l20Rd_units s_spec_l20Rd_units [.pointer r] (bodyOf Try.f94) Try.f94.results.toList w R = V_spec_l20Rd_units r w R := by kernel_rfl
theorem e_spec_l20Rd_units (r : Option Addr) {w : World} {R : Value → World → Prop} (hvc : V_spec_l20Rd_units r w R) : Calls Try.prog fn_spec_l20Rd_units #[.pointer r] w fun e0 wr0 => ∃ v0, e0 = .returned v0 ∧ R v0 wr0 :=
  eff_of_ev (C := c_spec_l20Rd_units) (sps := s_spec_l20Rd_units) (body := bodyOf Try.f94) (env _ _ _) Try.func94 rfl rfl (of_decide_eq_true (by kernel_rfl)) (of_decide_eq_true (by kernel_rfl)) rfl (by rw [v_spec_l20Rd_units]; exact hvc)
noncomputable def c_spec_l20Rd_op : Cfg := { P := Try.prog, T := tblGet tbl, pf := pfT, ef := efT, tt := ttT, vis := [], n := 53, pm := false }
noncomputable def s_spec_l20Rd_op : List (Nat × LSpec) := []
def V_spec_l20Rd_op (r : Option Addr) (n : Int) (w : World) (R : Value → World → Prop) : Prop :=
    (∀ b, w.heap.size ≤ b →
    (∀ wr, ExtX [] w wr → (∀ bq ∈ ([b] : List Nat), bq < wr.heap.size) → 
    Calls Try.prog fn_spec_l20Rd_pick #[.pointer r, .int .i64 n] wr fun e wv =>
    (∃ (pick : Int),
    e = .returned (.int .i64 pick) ∧ Kept [b] wr wv ∧
    (∀ wr1, ExtX [b] wv wr1 → (∀ bq ∈ ([b] : List Nat), bq < wr1.heap.size) → 
    Calls Try.prog fn_spec_l20Rd_pick #[.pointer r, .int .i64 30] wr1 fun e1 wv1 =>
    (∃ (pick1 : Int),
    e1 = .returned (.int .i64 pick1) ∧ Kept [b] wr1 wv1 ∧
    ((pick1 == 0) = true →
    (∀ b1, wv1.heap.size ≤ b1 →
    (∀ wr2, ExtX [b] wv1 wr2 → (∀ bq ∈ ([b, b1] : List Nat), bq < wr2.heap.size) → 
    Calls Try.prog fn_spec_l20Rd_pick #[.pointer r, .int .i64 2] wr2 fun e2 wv2 =>
    (∃ (pick2 : Int),
    e2 = .returned (.int .i64 pick2) ∧ Kept [b, b1] wr2 wv2 ∧
    (0 ≤ pick2 ∧ pick2 < ((2 : Nat) : Int)) ∧
    (∃ (x : Int),
    (0 ≤ pick2 ∧ ([.int .i64 (-1), .int .i64 n] : List Value)[Int.toNat pick2 + 0]? = some (.int .i64 x)) ∧
    (∀ wr3, ExtX [b, b1] wv2 wr3 → (∀ bq ∈ ([b, b1] : List Nat), bq < wr3.heap.size) → 
    Calls Try.prog fn_spec_l20Rd_pick #[.pointer r, .int .i64 12] wr3 fun e3 wv3 =>
    (∃ (pick3 : Int),
    e3 = .returned (.int .i64 pick3) ∧ Kept [b, b1] wr3 wv3 ∧
    ((pick3 == 0) = true →
    (∀ wr4, ExtX [b, b1] wv3 wr4 → R (.agg #[.int .i64 1, .int .i64 x, .int .i64 0]) wr4)) ∧
    ((pick3 == 0) = false →
    ((pick3 == 1) = true →
    (∀ wr5, ExtX [b, b1] wv3 wr5 → R (.agg #[.int .i64 1, .int .i64 x, .int .i64 0]) wr5)) ∧
    ((pick3 == 1) = false →
    ((pick3 == 2) = true →
    (∀ wr6, ExtX [b, b1] wv3 wr6 → R (.agg #[.int .i64 2, .int .i64 x, .int .i64 0]) wr6)) ∧
    ((pick3 == 2) = false →
    ((pick3 == 3) = true →
    (∀ wr7, ExtX [b, b1] wv3 wr7 → (∀ bq ∈ ([b, b1] : List Nat), bq < wr7.heap.size) → 
    Calls Try.prog fn_spec_l20Rd_weight #[.pointer r] wr7 fun e4 wv4 =>
    (∃ (weight : Int),
    e4 = .returned (.int .i64 weight) ∧ Kept [b, b1] wr7 wv4 ∧
    (∀ wr8, ExtX [b, b1] wv4 wr8 → R (.agg #[.int .i64 4, .int .i64 x, .int .i64 weight]) wr8)))) ∧
    ((pick3 == 3) = false →
    ((pick3 == 4) = true →
    (∀ wr9, ExtX [b, b1] wv3 wr9 → R (.agg #[.int .i64 5, .int .i64 0, .int .i64 0]) wr9)) ∧
    ((pick3 == 4) = false →
    ((pick3 == 5) = true →
    (∀ wr10, ExtX [b, b1] wv3 wr10 → (∀ bq ∈ ([b, b1] : List Nat), bq < wr10.heap.size) → 
    Calls Try.prog fn_spec_l20Rd_pick #[.pointer r, .int .i64 6] wr10 fun e5 wv5 =>
    (∃ (pick4 : Int),
    e5 = .returned (.int .i64 pick4) ∧ Kept [b, b1] wr10 wv5 ∧
    ((pick4 == 0) = true →
    (∀ wr11, ExtX [b, b1] wv5 wr11 → (∀ bq ∈ ([b, b1] : List Nat), bq < wr11.heap.size) → 
    Calls Try.prog fn_spec_l20Rd_pick #[.pointer r, .int .i64 8] wr11 fun e6 wv6 =>
    (∃ (pick5 : Int),
    e6 = .returned (.int .i64 pick5) ∧ Kept [b, b1] wr11 wv6 ∧
    InR .i64 (pick5 - 1) ∧
    (∀ wr12, ExtX [b, b1] wv6 wr12 → (∀ bq ∈ ([b, b1] : List Nat), bq < wr12.heap.size) → 
    Calls Try.prog fn_spec_l20Rd_pick #[.pointer r, .int .i64 5] wr12 fun e7 wv7 =>
    (∃ (pick6 : Int),
    e7 = .returned (.int .i64 pick6) ∧ Kept [b, b1] wr12 wv7 ∧
    (∀ wr13, ExtX [b, b1] wv7 wr13 → R (.agg #[.int .i64 (pick5 - 1), .int .i64 x, .int .i64 pick6]) wr13)))))) ∧
    ((pick4 == 0) = false →
    (∀ wr14, ExtX [b, b1] wv5 wr14 → (∀ bq ∈ ([b, b1] : List Nat), bq < wr14.heap.size) → 
    Calls Try.prog fn_spec_l20Rd_units #[.pointer r] wr14 fun e8 wv8 =>
    (∃ (units : Int),
    e8 = .returned (.int .i64 units) ∧ Kept [b, b1] wr14 wv8 ∧
    (∀ wr15, ExtX [b, b1] wv8 wr15 → R (.agg #[.int .i64 3, .int .i64 0, .int .i64 units]) wr15))))))) ∧
    ((pick3 == 5) = false →
    (∀ wr16, ExtX [b, b1] wv3 wr16 → (∀ bq ∈ ([b, b1] : List Nat), bq < wr16.heap.size) → 
    Calls Try.prog fn_spec_l20Rd_units #[.pointer r] wr16 fun e9 wv9 =>
    (∃ (units1 : Int),
    e9 = .returned (.int .i64 units1) ∧ Kept [b, b1] wr16 wv9 ∧
    (∀ wr17, ExtX [b, b1] wv9 wr17 → R (.agg #[.int .i64 3, .int .i64 0, .int .i64 units1]) wr17)))))))))))))))) ∧
    ((pick1 == 0) = false →
    (∀ wr18, ExtX [b] wv1 wr18 → (∀ bq ∈ ([b] : List Nat), bq < wr18.heap.size) → 
    Calls Try.prog fn_spec_l20Rd_pick #[.pointer r, .int .i64 12] wr18 fun e10 wv10 =>
    (∃ (pick7 : Int),
    e10 = .returned (.int .i64 pick7) ∧ Kept [b] wr18 wv10 ∧
    ((pick7 == 0) = true →
    (∀ wr19, ExtX [b] wv10 wr19 → R (.agg #[.int .i64 1, .int .i64 pick, .int .i64 0]) wr19)) ∧
    ((pick7 == 0) = false →
    ((pick7 == 1) = true →
    (∀ wr20, ExtX [b] wv10 wr20 → R (.agg #[.int .i64 1, .int .i64 pick, .int .i64 0]) wr20)) ∧
    ((pick7 == 1) = false →
    ((pick7 == 2) = true →
    (∀ wr21, ExtX [b] wv10 wr21 → R (.agg #[.int .i64 2, .int .i64 pick, .int .i64 0]) wr21)) ∧
    ((pick7 == 2) = false →
    ((pick7 == 3) = true →
    (∀ wr22, ExtX [b] wv10 wr22 → (∀ bq ∈ ([b] : List Nat), bq < wr22.heap.size) → 
    Calls Try.prog fn_spec_l20Rd_weight #[.pointer r] wr22 fun e11 wv11 =>
    (∃ (weight1 : Int),
    e11 = .returned (.int .i64 weight1) ∧ Kept [b] wr22 wv11 ∧
    (∀ wr23, ExtX [b] wv11 wr23 → R (.agg #[.int .i64 4, .int .i64 pick, .int .i64 weight1]) wr23)))) ∧
    ((pick7 == 3) = false →
    ((pick7 == 4) = true →
    (∀ wr24, ExtX [b] wv10 wr24 → R (.agg #[.int .i64 5, .int .i64 0, .int .i64 0]) wr24)) ∧
    ((pick7 == 4) = false →
    ((pick7 == 5) = true →
    (∀ wr25, ExtX [b] wv10 wr25 → (∀ bq ∈ ([b] : List Nat), bq < wr25.heap.size) → 
    Calls Try.prog fn_spec_l20Rd_pick #[.pointer r, .int .i64 6] wr25 fun e12 wv12 =>
    (∃ (pick8 : Int),
    e12 = .returned (.int .i64 pick8) ∧ Kept [b] wr25 wv12 ∧
    ((pick8 == 0) = true →
    (∀ wr26, ExtX [b] wv12 wr26 → (∀ bq ∈ ([b] : List Nat), bq < wr26.heap.size) → 
    Calls Try.prog fn_spec_l20Rd_pick #[.pointer r, .int .i64 8] wr26 fun e13 wv13 =>
    (∃ (pick9 : Int),
    e13 = .returned (.int .i64 pick9) ∧ Kept [b] wr26 wv13 ∧
    InR .i64 (pick9 - 1) ∧
    (∀ wr27, ExtX [b] wv13 wr27 → (∀ bq ∈ ([b] : List Nat), bq < wr27.heap.size) → 
    Calls Try.prog fn_spec_l20Rd_pick #[.pointer r, .int .i64 5] wr27 fun e14 wv14 =>
    (∃ (pick10 : Int),
    e14 = .returned (.int .i64 pick10) ∧ Kept [b] wr27 wv14 ∧
    (∀ wr28, ExtX [b] wv14 wr28 → R (.agg #[.int .i64 (pick9 - 1), .int .i64 pick, .int .i64 pick10]) wr28)))))) ∧
    ((pick8 == 0) = false →
    (∀ wr29, ExtX [b] wv12 wr29 → (∀ bq ∈ ([b] : List Nat), bq < wr29.heap.size) → 
    Calls Try.prog fn_spec_l20Rd_units #[.pointer r] wr29 fun e15 wv15 =>
    (∃ (units2 : Int),
    e15 = .returned (.int .i64 units2) ∧ Kept [b] wr29 wv15 ∧
    (∀ wr30, ExtX [b] wv15 wr30 → R (.agg #[.int .i64 3, .int .i64 0, .int .i64 units2]) wr30))))))) ∧
    ((pick7 == 5) = false →
    (∀ wr31, ExtX [b] wv10 wr31 → (∀ bq ∈ ([b] : List Nat), bq < wr31.heap.size) → 
    Calls Try.prog fn_spec_l20Rd_units #[.pointer r] wr31 fun e16 wv16 =>
    (∃ (units3 : Int),
    e16 = .returned (.int .i64 units3) ∧ Kept [b] wr31 wv16 ∧
    (∀ wr32, ExtX [b] wv16 wr32 → R (.agg #[.int .i64 3, .int .i64 0, .int .i64 units3]) wr32)))))))))))))))))
theorem v_spec_l20Rd_op (r : Option Addr) (n : Int) (w : World) (R : Value → World → Prop) : evFn c_spec_l20Rd_op s_spec_l20Rd_op [.pointer r, .int .i64 n] (bodyOf Try.f48) Try.f48.results.toList w R = V_spec_l20Rd_op r n w R := by kernel_rfl
theorem e_spec_l20Rd_op (r : Option Addr) (n : Int) {w : World} {R : Value → World → Prop} (hvc : V_spec_l20Rd_op r n w R) : Calls Try.prog fn_spec_l20Rd_op #[.pointer r, .int .i64 n] w fun e0 wr0 => ∃ v0, e0 = .returned v0 ∧ R v0 wr0 :=
  eff_of_ev (C := c_spec_l20Rd_op) (sps := s_spec_l20Rd_op) (body := bodyOf Try.f48) (env _ _ _) Try.func48 rfl rfl (of_decide_eq_true (by kernel_rfl)) (of_decide_eq_true (by kernel_rfl)) rfl (by rw [v_spec_l20Rd_op]; exact hvc)
noncomputable def c_spec_QueueNew : Cfg := { P := Try.prog, T := tblGet tbl, pf := pfT, ef := efT, tt := ttT, vis := [], n := 33, pm := false }
noncomputable def s_spec_QueueNew : List (Nat × LSpec) := [(5, { chg := [(5, .int .i64)], chgL := [(1, [.int .i64, .int .i64, .int .i64, .slice])], keep := [0, 2, 4] })]
def V_spec_QueueNew (weightsO : Option Addr) (weightsL : Nat) (weightsC : Nat) (w : World) (R : Value → World → Prop) : Prop :=
    (∀ b, w.heap.size ≤ b →
    (∀ b1, w.heap.size ≤ b1 →
    (∃ (l1In : Bool),
    PureX [] Try.prog fn_spec_l1In #[.int .i64 ((weightsL : Nat) : Int), .int .i64 1, .int .i64 20] w (.bool l1In) ∧
    ((!l1In) = true →
    (∀ wr, ExtX [] w wr → R (.tuple #[.agg #[.int .i64 0, .int .i64 0, .int .i64 0, .slice none 0 0], .bool false]) wr)) ∧
    ((!l1In) = false →
    (∃ (xInv1 : List Value → World → Prop) (mu1 : List Value → World → Nat), (∀ wr3, ExtX [] w wr3 → (∀ bq ∈ ([b, b1] : List Nat), bq < wr3.heap.size) → xInv1 [.int .i64 0, .int .i64 0, .int .i64 (-1), .int .i64 0, .slice none 0 0] wr3) ∧
    ∀ (i1 : Int) (l : Int) (l1 : Int) (l2 : Int) (l3O : Option Addr) (l3L : Nat) (l3C : Nat) wv2, (∀ bq ∈ ([b, b1] : List Nat), bq < wv2.heap.size) → xInv1 [.int .i64 i1, .int .i64 l, .int .i64 l1, .int .i64 l2, .slice l3O l3L l3C] wv2 →
    ((decide (i1 < ((weightsL : Nat) : Int))) = true →
    Ix weightsO weightsL i1 ∧
    (∃ (x1 : Int),
    CellsX [b, b1] wv2 weightsO (Int.toNat i1 * 1) [.int .i64 x1] ∧
    (∀ b3, wv2.heap.size ≤ b3 →
    (some (ty_impl_Queue, ([.int .i64 l, .int .i64 l1, .int .i64 l2, .slice l3O l3L l3C] : List Value)) = some (ty_impl_Queue, ([.int .i64 l, .int .i64 l1, .int .i64 l2, .slice l3O l3L l3C] : List Value))) ∧
    (∀ wr4, ExtX [b, b1] wv2 wr4 → (∀ bq ∈ ([b, b1, b3] : List Nat), bq < wr4.heap.size) → wr4.heap[b3]? = some (Obj.cells ([.bool false, .int .i64 0, .int .i64 x1, .int .i64 0] : List Value).toArray ty_impl_Entry (0, 0)) → 
    (∃ (ap1O : Option Addr) (ap1L : Nat) (ap1C : Nat),
    ∃ wv3, (builtin .append #[ty_sl_impl_Entry, ty_sl_impl_Entry] ty_sl_impl_Entry #[false, false] #[.slice l3O l3L l3C, .slice (some (Addr.mk b3 0 none)) 1 1]).run Try.prog wr4 = .ok (.value (.slice ap1O ap1L ap1C)) wv3 ∧ Kept [b, b1, b3] wr4 wv3 ∧
    InR .i64 (i1 + 1) ∧
    (∀ wr5, ExtX [b, b1, b3] wv3 wr5 → (∀ bq ∈ ([b, b1, b3] : List Nat), bq < wr5.heap.size) → xInv1 [.int .i64 (i1 + 1), .int .i64 l, .int .i64 l1, .int .i64 l2, .slice ap1O ap1L ap1C] wr5 ∧ mu1 [.int .i64 (i1 + 1), .int .i64 l, .int .i64 l1, .int .i64 l2, .slice ap1O ap1L ap1C] wr5 < mu1 [.int .i64 i1, .int .i64 l, .int .i64 l1, .int .i64 l2, .slice l3O l3L l3C] wv2)))))) ∧
    ((decide (i1 < ((weightsL : Nat) : Int))) = false →
    (∃ (xQueueO : Bool),
    PureX [b, b1] Try.prog fn_spec_QueueOk #[.agg #[.int .i64 l, .int .i64 l1, .int .i64 l2, .slice l3O l3L l3C]] wv2 (.bool xQueueO) ∧
    ((!xQueueO) = true →
    (∀ wr6, ExtX [b, b1] wv2 wr6 → R (.tuple #[.agg #[.int .i64 0, .int .i64 0, .int .i64 0, .slice none 0 0], .bool false]) wr6)) ∧
    ((!xQueueO) = false →
    (∀ wr7, ExtX [b, b1] wv2 wr7 → R (.tuple #[.agg #[.int .i64 l, .int .i64 l1, .int .i64 l2, .slice l3O l3L l3C], .bool true]) wr7)))))))))
theorem v_spec_QueueNew (weightsO : Option Addr) (weightsL : Nat) (weightsC : Nat) (w : World) (R : Value → World → Prop) : evFn c_spec_QueueNew s_spec_QueueNew [.slice weightsO weightsL weightsC] (bodyOf Try.f93) Try.f93.results.toList w R = V_spec_QueueNew weightsO weightsL weightsC w R := by kernel_rfl
theorem e_spec_QueueNew (weightsO : Option Addr) (weightsL : Nat) (weightsC : Nat) {w : World} {R : Value → World → Prop} (hvc : V_spec_QueueNew weightsO weightsL weightsC w R) : Calls Try.prog fn_spec_QueueNew #[.slice weightsO weightsL weightsC] w fun e0 wr0 => ∃ v0, e0 = .returned v0 ∧ R v0 wr0 :=
  eff_of_ev (C := c_spec_QueueNew) (sps := s_spec_QueueNew) (body := bodyOf Try.f93) (env _ _ _) Try.func93 rfl rfl (of_decide_eq_true (by kernel_rfl)) (of_decide_eq_true (by kernel_rfl)) rfl (by rw [v_spec_QueueNew]; exact hvc)
noncomputable def c_spec_l20Rd_queue : Cfg := { P := Try.prog, T := tblGet tbl, pf := pfT, ef := efT, tt := ttT, vis := [], n := 65, pm := false }
noncomputable def s_spec_l20Rd_queue : List (Nat × LSpec) := [(1000004, { chg := [(3, .int .i64)], chgL := [], keep := [0, 2] }), (6, { chg := [(4, .slice), (5, .int .i64)], chgL := [], keep := [0, 2, 3] }), (11, { chg := [(8, .int .i64)], chgL := [(1, [.int .i64, .int .i64, .int .i64, .slice])], keep := [0, 2, 3, 6] }), (17, { chg := [(10, .int .i64)], chgL := [(1, [.int .i64, .int .i64, .int .i64, .slice])], keep := [0, 2, 3, 6, 9] })]
def V_spec_l20Rd_queue (r : Option Addr) (w : World) (R : Value → World → Prop) : Prop :=
    (∀ b, w.heap.size ≤ b →
    (∀ wr, ExtX [] w wr → (∀ bq ∈ ([b] : List Nat), bq < wr.heap.size) → 
    Calls Try.prog fn_spec_l20Rd_pick #[.pointer r, .int .i64 5] wr fun e wv =>
    (∃ (pick : Int),
    e = .returned (.int .i64 pick) ∧ Kept [b] wr wv ∧
    InR .i64 (1 + pick) ∧
    (∃ (Mid : List Value → List Nat → World → Prop),
    ((∀ wr1, ExtX [b] wv wr1 → (∀ bq ∈ ([b] : List Nat), bq < wr1.heap.size) → 
    Calls Try.prog fn_spec_l20Rd_pick #[.pointer r, .int .i64 24] wr1 fun e1 wv1 =>
    (∃ (pick1 : Int),
    e1 = .returned (.int .i64 pick1) ∧ Kept [b] wr1 wv1 ∧
    ((pick1 == 0) = true →
    (∀ wr2, ExtX [b] wv1 wr2 → (∀ bq ∈ ([b] : List Nat), bq < wr2.heap.size) → Mid [.int .i64 20] [] wr2)) ∧
    ((pick1 == 0) = false →
    (∀ wr3, ExtX [b] wv1 wr3 → (∀ bq ∈ ([b] : List Nat), bq < wr3.heap.size) → Mid [.int .i64 (1 + pick)] [] wr3))))) ∧
    (∀ (n : Int) (wv2 : World), (∀ bq ∈ ([b] : List Nat), bq < wv2.heap.size) → Mid [.int .i64 n] [] wv2 →
    (∃ (xInv : List Value → World → Prop) (mu : List Value → World → Nat), (∀ wr4, ExtX [b] wv2 wr4 → (∀ bq ∈ ([b] : List Nat), bq < wr4.heap.size) → xInv [.slice none 0 0, .int .i64 0] wr4) ∧
    ∀ (weightsO : Option Addr) (weightsL : Nat) (weightsC : Nat) (i : Int) wv3, (∀ bq ∈ ([b] : List Nat), bq < wv3.heap.size) → xInv [.slice weightsO weightsL weightsC, .int .i64 i] wv3 →
    ((decide (i < n)) = true →
    (∀ wr5, ExtX [b] wv3 wr5 → (∀ bq ∈ ([b] : List Nat), bq < wr5.heap.size) → 
    Calls Try.prog fn_spec_l20Rd_weight #[.pointer r] wr5 fun e2 wv4 =>
    (∃ (weight : Int),
    e2 = .returned (.int .i64 weight) ∧ Kept [b] wr5 wv4 ∧
    (∃ (l1Max : Int),
    PureX [b] Try.prog fn_spec_l1Max #[.int .i64 weight, .int .i64 1] wv4 (.int .i64 l1Max) ∧
    (∃ (l1Min : Int),
    PureX [b] Try.prog fn_spec_l1Min #[.int .i64 l1Max, .int .i64 20] wv4 (.int .i64 l1Min) ∧
    (∀ b1, wv4.heap.size ≤ b1 →
    (∀ wr6, ExtX [b] wv4 wr6 → (∀ bq ∈ ([b, b1] : List Nat), bq < wr6.heap.size) → wr6.heap[b1]? = some (Obj.cells ([.int .i64 l1Min] : List Value).toArray ty_int (0, 0)) → 
    (∃ (apO : Option Addr) (apL : Nat) (apC : Nat),
    ∃ wv5, (builtin .append #[ty_sl_int, ty_sl_int] ty_sl_int #[false, false] #[.slice weightsO weightsL weightsC, .slice (some (Addr.mk b1 0 none)) 1 1]).run Try.prog wr6 = .ok (.value (.slice apO apL apC)) wv5 ∧ Kept [b, b1] wr6 wv5 ∧
    InR .i64 (i + 1) ∧
    (∀ wr7, ExtX [b, b1] wv5 wr7 → (∀ bq ∈ ([b, b1] : List Nat), bq < wr7.heap.size) → xInv [.slice apO apL apC, .int .i64 (i + 1)] wr7 ∧ mu [.slice apO apL apC, .int .i64 (i + 1)] wr7 < mu [.slice weightsO weightsL weightsC, .int .i64 i] wv3))))))))) ∧
    ((decide (i < n)) = false →
    (∀ wr8, ExtX [b] wv3 wr8 → (∀ bq ∈ ([b] : List Nat), bq < wr8.heap.size) → 
    Calls Try.prog fn_spec_QueueNew #[.slice weightsO weightsL weightsC] wr8 fun e3 wv6 =>
    (∃ (xQueueN : Int) (xQueueN1 : Int) (xQueueN2 : Int) (xQueueN3O : Option Addr) (xQueueN3L : Nat) (xQueueN3C : Nat) (xQueueN4 : Bool),
    e3 = .returned (.tuple #[.agg #[.int .i64 xQueueN, .int .i64 xQueueN1, .int .i64 xQueueN2, .slice xQueueN3O xQueueN3L xQueueN3C], .bool xQueueN4]) ∧ Kept [b] wr8 wv6 ∧
    (∀ b2, wv6.heap.size ≤ b2 →
    (∃ (xInv2 : List Value → World → Prop) (mu2 : List Value → World → Nat), (∀ wr12, ExtX [b] wv6 wr12 → (∀ bq ∈ ([b, b2] : List Nat), bq < wr12.heap.size) → xInv2 [.int .i64 0, .int .i64 xQueueN, .int .i64 xQueueN1, .int .i64 xQueueN2, .slice xQueueN3O xQueueN3L xQueueN3C] wr12) ∧
    ∀ (i2 : Int) (l : Int) (l1 : Int) (l2 : Int) (l3O : Option Addr) (l3L : Nat) (l3C : Nat) wv10, (∀ bq ∈ ([b, b2] : List Nat), bq < wv10.heap.size) → xInv2 [.int .i64 i2, .int .i64 l, .int .i64 l1, .int .i64 l2, .slice l3O l3L l3C] wv10 →
    ((decide (i2 < n)) = true →
    (∀ wr13, ExtX [b, b2] wv10 wr13 → (∀ bq ∈ ([b, b2] : List Nat), bq < wr13.heap.size) → 
    Calls Try.prog fn_spec_l20Rd_pick #[.pointer r, .int .i64 4] wr13 fun e6 wv11 =>
    (∃ (pick3 : Int),
    e6 = .returned (.int .i64 pick3) ∧ Kept [b, b2] wr13 wv11 ∧
    ((decide (pick3 > 0)) = true →
    (∀ wr14, ExtX [b, b2] wv11 wr14 → (∀ bq ∈ ([b, b2] : List Nat), bq < wr14.heap.size) → 
    Calls Try.prog fn_spec_QueueDo #[.agg #[.int .i64 l, .int .i64 l1, .int .i64 l2, .slice l3O l3L l3C], .agg #[.int .i64 1, .int .i64 i2, .int .i64 0]] wr14 fun e7 wv12 =>
    (∃ (xQueueD5 : Int) (xQueueD6 : Int) (xQueueD7 : Int) (xQueueD8O : Option Addr) (xQueueD8L : Nat) (xQueueD8C : Nat) (xQueueD9 : Bool),
    e7 = .returned (.tuple #[.agg #[.int .i64 xQueueD5, .int .i64 xQueueD6, .int .i64 xQueueD7, .slice xQueueD8O xQueueD8L xQueueD8C], .bool xQueueD9]) ∧ Kept [b, b2] wr14 wv12 ∧
    InR .i64 (i2 + 1) ∧
    (∀ wr15, ExtX [b, b2] wv12 wr15 → (∀ bq ∈ ([b, b2] : List Nat), bq < wr15.heap.size) → xInv2 [.int .i64 (i2 + 1), .int .i64 xQueueD5, .int .i64 xQueueD6, .int .i64 xQueueD7, .slice xQueueD8O xQueueD8L xQueueD8C] wr15 ∧ mu2 [.int .i64 (i2 + 1), .int .i64 xQueueD5, .int .i64 xQueueD6, .int .i64 xQueueD7, .slice xQueueD8O xQueueD8L xQueueD8C] wr15 < mu2 [.int .i64 i2, .int .i64 l, .int .i64 l1, .int .i64 l2, .slice l3O l3L l3C] wv10)))) ∧
    ((decide (pick3 > 0)) = false →
    InR .i64 (i2 + 1) ∧
    (∀ wr16, ExtX [b, b2] wv11 wr16 → (∀ bq ∈ ([b, b2] : List Nat), bq < wr16.heap.size) → xInv2 [.int .i64 (i2 + 1), .int .i64 l, .int .i64 l1, .int .i64 l2, .slice l3O l3L l3C] wr16 ∧ mu2 [.int .i64 (i2 + 1), .int .i64 l, .int .i64 l1, .int .i64 l2, .slice l3O l3L l3C] wr16 < mu2 [.int .i64 i2, .int .i64 l, .int .i64 l1, .int .i64 l2, .slice l3O l3L l3C] wv10))))) ∧
    ((decide (i2 < n)) = false →
    (∀ wr17, ExtX [b, b2] wv10 wr17 → (∀ bq ∈ ([b, b2] : List Nat), bq < wr17.heap.size) → 
    Calls Try.prog fn_spec_l20Rd_pick #[.pointer r, .int .i64 20] wr17 fun e8 wv13 =>
    (∃ (pick4 : Int),
    e8 = .returned (.int .i64 pick4) ∧ Kept [b, b2] wr17 wv13 ∧
    (∃ (xInv4 : List Value → World → Prop) (mu4 : List Value → World → Nat), (∀ wr21, ExtX [b, b2] wv13 wr21 → (∀ bq ∈ ([b, b2] : List Nat), bq < wr21.heap.size) → xInv4 [.int .i64 0, .int .i64 l, .int .i64 l1, .int .i64 l2, .slice l3O l3L l3C] wr21) ∧
    ∀ (i4 : Int) (l4 : Int) (l5 : Int) (l6 : Int) (l7O : Option Addr) (l7L : Nat) (l7C : Nat) wv17, (∀ bq ∈ ([b, b2] : List Nat), bq < wv17.heap.size) → xInv4 [.int .i64 i4, .int .i64 l4, .int .i64 l5, .int .i64 l6, .slice l7O l7L l7C] wv17 →
    ((decide (i4 < pick4)) = true →
    (∀ wr22, ExtX [b, b2] wv17 wr22 → (∀ bq ∈ ([b, b2] : List Nat), bq < wr22.heap.size) → 
    Calls Try.prog fn_spec_l20Rd_op #[.pointer r, .int .i64 n] wr22 fun e11 wv18 =>
    (∃ (op3 : Int) (op4 : Int) (op5 : Int),
    e11 = .returned (.agg #[.int .i64 op3, .int .i64 op4, .int .i64 op5]) ∧ Kept [b, b2] wr22 wv18 ∧
    (some (ty_impl_Queue, ([.int .i64 l4, .int .i64 l5, .int .i64 l6, .slice l7O l7L l7C] : List Value)) = some (ty_impl_Queue, ([.int .i64 l4, .int .i64 l5, .int .i64 l6, .slice l7O l7L l7C] : List Value))) ∧
    (∀ wr23, ExtX [b, b2] wv18 wr23 → (∀ bq ∈ ([b, b2] : List Nat), bq < wr23.heap.size) → 
    Calls Try.prog fn_spec_QueueDo #[.agg #[.int .i64 l4, .int .i64 l5, .int .i64 l6, .slice l7O l7L l7C], .agg #[.int .i64 op3, .int .i64 op4, .int .i64 op5]] wr23 fun e12 wv19 =>
    (∃ (xQueueD15 : Int) (xQueueD16 : Int) (xQueueD17 : Int) (xQueueD18O : Option Addr) (xQueueD18L : Nat) (xQueueD18C : Nat) (xQueueD19 : Bool),
    e12 = .returned (.tuple #[.agg #[.int .i64 xQueueD15, .int .i64 xQueueD16, .int .i64 xQueueD17, .slice xQueueD18O xQueueD18L xQueueD18C], .bool xQueueD19]) ∧ Kept [b, b2] wr23 wv19 ∧
    InR .i64 (i4 + 1) ∧
    (∀ wr24, ExtX [b, b2] wv19 wr24 → (∀ bq ∈ ([b, b2] : List Nat), bq < wr24.heap.size) → xInv4 [.int .i64 (i4 + 1), .int .i64 xQueueD15, .int .i64 xQueueD16, .int .i64 xQueueD17, .slice xQueueD18O xQueueD18L xQueueD18C] wr24 ∧ mu4 [.int .i64 (i4 + 1), .int .i64 xQueueD15, .int .i64 xQueueD16, .int .i64 xQueueD17, .slice xQueueD18O xQueueD18L xQueueD18C] wr24 < mu4 [.int .i64 i4, .int .i64 l4, .int .i64 l5, .int .i64 l6, .slice l7O l7L l7C] wv17)))))) ∧
    ((decide (i4 < pick4)) = false →
    (∀ wr25, ExtX [b, b2] wv17 wr25 → R (.agg #[.int .i64 l4, .int .i64 l5, .int .i64 l6, .slice l7O l7L l7C]) wr25)))))))))))))))))
theorem v_spec_l20Rd_queue (r : Option Addr) (w : World) (R : Value → World → Prop) : evFn c_spec_l20Rd_queue s_spec_l20Rd_queue [.pointer r] (bodyOf Try.f46) Try.f46.results.toList w R = V_spec_l20Rd_queue r w R := by kernel_rfl
theorem e_spec_l20Rd_queue (r : Option Addr) {w : World} {R : Value → World → Prop} (hvc : V_spec_l20Rd_queue r w R) : Calls Try.prog fn_spec_l20Rd_queue #[.pointer r] w fun e0 wr0 => ∃ v0, e0 = .returned v0 ∧ R v0 wr0 :=
  eff_of_ev (C := c_spec_l20Rd_queue) (sps := s_spec_l20Rd_queue) (body := bodyOf Try.f46) (env _ _ _) Try.func46 rfl rfl (of_decide_eq_true (by kernel_rfl)) (of_decide_eq_true (by kernel_rfl)) rfl (by rw [v_spec_l20Rd_queue]; exact hvc)
noncomputable def c_spec_GoodQueue : Cfg := { P := Try.prog, T := tblGet tbl, pf := pfT, ef := efT, tt := ttT, vis := [], n := 41, pm := false }
noncomputable def s_spec_GoodQueue : List (Nat × LSpec) := [(6, { chg := [(6, .slice), (8, .int .i64)], chgL := [], keep := [2, 4, 5, 7] })]
def V_spec_GoodQueue (codeO : Option Addr) (codeL : Nat) (codeC : Nat) (w : World) (R : Value → World → Prop) : Prop :=
    (∀ b, w.heap.size ≤ b →
    (∀ wr, ExtX [] w wr → (∀ bq ∈ ([b] : List Nat), bq < wr.heap.size) → 
    Calls Try.prog fn_spec_l20Open #[.slice codeO codeL codeC] wr fun e wv =>
    (∃ (l20Ope : Option Addr),
    e = .returned (.pointer l20Ope) ∧ Kept [b] wr wv ∧
    (∀ wr1, ExtX [b] wv wr1 → (∀ bq ∈ ([b] : List Nat), bq < wr1.heap.size) → 
    Calls Try.prog fn_spec_l20Rd_queue #[.pointer l20Ope] wr1 fun e1 wv1 =>
    (∃ (queue : Int) (queue1 : Int) (queue2 : Int) (queue3O : Option Addr) (queue3L : Nat) (queue3C : Nat),
    e1 = .returned (.agg #[.int .i64 queue, .int .i64 queue1, .int .i64 queue2, .slice queue3O queue3L queue3C]) ∧ Kept [b] wr1 wv1 ∧
    (∀ b1, wv1.heap.size ≤ b1 →
    (∀ wr2, ExtX [b] wv1 wr2 → (∀ bq ∈ ([b, b1] : List Nat), bq < wr2.heap.size) → 
    Calls Try.prog fn_spec_l20Rd_pick #[.pointer l20Ope, .int .i64 60] wr2 fun e2 wv2 =>
    (∃ (pick : Int),
    e2 = .returned (.int .i64 pick) ∧ Kept [b, b1] wr2 wv2 ∧
    InR .i64 (4 + pick) ∧
    (∃ (xInv : List Value → World → Prop) (mu : List Value → World → Nat), (∀ wr3, ExtX [b, b1] wv2 wr3 → (∀ bq ∈ ([b, b1] : List Nat), bq < wr3.heap.size) → xInv [.slice none 0 0, .int .i64 0] wr3) ∧
    ∀ (opsO : Option Addr) (opsL : Nat) (opsC : Nat) (i : Int) wv3, (∀ bq ∈ ([b, b1] : List Nat), bq < wv3.heap.size) → xInv [.slice opsO opsL opsC, .int .i64 i] wv3 →
    ((decide (i < 4 + pick)) = true →
    (∀ wr4, ExtX [b, b1] wv3 wr4 → (∀ bq ∈ ([b, b1] : List Nat), bq < wr4.heap.size) → 
    Calls Try.prog fn_spec_l20Rd_pick #[.pointer l20Ope, .int .i64 5] wr4 fun e3 wv4 =>
    (∃ (pick1 : Int),
    e3 = .returned (.int .i64 pick1) ∧ Kept [b, b1] wr4 wv4 ∧
    ((decide (pick1 > 0)) = true →
    (∀ wr5, ExtX [b, b1] wv4 wr5 → (∀ bq ∈ ([b, b1] : List Nat), bq < wr5.heap.size) → 
    Calls Try.prog fn_spec_l20Rd_pick #[.pointer l20Ope, .int .i64 100] wr5 fun e4 wv5 =>
    (∃ (pick2 : Int),
    e4 = .returned (.int .i64 pick2) ∧ Kept [b, b1] wr5 wv5 ∧
    InR .i64 (1 + pick2) ∧
    (∀ b2, wv5.heap.size ≤ b2 →
    (∀ wr6, ExtX [b, b1] wv5 wr6 → (∀ bq ∈ ([b, b1, b2] : List Nat), bq < wr6.heap.size) → wr6.heap[b2]? = some (Obj.cells ([.int .i64 3, .int .i64 0, .int .i64 (1 + pick2)] : List Value).toArray ty_impl_QueueOp (0, 0)) → 
    (∃ (apO : Option Addr) (apL : Nat) (apC : Nat),
    ∃ wv6, (builtin .append #[ty_sl_impl_QueueOp, ty_sl_impl_QueueOp] ty_sl_impl_QueueOp #[false, false] #[.slice opsO opsL opsC, .slice (some (Addr.mk b2 0 none)) 1 1]).run Try.prog wr6 = .ok (.value (.slice apO apL apC)) wv6 ∧ Kept [b, b1, b2] wr6 wv6 ∧
    InR .i64 (i + 1) ∧
    (∀ wr7, ExtX [b, b1, b2] wv6 wr7 → (∀ bq ∈ ([b, b1, b2] : List Nat), bq < wr7.heap.size) → xInv [.slice apO apL apC, .int .i64 (i + 1)] wr7 ∧ mu [.slice apO apL apC, .int .i64 (i + 1)] wr7 < mu [.slice opsO opsL opsC, .int .i64 i] wv3))))))) ∧
    ((decide (pick1 > 0)) = false →
    (∀ wr8, ExtX [b, b1] wv4 wr8 → (∀ bq ∈ ([b, b1] : List Nat), bq < wr8.heap.size) → 
    Calls Try.prog fn_spec_l20Rd_op #[.pointer l20Ope, .int .i64 ((queue3L : Nat) : Int)] wr8 fun e5 wv7 =>
    (∃ (op : Int) (op1 : Int) (op2 : Int),
    e5 = .returned (.agg #[.int .i64 op, .int .i64 op1, .int .i64 op2]) ∧ Kept [b, b1] wr8 wv7 ∧
    (∀ b3, wv7.heap.size ≤ b3 →
    (∀ wr9, ExtX [b, b1] wv7 wr9 → (∀ bq ∈ ([b, b1, b3] : List Nat), bq < wr9.heap.size) → wr9.heap[b3]? = some (Obj.cells ([.int .i64 op, .int .i64 op1, .int .i64 op2] : List Value).toArray ty_impl_QueueOp (0, 0)) → 
    (∃ (ap1O : Option Addr) (ap1L : Nat) (ap1C : Nat),
    ∃ wv8, (builtin .append #[ty_sl_impl_QueueOp, ty_sl_impl_QueueOp] ty_sl_impl_QueueOp #[false, false] #[.slice opsO opsL opsC, .slice (some (Addr.mk b3 0 none)) 1 1]).run Try.prog wr9 = .ok (.value (.slice ap1O ap1L ap1C)) wv8 ∧ Kept [b, b1, b3] wr9 wv8 ∧
    InR .i64 (i + 1) ∧
    (∀ wr10, ExtX [b, b1, b3] wv8 wr10 → (∀ bq ∈ ([b, b1, b3] : List Nat), bq < wr10.heap.size) → xInv [.slice ap1O ap1L ap1C, .int .i64 (i + 1)] wr10 ∧ mu [.slice ap1O ap1L ap1C, .int .i64 (i + 1)] wr10 < mu [.slice opsO opsL opsC, .int .i64 i] wv3)))))))))) ∧
    ((decide (i < 4 + pick)) = false →
    (∀ wr11, ExtX [b, b1] wv3 wr11 → R (.tuple #[.agg #[.int .i64 queue, .int .i64 queue1, .int .i64 queue2, .slice queue3O queue3L queue3C], .slice opsO opsL opsC]) wr11)))))))))))
theorem v_spec_GoodQueue (codeO : Option Addr) (codeL : Nat) (codeC : Nat) (w : World) (R : Value → World → Prop) : evFn c_spec_GoodQueue s_spec_GoodQueue [.slice codeO codeL codeC] (bodyOf Try.f14) Try.f14.results.toList w R = V_spec_GoodQueue codeO codeL codeC w R := by kernel_rfl
theorem e_spec_GoodQueue (codeO : Option Addr) (codeL : Nat) (codeC : Nat) {w : World} {R : Value → World → Prop} (hvc : V_spec_GoodQueue codeO codeL codeC w R) : Calls Try.prog fn_spec_GoodQueue #[.slice codeO codeL codeC] w fun e0 wr0 => ∃ v0, e0 = .returned v0 ∧ R v0 wr0 :=
  eff_of_ev (C := c_spec_GoodQueue) (sps := s_spec_GoodQueue) (body := bodyOf Try.f14) (env _ _ _) Try.func14 rfl rfl (of_decide_eq_true (by kernel_rfl)) (of_decide_eq_true (by kernel_rfl)) rfl (by rw [v_spec_GoodQueue]; exact hvc)
noncomputable def c_laws_stByte : Cfg := { P := Try.prog, T := tblGet tbl, pf := pfT, ef := efT, tt := ttT, vis := [], n := 17, pm := true }
noncomputable def s_laws_stByte : List (Nat × LSpec) := []
def V_laws_stByte (bO : Option Addr) (bL : Nat) (bC : Nat) (i : Int) (w : World) (R : Value → World → Prop) : Prop :=
    ((decide (i < ((bL : Nat) : Int))) = true →
    Ix bO bL i ∧
    (∃ (x : Int),
    CellsX [] w bO (Int.toNat i * 1) [.int .u8 x] ∧
    InR .i64 x ∧
    R (.int .i64 x) w)) ∧
    ((decide (i < ((bL : Nat) : Int))) = false →
    InR .i64 (i * 37) ∧
    (251 : Int) ≠ 0 ∧
    R (.int .i64 (Int.tmod (i * 37) 251)) w)
theorem v_laws_stByte (bO : Option Addr) (bL : Nat) (bC : Nat) (i : Int) (w : World) (R : Value → World → Prop) : evFn c_laws_stByte s_laws_stByte [.slice bO bL bC, .int .i64 i] (bodyOf Try.f15) Try.f15.results.toList w R = V_laws_stByte bO bL bC i w R := by kernel_rfl
theorem p_laws_stByte (bO : Option Addr) (bL : Nat) (bC : Nat) (i : Int) {w : World} {bs : List Nat} {ret : Value} (hvc : ∀ wr0, ExtX bs w wr0 → V_laws_stByte bO bL bC i wr0 fun v0 _ => v0 = ret) : PureX bs Try.prog fn_laws_stByte #[.slice bO bL bC, .int .i64 i] w ret :=
  pure_of_ev (C := c_laws_stByte) (sps := s_laws_stByte) (body := bodyOf Try.f15) (env _ _ _) Try.func15 rfl rfl (of_decide_eq_true (by kernel_rfl)) (of_decide_eq_true (by kernel_rfl)) rfl fun wr0 hx0 => by rw [v_laws_stByte]; exact hvc wr0 hx0
noncomputable def c_impl_timeOk : Cfg := { P := Try.prog, T := tblGet tbl, pf := pfT, ef := efT, tt := ttT, vis := [], n := 15, pm := true }
noncomputable def s_impl_timeOk : List (Nat × LSpec) := [(2, { chg := [(7, .int .i64)], chgL := [], keep := [5, 6] })]
def V_impl_timeOk (timesO : Option Addr) (timesL : Nat) (timesC : Nat) (w : World) (R : Value → World → Prop) : Prop :=
    (∃ (xInv : List Value → Prop) (mu : List Value → Nat), xInv [.int .i64 0] ∧
    ∀ (x : Int), xInv [.int .i64 x] →
    ((decide (x < ((timesL : Nat) : Int))) = true →
    Ix timesO timesL x ∧
    (∃ (x1 : Int),
    CellsX [] w timesO (Int.toNat x * 1) [.int .i64 x1] ∧
    (∃ (inRang : Bool),
    PureX [] Try.prog fn_impl_inRange #[.int .i64 x1, .int .i64 0, .int .i64 100000000000000000] w (.bool inRang) ∧
    ((!inRang) = true →
    R (.bool false) w) ∧
    ((!inRang) = false →
    InR .i64 (x + 1) ∧
    xInv [.int .i64 (x + 1)] ∧ mu [.int .i64 (x + 1)] < mu [.int .i64 x])))) ∧
    ((decide (x < ((timesL : Nat) : Int))) = false →
    R (.bool true) w))
theorem v_impl_timeOk (timesO : Option Addr) (timesL : Nat) (timesC : Nat) (w : World) (R : Value → World → Prop) : evFn c_impl_timeOk s_impl_timeOk [.slice timesO timesL timesC] (bodyOf Try.f64) Try.f64.results.toList w R = V_impl_timeOk timesO timesL timesC w R := by kernel_rfl
theorem p_impl_timeOk (timesO : Option Addr) (timesL : Nat) (timesC : Nat) {w : World} {bs : List Nat} {ret : Value} (hvc : ∀ wr0, ExtX bs w wr0 → V_impl_timeOk timesO timesL timesC wr0 fun v0 _ => v0 = ret) : PureX bs Try.prog fn_impl_timeOk #[.slice timesO timesL timesC] w ret :=
  pure_of_ev (C := c_impl_timeOk) (sps := s_impl_timeOk) (body := bodyOf Try.f64) (env _ _ _) Try.func64 rfl rfl (of_decide_eq_true (by kernel_rfl)) (of_decide_eq_true (by kernel_rfl)) rfl fun wr0 hx0 => by rw [v_impl_timeOk]; exact hvc wr0 hx0
noncomputable def c_impl_weightOk : Cfg := { P := Try.prog, T := tblGet tbl, pf := pfT, ef := efT, tt := ttT, vis := [], n := 5, pm := true }
noncomputable def s_impl_weightOk : List (Nat × LSpec) := []
def V_impl_weightOk (weight : Int) (w : World) (R : Value → World → Prop) : Prop :=
    (∃ (inRang : Bool),
    PureX [] Try.prog fn_impl_inRange #[.int .i64 weight, .int .i64 1, .int .i64 20] w (.bool inRang) ∧
    R (.bool inRang) w)
theorem v_impl_weightOk (weight : Int) (w : World) (R : Value → World → Prop) : evFn c_impl_weightOk s_impl_weightOk [.int .i64 weight] (bodyOf Try.f65) Try.f65.results.toList w R = V_impl_weightOk weight w R := by kernel_rfl
theorem p_impl_weightOk (weight : Int) {w : World} {bs : List Nat} {ret : Value} (hvc : ∀ wr0, ExtX bs w wr0 → V_impl_weightOk weight wr0 fun v0 _ => v0 = ret) : PureX bs Try.prog fn_impl_weightOk #[.int .i64 weight] w ret :=
  pure_of_ev (C := c_impl_weightOk) (sps := s_impl_weightOk) (body := bodyOf Try.f65) (env _ _ _) Try.func65 rfl rfl (of_decide_eq_true (by kernel_rfl)) (of_decide_eq_true (by kernel_rfl)) rfl fun wr0 hx0 => by rw [v_impl_weightOk]; exact hvc wr0 hx0
noncomputable def c_impl_weightSteps : Cfg := { P := Try.prog, T := tblGet tbl, pf := pfT, ef := efT, tt := ttT, vis := [], n := 12, pm := true }
noncomputable def s_impl_weightSteps : List (Nat × LSpec) := [(3, { chg := [(2, .int .i64)], chgL := [(1, [.int .i64, .int .i64, .int .i64, .int .i64, .int .i64, .int .i64, .int .i64, .int .i64, .int .i64, .int .i64, .int .i64, .int .i64, .int .i64, .int .i64, .int .i64, .int .i64, .int .i64, .int .i64, .int .i64, .int .i64, .int .i64])], keep := [0, 1] })]
def V_impl_weightSteps (w : World) (R : Value → World → Prop) : Prop :=
    (∀ b, w.heap.size ≤ b →
    (∀ b1, w.heap.size ≤ b1 →
    (∃ (xInv1 : List Value → Prop) (mu1 : List Value → Nat), xInv1 [.int .i64 1, .int .i64 0, .int .i64 0, .int .i64 0, .int .i64 0, .int .i64 0, .int .i64 0, .int .i64 0, .int .i64 0, .int .i64 0, .int .i64 0, .int .i64 0, .int .i64 0, .int .i64 0, .int .i64 0, .int .i64 0, .int .i64 0, .int .i64 0, .int .i64 0, .int .i64 0, .int .i64 0, .int .i64 0] ∧
    ∀ (weight1 : Int) (l : Int) (l1 : Int) (l2 : Int) (l3 : Int) (l4 : Int) (l5 : Int) (l6 : Int) (l7 : Int) (l8 : Int) (l9 : Int) (l10 : Int) (l11 : Int) (l12 : Int) (l13 : Int) (l14 : Int) (l15 : Int) (l16 : Int) (l17 : Int) (l18 : Int) (l19 : Int) (l20 : Int), xInv1 [.int .i64 weight1, .int .i64 l, .int .i64 l1, .int .i64 l2, .int .i64 l3, .int .i64 l4, .int .i64 l5, .int .i64 l6, .int .i64 l7, .int .i64 l8, .int .i64 l9, .int .i64 l10, .int .i64 l11, .int .i64 l12, .int .i64 l13, .int .i64 l14, .int .i64 l15, .int .i64 l16, .int .i64 l17, .int .i64 l18, .int .i64 l19, .int .i64 l20] →
    ((decide (weight1 ≤ 20)) = true →
    (weight1 ≠ 0 ∧ InR .i64 (Int.tdiv 232792560 weight1)) ∧
    (0 ≤ weight1 ∧ weight1 < ((21 : Nat) : Int)) ∧
    (Int.toNat weight1 + 0 < 21) ∧
    (∃ (l21 : Int) (l22 : Int) (l23 : Int) (l24 : Int) (l25 : Int) (l26 : Int) (l27 : Int) (l28 : Int) (l29 : Int) (l30 : Int) (l31 : Int) (l32 : Int) (l33 : Int) (l34 : Int) (l35 : Int) (l36 : Int) (l37 : Int) (l38 : Int) (l39 : Int) (l40 : Int) (l41 : Int),
    ([.int .i64 l, .int .i64 l1, .int .i64 l2, .int .i64 l3, .int .i64 l4, .int .i64 l5, .int .i64 l6, .int .i64 l7, .int .i64 l8, .int .i64 l9, .int .i64 l10, .int .i64 l11, .int .i64 l12, .int .i64 l13, .int .i64 l14, .int .i64 l15, .int .i64 l16, .int .i64 l17, .int .i64 l18, .int .i64 l19, .int .i64 l20] : List Value).set (Int.toNat weight1 + 0) (.int .i64 (Int.tdiv 232792560 weight1)) = [.int .i64 l21, .int .i64 l22, .int .i64 l23, .int .i64 l24, .int .i64 l25, .int .i64 l26, .int .i64 l27, .int .i64 l28, .int .i64 l29, .int .i64 l30, .int .i64 l31, .int .i64 l32, .int .i64 l33, .int .i64 l34, .int .i64 l35, .int .i64 l36, .int .i64 l37, .int .i64 l38, .int .i64 l39, .int .i64 l40, .int .i64 l41] ∧
    InR .i64 (weight1 + 1) ∧
    xInv1 [.int .i64 (weight1 + 1), .int .i64 l21, .int .i64 l22, .int .i64 l23, .int .i64 l24, .int .i64 l25, .int .i64 l26, .int .i64 l27, .int .i64 l28, .int .i64 l29, .int .i64 l30, .int .i64 l31, .int .i64 l32, .int .i64 l33, .int .i64 l34, .int .i64 l35, .int .i64 l36, .int .i64 l37, .int .i64 l38, .int .i64 l39, .int .i64 l40, .int .i64 l41] ∧ mu1 [.int .i64 (weight1 + 1), .int .i64 l21, .int .i64 l22, .int .i64 l23, .int .i64 l24, .int .i64 l25, .int .i64 l26, .int .i64 l27, .int .i64 l28, .int .i64 l29, .int .i64 l30, .int .i64 l31, .int .i64 l32, .int .i64 l33, .int .i64 l34, .int .i64 l35, .int .i64 l36, .int .i64 l37, .int .i64 l38, .int .i64 l39, .int .i64 l40, .int .i64 l41] < mu1 [.int .i64 weight1, .int .i64 l, .int .i64 l1, .int .i64 l2, .int .i64 l3, .int .i64 l4, .int .i64 l5, .int .i64 l6, .int .i64 l7, .int .i64 l8, .int .i64 l9, .int .i64 l10, .int .i64 l11, .int .i64 l12, .int .i64 l13, .int .i64 l14, .int .i64 l15, .int .i64 l16, .int .i64 l17, .int .i64 l18, .int .i64 l19, .int .i64 l20])) ∧
    ((decide (weight1 ≤ 20)) = false →
    R (.agg #[.int .i64 l, .int .i64 l1, .int .i64 l2, .int .i64 l3, .int .i64 l4, .int .i64 l5, .int .i64 l6, .int .i64 l7, .int .i64 l8, .int .i64 l9, .int .i64 l10, .int .i64 l11, .int .i64 l12, .int .i64 l13, .int .i64 l14, .int .i64 l15, .int .i64 l16, .int .i64 l17, .int .i64 l18, .int .i64 l19, .int .i64 l20]) w))))
theorem v_impl_weightSteps (w : World) (R : Value → World → Prop) : evFn c_impl_weightSteps s_impl_weightSteps [] (bodyOf Try.f104) Try.f104.results.toList w R = V_impl_weightSteps w R := by kernel_rfl
theorem p_impl_weightSteps {w : World} {bs : List Nat} {ret : Value} (hvc : ∀ wr0, ExtX bs w wr0 → V_impl_weightSteps wr0 fun v0 _ => v0 = ret) : PureX bs Try.prog fn_impl_weightSteps #[] w ret :=
  pure_of_ev (C := c_impl_weightSteps) (sps := s_impl_weightSteps) (body := bodyOf Try.f104) (env _ _ _) Try.func104 rfl rfl (of_decide_eq_true (by kernel_rfl)) (of_decide_eq_true (by kernel_rfl)) rfl fun wr0 hx0 => by rw [v_impl_weightSteps]; exact hvc wr0 hx0
noncomputable def c_impl_VirtualStep : Cfg := { P := Try.prog, T := tblGet tbl, pf := pfT, ef := efT, tt := ttT, vis := [], n := 18, pm := true }
noncomputable def s_impl_VirtualStep : List (Nat × LSpec) := []
def V_impl_VirtualStep (units : Int) (weight : Int) (w : World) (R : Value → World → Prop) : Prop :=
    (∃ (inRang : Bool),
    PureX [] Try.prog fn_impl_inRange #[.int .i64 units, .int .i64 0, .int .i64 100000000] w (.bool inRang) ∧
    (∃ (weight1 : Bool),
    ((!inRang) = false → PureX [] Try.prog fn_impl_weightOk #[.int .i64 weight] w (.bool weight1)) ∧
    (((!inRang) || (!weight1)) = true →
    R (.int .i64 0) w) ∧
    (((!inRang) || (!weight1)) = false →
    (∃ (weight2 : Int) (weight3 : Int) (weight4 : Int) (weight5 : Int) (weight6 : Int) (weight7 : Int) (weight8 : Int) (weight9 : Int) (weight10 : Int) (weight11 : Int) (weight12 : Int) (weight13 : Int) (weight14 : Int) (weight15 : Int) (weight16 : Int) (weight17 : Int) (weight18 : Int) (weight19 : Int) (weight20 : Int) (weight21 : Int) (weight22 : Int),
    PureX [] Try.prog fn_impl_weightSteps #[] w (.agg #[.int .i64 weight2, .int .i64 weight3, .int .i64 weight4, .int .i64 weight5, .int .i64 weight6, .int .i64 weight7, .int .i64 weight8, .int .i64 weight9, .int .i64 weight10, .int .i64 weight11, .int .i64 weight12, .int .i64 weight13, .int .i64 weight14, .int .i64 weight15, .int .i64 weight16, .int .i64 weight17, .int .i64 weight18, .int .i64 weight19, .int .i64 weight20, .int .i64 weight21, .int .i64 weight22]) ∧
    (∃ (x : Int),
    (0 ≤ weight ∧ weight < ((21 : Nat) : Int) ∧ (#[.int .i64 weight2, .int .i64 weight3, .int .i64 weight4, .int .i64 weight5, .int .i64 weight6, .int .i64 weight7, .int .i64 weight8, .int .i64 weight9, .int .i64 weight10, .int .i64 weight11, .int .i64 weight12, .int .i64 weight13, .int .i64 weight14, .int .i64 weight15, .int .i64 weight16, .int .i64 weight17, .int .i64 weight18, .int .i64 weight19, .int .i64 weight20, .int .i64 weight21, .int .i64 weight22] : Array Value)[Int.toNat weight]? = some (.int .i64 x)) ∧
    InR .i64 (units * x) ∧
    R (.int .i64 (units * x)) w)))))
theorem v_impl_VirtualStep (units : Int) (weight : Int) (w : World) (R : Value → World → Prop) : evFn c_impl_VirtualStep s_impl_VirtualStep [.int .i64 units, .int .i64 weight] (bodyOf Try.f68) Try.f68.results.toList w R = V_impl_VirtualStep units weight w R := by kernel_rfl
theorem p_impl_VirtualStep (units : Int) (weight : Int) {w : World} {bs : List Nat} {ret : Value} (hvc : ∀ wr0, ExtX bs w wr0 → V_impl_VirtualStep units weight wr0 fun v0 _ => v0 = ret) : PureX bs Try.prog fn_impl_VirtualStep #[.int .i64 units, .int .i64 weight] w ret :=
  pure_of_ev (C := c_impl_VirtualStep) (sps := s_impl_VirtualStep) (body := bodyOf Try.f68) (env _ _ _) Try.func68 rfl rfl (of_decide_eq_true (by kernel_rfl)) (of_decide_eq_true (by kernel_rfl)) rfl fun wr0 hx0 => by rw [v_impl_VirtualStep]; exact hvc wr0 hx0
noncomputable def c_impl_LagMost : Cfg := { P := Try.prog, T := tblGet tbl, pf := pfT, ef := efT, tt := ttT, vis := [], n := 5, pm := true }
noncomputable def s_impl_LagMost : List (Nat × LSpec) := []
def V_impl_LagMost (weight : Int) (w : World) (R : Value → World → Prop) : Prop :=
    (∃ (xVirtua : Int),
    PureX [] Try.prog fn_impl_VirtualStep #[.int .i64 149, .int .i64 weight] w (.int .i64 xVirtua) ∧
    R (.int .i64 xVirtua) w)
theorem v_impl_LagMost (weight : Int) (w : World) (R : Value → World → Prop) : evFn c_impl_LagMost s_impl_LagMost [.int .i64 weight] (bodyOf Try.f103) Try.f103.results.toList w R = V_impl_LagMost weight w R := by kernel_rfl
theorem p_impl_LagMost (weight : Int) {w : World} {bs : List Nat} {ret : Value} (hvc : ∀ wr0, ExtX bs w wr0 → V_impl_LagMost weight wr0 fun v0 _ => v0 = ret) : PureX bs Try.prog fn_impl_LagMost #[.int .i64 weight] w ret :=
  pure_of_ev (C := c_impl_LagMost) (sps := s_impl_LagMost) (body := bodyOf Try.f103) (env _ _ _) Try.func103 rfl rfl (of_decide_eq_true (by kernel_rfl)) (of_decide_eq_true (by kernel_rfl)) rfl fun wr0 hx0 => by rw [v_impl_LagMost]; exact hvc wr0 hx0
noncomputable def c_impl_placed : Cfg := { P := Try.prog, T := tblGet tbl, pf := pfT, ef := efT, tt := ttT, vis := [], n := 18, pm := true }
noncomputable def s_impl_placed : List (Nat × LSpec) := []
def V_impl_placed (v : Int) (floor : Int) (weight : Int) (w : World) (R : Value → World → Prop) : Prop :=
    ((decide (v ≥ floor)) = true → InR .i64 (v - floor)) ∧
    (∃ (xLagMos : Int),
    ((decide (v ≥ floor)) = true → PureX [] Try.prog fn_impl_LagMost #[.int .i64 weight] w (.int .i64 xLagMos)) ∧
    R (.bool ((decide (v ≥ floor)) && (decide (v - floor ≤ xLagMos)))) w)
theorem v_impl_placed (v : Int) (floor : Int) (weight : Int) (w : World) (R : Value → World → Prop) : evFn c_impl_placed s_impl_placed [.int .i64 v, .int .i64 floor, .int .i64 weight] (bodyOf Try.f66) Try.f66.results.toList w R = V_impl_placed v floor weight w R := by kernel_rfl
theorem p_impl_placed (v : Int) (floor : Int) (weight : Int) {w : World} {bs : List Nat} {ret : Value} (hvc : ∀ wr0, ExtX bs w wr0 → V_impl_placed v floor weight wr0 fun v0 _ => v0 = ret) : PureX bs Try.prog fn_impl_placed #[.int .i64 v, .int .i64 floor, .int .i64 weight] w ret :=
  pure_of_ev (C := c_impl_placed) (sps := s_impl_placed) (body := bodyOf Try.f66) (env _ _ _) Try.func66 rfl rfl (of_decide_eq_true (by kernel_rfl)) (of_decide_eq_true (by kernel_rfl)) rfl fun wr0 hx0 => by rw [v_impl_placed]; exact hvc wr0 hx0
noncomputable def c_impl_Queue_entry : Cfg := { P := Try.prog, T := tblGet tbl, pf := pfT, ef := efT, tt := ttT, vis := [], n := 20, pm := true }
noncomputable def s_impl_Queue_entry : List (Nat × LSpec) := []
def V_impl_Queue_entry (q : Option Addr) (atv : Int) (w : World) (R : Value → World → Prop) : Prop :=
    q.isSome = true ∧
    (∃ (entriesO : Option Addr) (entriesL : Nat) (entriesC : Nat),
    CellsX [] w q (0 + 3) [.slice entriesO entriesL entriesC] ∧
    InR .i64 (((entriesL : Nat) : Int) - 1) ∧
    (∃ (inRang : Bool),
    PureX [] Try.prog fn_impl_inRange #[.int .i64 atv, .int .i64 0, .int .i64 (((entriesL : Nat) : Int) - 1)] w (.bool inRang) ∧
    ((!inRang) = true →
    R (.pointer none) w) ∧
    ((!inRang) = false →
    q.isSome = true ∧
    (∃ (entries1O : Option Addr) (entries1L : Nat) (entries1C : Nat),
    CellsX [] w q (0 + 3) [.slice entries1O entries1L entries1C] ∧
    Ix entries1O entries1L atv ∧
    R (.pointer (entries1O.map (·.add (Int.toNat atv * 4)))) w))))
theorem v_impl_Queue_entry (q : Option Addr) (atv : Int) (w : World) (R : Value → World → Prop) : evFn c_impl_Queue_entry s_impl_Queue_entry [.pointer q, .int .i64 atv] (bodyOf Try.f67) Try.f67.results.toList w R = V_impl_Queue_entry q atv w R := by kernel_rfl
theorem p_impl_Queue_entry (q : Option Addr) (atv : Int) {w : World} {bs : List Nat} {ret : Value} (hvc : ∀ wr0, ExtX bs w wr0 → V_impl_Queue_entry q atv wr0 fun v0 _ => v0 = ret) : PureX bs Try.prog fn_impl_Queue_entry #[.pointer q, .int .i64 atv] w ret :=
  pure_of_ev (C := c_impl_Queue_entry) (sps := s_impl_Queue_entry) (body := bodyOf Try.f67) (env _ _ _) Try.func67 rfl rfl (of_decide_eq_true (by kernel_rfl)) (of_decide_eq_true (by kernel_rfl)) rfl fun wr0 hx0 => by rw [v_impl_Queue_entry]; exact hvc wr0 hx0
noncomputable def c_impl_QueueOk : Cfg := { P := Try.prog, T := tblGet tbl, pf := pfT, ef := efT, tt := ttT, vis := [1], n := 92, pm := false }
noncomputable def s_impl_QueueOk : List (Nat × LSpec) := [(4, { chg := [(21, .int .i64)], chgL := [], keep := [1, 19, 20] })]
def V_impl_QueueOk (q0 : Int) (q1 : Int) (q2 : Int) (q3O : Option Addr) (q3L : Nat) (q3C : Nat) (w : World) (R : Value → World → Prop) : Prop :=
    (∀ b wb, ExtX [] w wb → w.heap.size ≤ b → wb.heap[b]? = some (Obj.cells ([.int .i64 q0, .int .i64 q1, .int .i64 q2, .slice q3O q3L q3C] : List Value).toArray ty_impl_Queue (0, 0)) → b ∉ ([] : List Nat) →
    (∃ (entriesO : Option Addr) (entriesL : Nat) (entriesC : Nat),
    CellsX [] wb (some (Addr.mk b 0 none)) (0 + 3) [.slice entriesO entriesL entriesC] ∧
    (∃ (inRang : Bool),
    PureX [] Try.prog fn_impl_inRange #[.int .i64 ((entriesL : Nat) : Int), .int .i64 1, .int .i64 20] wb (.bool inRang) ∧
    (∃ (floor : Int),
    ((!inRang) = false → CellsX [] wb (some (Addr.mk b 0 none)) (0 + 0) [.int .i64 floor]) ∧
    ((!inRang) = false → (∀ b1, wb.heap.size ≤ b1 →
    (∃ (timeOk : Bool),
    ((!inRang) = false → (∀ wx, ExtX [] wb wx → wx.heap[b1]? = some (Obj.cells ([.int .i64 floor] : List Value).toArray ty_int (0, 0)) → PureX [] Try.prog fn_impl_timeOk #[.slice (some (Addr.mk b1 0 none)) 1 1] wx (.bool timeOk))) ∧
    (((!inRang) || (!timeOk)) = true →
    (∀ wr, ExtX [] wb wr → R (.bool false) wr)) ∧
    (((!inRang) || (!timeOk)) = false →
    (∃ (entries1O : Option Addr) (entries1L : Nat) (entries1C : Nat),
    CellsX [] wb (some (Addr.mk b 0 none)) (0 + 3) [.slice entries1O entries1L entries1C] ∧
    (∃ (xInv : List Value → World → Prop) (mu : List Value → World → Nat), (∀ wr1, ExtX [] wb wr1 → (∀ bq ∈ ([b1] : List Nat), bq < wr1.heap.size) → xInv [.int .i64 0] wr1) ∧
    ∀ (x : Int) wv, (∀ bq ∈ ([b1] : List Nat), bq < wv.heap.size) → xInv [.int .i64 x] wv →
    ((decide (x < ((entries1L : Nat) : Int))) = true →
    Ix entries1O entries1L x ∧
    (∃ (x0 : Bool) (x1 : Int) (x2 : Int) (x3 : Int),
    CellsX [b1] wv entries1O (Int.toNat x * 4) [.bool x0, .int .i64 x1, .int .i64 x2, .int .i64 x3] ∧
    (∀ b2, wv.heap.size ≤ b2 →
    (∃ (weight : Bool),
    PureX [b1] Try.prog fn_impl_weightOk #[.int .i64 x2] wv (.bool weight) ∧
    ((!weight) = false → (∀ b3, wv.heap.size ≤ b3 →
    (∃ (timeOk1 : Bool),
    ((!weight) = false → (∀ wx1, ExtX [b1] wv wx1 → wx1.heap[b3]? = some (Obj.cells ([.int .i64 x1, .int .i64 x3] : List Value).toArray ty_int (0, 0)) → PureX [b1] Try.prog fn_impl_timeOk #[.slice (some (Addr.mk b3 0 none)) 2 2] wx1 (.bool timeOk1))) ∧
    (∃ (floor1 : Int),
    (x0 = true → (((!weight) || (!timeOk1)) = false → CellsX [b1] wv (some (Addr.mk b 0 none)) (0 + 0) [.int .i64 floor1])) ∧
    (∃ (placed : Bool),
    (x0 = true → (((!weight) || (!timeOk1)) = false → PureX [b1] Try.prog fn_impl_placed #[.int .i64 x1, .int .i64 floor1, .int .i64 x2] wv (.bool placed))) ∧
    ((((!weight) || (!timeOk1)) || (x0 && (!placed))) = true →
    (∀ wr2, ExtX [b1] wv wr2 → R (.bool false) wr2)) ∧
    ((((!weight) || (!timeOk1)) || (x0 && (!placed))) = false →
    InR .i64 (x + 1) ∧
    (∀ wr3, ExtX [b1] wv wr3 → (∀ bq ∈ ([b1, b2, b3] : List Nat), bq < wr3.heap.size) → xInv [.int .i64 (x + 1)] wr3 ∧ mu [.int .i64 (x + 1)] wr3 < mu [.int .i64 x] wv))))))) ∧
    (((!weight) = false → False) →
    (∃ (floor2 : Int),
    (x0 = true → (true = false → CellsX [b1] wv (some (Addr.mk b 0 none)) (0 + 0) [.int .i64 floor2])) ∧
    (∃ (placed1 : Bool),
    (x0 = true → (true = false → PureX [b1] Try.prog fn_impl_placed #[.int .i64 x1, .int .i64 floor2, .int .i64 x2] wv (.bool placed1))) ∧
    ((true || (x0 && (!placed1))) = true →
    (∀ wr4, ExtX [b1] wv wr4 → R (.bool false) wr4)) ∧
    ((true || (x0 && (!placed1))) = false →
    InR .i64 (x + 1) ∧
    (∀ wr5, ExtX [b1] wv wr5 → (∀ bq ∈ ([b1, b2] : List Nat), bq < wr5.heap.size) → xInv [.int .i64 (x + 1)] wr5 ∧ mu [.int .i64 (x + 1)] wr5 < mu [.int .i64 x] wv))))))))) ∧
    ((decide (x < ((entries1L : Nat) : Int))) = false →
    (∃ (cur : Int),
    CellsX [b1] wv (some (Addr.mk b 0 none)) (0 + 1) [.int .i64 cur] ∧
    ((cur == (-1)) = true →
    (∃ (ran : Int),
    CellsX [b1] wv (some (Addr.mk b 0 none)) (0 + 2) [.int .i64 ran] ∧
    (∀ wr6, ExtX [b1] wv wr6 → R (.bool (ran == 0)) wr6))) ∧
    ((cur == (-1)) = false →
    (∃ (cur1 : Int),
    CellsX [b1] wv (some (Addr.mk b 0 none)) (0 + 1) [.int .i64 cur1] ∧
    (∃ (entry : Option Addr),
    PureX [b1] Try.prog fn_impl_Queue_entry #[.pointer ((some (Addr.mk b 0 none)).map (·.add 0)), .int .i64 cur1] wv (.pointer entry) ∧
    ((!entry.isNone) = true → entry.isSome = true) ∧
    (∃ (onv : Bool),
    ((!entry.isNone) = true → CellsX [b1] wv entry (0 + 0) [.bool onv]) ∧
    (∃ (ran1 : Int),
    (((!entry.isNone) && onv) = true → CellsX [b1] wv (some (Addr.mk b 0 none)) (0 + 2) [.int .i64 ran1]) ∧
    (∃ (inRang1 : Bool),
    (((!entry.isNone) && onv) = true → PureX [b1] Try.prog fn_impl_inRange #[.int .i64 ran1, .int .i64 1, .int .i64 149] wv (.bool inRang1)) ∧
    ((((!entry.isNone) && onv) && inRang1) = true → entry.isSome = true) ∧
    (∃ (v : Int),
    ((((!entry.isNone) && onv) && inRang1) = true → CellsX [b1] wv entry (0 + 1) [.int .i64 v]) ∧
    (∃ (floor3 : Int),
    ((((!entry.isNone) && onv) && inRang1) = true → CellsX [b1] wv (some (Addr.mk b 0 none)) (0 + 0) [.int .i64 floor3]) ∧
    ((((!entry.isNone) && onv) && inRang1) = true → InR .i64 (v - floor3)) ∧
    (∃ (ran2 : Int),
    ((((!entry.isNone) && onv) && inRang1) = true → CellsX [b1] wv (some (Addr.mk b 0 none)) (0 + 2) [.int .i64 ran2]) ∧
    ((((!entry.isNone) && onv) && inRang1) = true → entry.isSome = true) ∧
    (∃ (wv1 : Int),
    ((((!entry.isNone) && onv) && inRang1) = true → CellsX [b1] wv entry (0 + 2) [.int .i64 wv1]) ∧
    (∃ (xVirtua : Int),
    ((((!entry.isNone) && onv) && inRang1) = true → PureX [b1] Try.prog fn_impl_VirtualStep #[.int .i64 ran2, .int .i64 wv1] wv (.int .i64 xVirtua)) ∧
    (∀ wr7, ExtX [b1] wv wr7 → R (.bool ((((!entry.isNone) && onv) && inRang1) && (decide (v - floor3 ≤ xVirtua)))) wr7)))))))))))))))))))) ∧
    (((!inRang) = false → False) →
    (true = true →
    (∀ wr8, ExtX [] wb wr8 → R (.bool false) wr8)) ∧
    (true = false →
    (∃ (entries2O : Option Addr) (entries2L : Nat) (entries2C : Nat),
    CellsX [] wb (some (Addr.mk b 0 none)) (0 + 3) [.slice entries2O entries2L entries2C] ∧
    (∃ (xInv1 : List Value → World → Prop) (mu1 : List Value → World → Nat), (∀ wr9, ExtX [] wb wr9 → (∀ bq ∈ ([] : List Nat), bq < wr9.heap.size) → xInv1 [.int .i64 0] wr9) ∧
    ∀ (x4 : Int) wv2, (∀ bq ∈ ([] : List Nat), bq < wv2.heap.size) → xInv1 [.int .i64 x4] wv2 →
    ((decide (x4 < ((entries2L : Nat) : Int))) = true →
    Ix entries2O entries2L x4 ∧
    (∃ (x01 : Bool) (x11 : Int) (x21 : Int) (x31 : Int),
    CellsX [] wv2 entries2O (Int.toNat x4 * 4) [.bool x01, .int .i64 x11, .int .i64 x21, .int .i64 x31] ∧
    (∀ b4, wv2.heap.size ≤ b4 →
    (∃ (weight1 : Bool),
    PureX [] Try.prog fn_impl_weightOk #[.int .i64 x21] wv2 (.bool weight1) ∧
    ((!weight1) = false → (∀ b5, wv2.heap.size ≤ b5 →
    (∃ (timeOk2 : Bool),
    ((!weight1) = false → (∀ wx2, ExtX [] wv2 wx2 → wx2.heap[b5]? = some (Obj.cells ([.int .i64 x11, .int .i64 x31] : List Value).toArray ty_int (0, 0)) → PureX [] Try.prog fn_impl_timeOk #[.slice (some (Addr.mk b5 0 none)) 2 2] wx2 (.bool timeOk2))) ∧
    (∃ (floor4 : Int),
    (x01 = true → (((!weight1) || (!timeOk2)) = false → CellsX [] wv2 (some (Addr.mk b 0 none)) (0 + 0) [.int .i64 floor4])) ∧
    (∃ (placed2 : Bool),
    (x01 = true → (((!weight1) || (!timeOk2)) = false → PureX [] Try.prog fn_impl_placed #[.int .i64 x11, .int .i64 floor4, .int .i64 x21] wv2 (.bool placed2))) ∧
    ((((!weight1) || (!timeOk2)) || (x01 && (!placed2))) = true →
    (∀ wr10, ExtX [] wv2 wr10 → R (.bool false) wr10)) ∧
    ((((!weight1) || (!timeOk2)) || (x01 && (!placed2))) = false →
    InR .i64 (x4 + 1) ∧
    (∀ wr11, ExtX [] wv2 wr11 → (∀ bq ∈ ([b4, b5] : List Nat), bq < wr11.heap.size) → xInv1 [.int .i64 (x4 + 1)] wr11 ∧ mu1 [.int .i64 (x4 + 1)] wr11 < mu1 [.int .i64 x4] wv2))))))) ∧
    (((!weight1) = false → False) →
    (∃ (floor5 : Int),
    (x01 = true → (true = false → CellsX [] wv2 (some (Addr.mk b 0 none)) (0 + 0) [.int .i64 floor5])) ∧
    (∃ (placed3 : Bool),
    (x01 = true → (true = false → PureX [] Try.prog fn_impl_placed #[.int .i64 x11, .int .i64 floor5, .int .i64 x21] wv2 (.bool placed3))) ∧
    ((true || (x01 && (!placed3))) = true →
    (∀ wr12, ExtX [] wv2 wr12 → R (.bool false) wr12)) ∧
    ((true || (x01 && (!placed3))) = false →
    InR .i64 (x4 + 1) ∧
    (∀ wr13, ExtX [] wv2 wr13 → (∀ bq ∈ ([b4] : List Nat), bq < wr13.heap.size) → xInv1 [.int .i64 (x4 + 1)] wr13 ∧ mu1 [.int .i64 (x4 + 1)] wr13 < mu1 [.int .i64 x4] wv2))))))))) ∧
    ((decide (x4 < ((entries2L : Nat) : Int))) = false →
    (∃ (cur2 : Int),
    CellsX [] wv2 (some (Addr.mk b 0 none)) (0 + 1) [.int .i64 cur2] ∧
    ((cur2 == (-1)) = true →
    (∃ (ran3 : Int),
    CellsX [] wv2 (some (Addr.mk b 0 none)) (0 + 2) [.int .i64 ran3] ∧
    (∀ wr14, ExtX [] wv2 wr14 → R (.bool (ran3 == 0)) wr14))) ∧
    ((cur2 == (-1)) = false →
    (∃ (cur3 : Int),
    CellsX [] wv2 (some (Addr.mk b 0 none)) (0 + 1) [.int .i64 cur3] ∧
    (∃ (entry1 : Option Addr),
    PureX [] Try.prog fn_impl_Queue_entry #[.pointer ((some (Addr.mk b 0 none)).map (·.add 0)), .int .i64 cur3] wv2 (.pointer entry1) ∧
    ((!entry1.isNone) = true → entry1.isSome = true) ∧
    (∃ (onv1 : Bool),
    ((!entry1.isNone) = true → CellsX [] wv2 entry1 (0 + 0) [.bool onv1]) ∧
    (∃ (ran4 : Int),
    (((!entry1.isNone) && onv1) = true → CellsX [] wv2 (some (Addr.mk b 0 none)) (0 + 2) [.int .i64 ran4]) ∧
    (∃ (inRang2 : Bool),
    (((!entry1.isNone) && onv1) = true → PureX [] Try.prog fn_impl_inRange #[.int .i64 ran4, .int .i64 1, .int .i64 149] wv2 (.bool inRang2)) ∧
    ((((!entry1.isNone) && onv1) && inRang2) = true → entry1.isSome = true) ∧
    (∃ (v1 : Int),
    ((((!entry1.isNone) && onv1) && inRang2) = true → CellsX [] wv2 entry1 (0 + 1) [.int .i64 v1]) ∧
    (∃ (floor6 : Int),
    ((((!entry1.isNone) && onv1) && inRang2) = true → CellsX [] wv2 (some (Addr.mk b 0 none)) (0 + 0) [.int .i64 floor6]) ∧
    ((((!entry1.isNone) && onv1) && inRang2) = true → InR .i64 (v1 - floor6)) ∧
    (∃ (ran5 : Int),
    ((((!entry1.isNone) && onv1) && inRang2) = true → CellsX [] wv2 (some (Addr.mk b 0 none)) (0 + 2) [.int .i64 ran5]) ∧
    ((((!entry1.isNone) && onv1) && inRang2) = true → entry1.isSome = true) ∧
    (∃ (wv3 : Int),
    ((((!entry1.isNone) && onv1) && inRang2) = true → CellsX [] wv2 entry1 (0 + 2) [.int .i64 wv3]) ∧
    (∃ (xVirtua1 : Int),
    ((((!entry1.isNone) && onv1) && inRang2) = true → PureX [] Try.prog fn_impl_VirtualStep #[.int .i64 ran5, .int .i64 wv3] wv2 (.int .i64 xVirtua1)) ∧
    (∀ wr15, ExtX [] wv2 wr15 → R (.bool ((((!entry1.isNone) && onv1) && inRang2) && (decide (v1 - floor6 ≤ xVirtua1)))) wr15))))))))))))))))))))))
theorem v_impl_QueueOk (q0 : Int) (q1 : Int) (q2 : Int) (q3O : Option Addr) (q3L : Nat) (q3C : Nat) (w : World) (R : Value → World → Prop) : evFn c_impl_QueueOk s_impl_QueueOk [.agg #[.int .i64 q0, .int .i64 q1, .int .i64 q2, .slice q3O q3L q3C]] (bodyOf Try.f18) Try.f18.results.toList w R = V_impl_QueueOk q0 q1 q2 q3O q3L q3C w R := by kernel_rfl
theorem e_impl_QueueOk (q0 : Int) (q1 : Int) (q2 : Int) (q3O : Option Addr) (q3L : Nat) (q3C : Nat) {w : World} {R : Value → World → Prop} (hvc : V_impl_QueueOk q0 q1 q2 q3O q3L q3C w R) : Calls Try.prog fn_impl_QueueOk #[.agg #[.int .i64 q0, .int .i64 q1, .int .i64 q2, .slice q3O q3L q3C]] w fun e0 wr0 => ∃ v0, e0 = .returned v0 ∧ R v0 wr0 :=
  eff_of_ev (C := c_impl_QueueOk) (sps := s_impl_QueueOk) (body := bodyOf Try.f18) (env _ _ _) Try.func18 rfl rfl (of_decide_eq_true (by kernel_rfl)) (of_decide_eq_true (by kernel_rfl)) rfl (by rw [v_impl_QueueOk]; exact hvc)
noncomputable def c_impl_LagCut : Cfg := { P := Try.prog, T := tblGet tbl, pf := pfT, ef := efT, tt := ttT, vis := [], n := 10, pm := true }
noncomputable def s_impl_LagCut : List (Nat × LSpec) := []
def V_impl_LagCut (lag : Int) (weight : Int) (w : World) (R : Value → World → Prop) : Prop :=
    (∃ (xLagMos : Int),
    PureX [] Try.prog fn_impl_LagMost #[.int .i64 weight] w (.int .i64 xLagMos) ∧
    R (.int .i64 (if (if xLagMos < lag then xLagMos else lag) > 0 then (if xLagMos < lag then xLagMos else lag) else 0)) w)
theorem v_impl_LagCut (lag : Int) (weight : Int) (w : World) (R : Value → World → Prop) : evFn c_impl_LagCut s_impl_LagCut [.int .i64 lag, .int .i64 weight] (bodyOf Try.f95) Try.f95.results.toList w R = V_impl_LagCut lag weight w R := by kernel_rfl
theorem p_impl_LagCut (lag : Int) (weight : Int) {w : World} {bs : List Nat} {ret : Value} (hvc : ∀ wr0, ExtX bs w wr0 → V_impl_LagCut lag weight wr0 fun v0 _ => v0 = ret) : PureX bs Try.prog fn_impl_LagCut #[.int .i64 lag, .int .i64 weight] w ret :=
  pure_of_ev (C := c_impl_LagCut) (sps := s_impl_LagCut) (body := bodyOf Try.f95) (env _ _ _) Try.func95 rfl rfl (of_decide_eq_true (by kernel_rfl)) (of_decide_eq_true (by kernel_rfl)) rfl fun wr0 hx0 => by rw [v_impl_LagCut]; exact hvc wr0 hx0
noncomputable def c_impl_Queue_endSlice : Cfg := { P := Try.prog, T := tblGet tbl, pf := pfT, ef := efT, tt := ttT, vis := [], n := 8, pm := false }
noncomputable def s_impl_Queue_endSlice : List (Nat × LSpec) := []
def V_impl_Queue_endSlice (q : Option Addr) (w : World) (R : Value → World → Prop) : Prop :=
    q.isSome = true ∧
    WrX [] w q (0 + 1) 1 ∧
    q.isSome = true ∧
    WrX [] (sto w q (0 + 1) [.int .i64 (-1)]) q (0 + 2) 1 ∧
    (∀ wr, ExtX [] (sto (sto w q (0 + 1) [.int .i64 (-1)]) q (0 + 2) [.int .i64 0]) wr → R (.tuple #[]) wr)
theorem v_impl_Queue_endSlice (q : Option Addr) (w : World) (R : Value → World → Prop) : evFn c_impl_Queue_endSlice s_impl_Queue_endSlice [.pointer q] (bodyOf Try.f96) Try.f96.results.toList w R = V_impl_Queue_endSlice q w R := by kernel_rfl
theorem e_impl_Queue_endSlice (q : Option Addr) {w : World} {R : Value → World → Prop} (hvc : V_impl_Queue_endSlice q w R) : Calls Try.prog fn_impl_Queue_endSlice #[.pointer q] w fun e0 wr0 => ∃ v0, e0 = .returned v0 ∧ R v0 wr0 :=
  eff_of_ev (C := c_impl_Queue_endSlice) (sps := s_impl_Queue_endSlice) (body := bodyOf Try.f96) (env _ _ _) Try.func96 rfl rfl (of_decide_eq_true (by kernel_rfl)) (of_decide_eq_true (by kernel_rfl)) rfl (by rw [v_impl_Queue_endSlice]; exact hvc)
noncomputable def c_impl_Queue_joins : Cfg := { P := Try.prog, T := tblGet tbl, pf := pfT, ef := efT, tt := ttT, vis := [], n := 49, pm := false }
noncomputable def s_impl_Queue_joins : List (Nat × LSpec) := []
def V_impl_Queue_joins (q : Option Addr) (op0 : Int) (op1 : Int) (op2 : Int) (w : World) (R : Value → World → Prop) : Prop :=
    (∀ b, w.heap.size ≤ b →
    (∃ (entry : Option Addr),
    PureX [] Try.prog fn_impl_Queue_entry #[.pointer q, .int .i64 op1] w (.pointer entry) ∧
    (entry.isNone = false → entry.isSome = true) ∧
    (∃ (onv : Bool),
    (entry.isNone = false → CellsX [] w entry (0 + 0) [.bool onv]) ∧
    ((entry.isNone || onv) = true →
    (∀ wr, ExtX [] w wr → R (.bool false) wr)) ∧
    ((entry.isNone || onv) = false →
    q.isSome = true ∧
    (∃ (floor : Int),
    CellsX [] w q (0 + 0) [.int .i64 floor] ∧
    entry.isSome = true ∧
    (∃ (v : Int),
    CellsX [] w entry (0 + 1) [.int .i64 v] ∧
    q.isSome = true ∧
    (∃ (floor1 : Int),
    CellsX [] w q (0 + 0) [.int .i64 floor1] ∧
    InR .i64 (v - floor1) ∧
    entry.isSome = true ∧
    (∃ (wv : Int),
    CellsX [] w entry (0 + 2) [.int .i64 wv] ∧
    (∃ (xLagCut : Int),
    PureX [] Try.prog fn_impl_LagCut #[.int .i64 (v - floor1), .int .i64 wv] w (.int .i64 xLagCut) ∧
    InR .i64 (floor + xLagCut) ∧
    ((decide (floor + xLagCut > 100000000000000000)) = true →
    (∀ wr1, ExtX [] w wr1 → R (.bool false) wr1)) ∧
    ((decide (floor + xLagCut > 100000000000000000)) = false →
    entry.isSome = true ∧
    WrX [] w entry (0 + 0) 1 ∧
    entry.isSome = true ∧
    WrX [] (sto w entry (0 + 0) [.bool true]) entry (0 + 1) 1 ∧
    (∀ wr2, ExtX [] (sto (sto w entry (0 + 0) [.bool true]) entry (0 + 1) [.int .i64 (floor + xLagCut)]) wr2 → (∀ bq ∈ ([b] : List Nat), bq < wr2.heap.size) → 
    Calls Try.prog fn_impl_Queue_endSlice #[.pointer q] wr2 fun e wv1 =>
    e = .returned (.tuple #[]) ∧ Kept [b] wr2 wv1 ∧
    (∀ wr3, ExtX [b] wv1 wr3 → R (.bool true) wr3))))))))))))
theorem v_impl_Queue_joins (q : Option Addr) (op0 : Int) (op1 : Int) (op2 : Int) (w : World) (R : Value → World → Prop) : evFn c_impl_Queue_joins s_impl_Queue_joins [.pointer q, .agg #[.int .i64 op0, .int .i64 op1, .int .i64 op2]] (bodyOf Try.f49) Try.f49.results.toList w R = V_impl_Queue_joins q op0 op1 op2 w R := by kernel_rfl
theorem e_impl_Queue_joins (q : Option Addr) (op0 : Int) (op1 : Int) (op2 : Int) {w : World} {R : Value → World → Prop} (hvc : V_impl_Queue_joins q op0 op1 op2 w R) : Calls Try.prog fn_impl_Queue_joins #[.pointer q, .agg #[.int .i64 op0, .int .i64 op1, .int .i64 op2]] w fun e0 wr0 => ∃ v0, e0 = .returned v0 ∧ R v0 wr0 :=
  eff_of_ev (C := c_impl_Queue_joins) (sps := s_impl_Queue_joins) (body := bodyOf Try.f49) (env _ _ _) Try.func49 rfl rfl (of_decide_eq_true (by kernel_rfl)) (of_decide_eq_true (by kernel_rfl)) rfl (by rw [v_impl_Queue_joins]; exact hvc)
noncomputable def c_impl_Queue_leaves : Cfg := { P := Try.prog, T := tblGet tbl, pf := pfT, ef := efT, tt := ttT, vis := [], n := 31, pm := false }
noncomputable def s_impl_Queue_leaves : List (Nat × LSpec) := []
def V_impl_Queue_leaves (q : Option Addr) (op0 : Int) (op1 : Int) (op2 : Int) (w : World) (R : Value → World → Prop) : Prop :=
    (∀ b, w.heap.size ≤ b →
    (∃ (entry : Option Addr),
    PureX [] Try.prog fn_impl_Queue_entry #[.pointer q, .int .i64 op1] w (.pointer entry) ∧
    (entry.isNone = false → entry.isSome = true) ∧
    (∃ (onv : Bool),
    (entry.isNone = false → CellsX [] w entry (0 + 0) [.bool onv]) ∧
    ((entry.isNone || (!onv)) = true →
    (∀ wr, ExtX [] w wr → R (.bool false) wr)) ∧
    ((entry.isNone || (!onv)) = false →
    entry.isSome = true ∧
    WrX [] w entry (0 + 0) 1 ∧
    q.isSome = true ∧
    (∃ (cur : Int),
    CellsX [] (sto w entry (0 + 0) [.bool false]) q (0 + 1) [.int .i64 cur] ∧
    ((op1 == cur) = true →
    (∀ wr1, ExtX [] (sto w entry (0 + 0) [.bool false]) wr1 → (∀ bq ∈ ([b] : List Nat), bq < wr1.heap.size) → 
    Calls Try.prog fn_impl_Queue_endSlice #[.pointer q] wr1 fun e wv =>
    e = .returned (.tuple #[]) ∧ Kept [b] wr1 wv ∧
    (∀ wr2, ExtX [b] wv wr2 → R (.bool true) wr2))) ∧
    ((op1 == cur) = false →
    (∀ wr3, ExtX [] (sto w entry (0 + 0) [.bool false]) wr3 → R (.bool true) wr3)))))))
theorem v_impl_Queue_leaves (q : Option Addr) (op0 : Int) (op1 : Int) (op2 : Int) (w : World) (R : Value → World → Prop) : evFn c_impl_Queue_leaves s_impl_Queue_leaves [.pointer q, .agg #[.int .i64 op0, .int .i64 op1, .int .i64 op2]] (bodyOf Try.f50) Try.f50.results.toList w R = V_impl_Queue_leaves q op0 op1 op2 w R := by kernel_rfl
theorem e_impl_Queue_leaves (q : Option Addr) (op0 : Int) (op1 : Int) (op2 : Int) {w : World} {R : Value → World → Prop} (hvc : V_impl_Queue_leaves q op0 op1 op2 w R) : Calls Try.prog fn_impl_Queue_leaves #[.pointer q, .agg #[.int .i64 op0, .int .i64 op1, .int .i64 op2]] w fun e0 wr0 => ∃ v0, e0 = .returned v0 ∧ R v0 wr0 :=
  eff_of_ev (C := c_impl_Queue_leaves) (sps := s_impl_Queue_leaves) (body := bodyOf Try.f50) (env _ _ _) Try.func50 rfl rfl (of_decide_eq_true (by kernel_rfl)) (of_decide_eq_true (by kernel_rfl)) rfl (by rw [v_impl_Queue_leaves]; exact hvc)
noncomputable def c_impl_pile_int_push : Cfg := { P := Try.prog, T := tblGet tbl, pf := pfT, ef := efT, tt := ttT, vis := [], n := 74, pm := false }
noncomputable def s_impl_pile_int_push : List (Nat × LSpec) := [(2, { chg := [(4, .int .i64)], chgL := [], keep := [0] })]
def V_impl_pile_int_push (p : Option Addr) (x : Int) (w : World) (R : Value → World → Prop) : Prop :=
    p.isSome = true ∧
    (∃ (lO : Option Addr) (lL : Nat) (lC : Nat),
    CellsX [] w p (0 + 0) [.slice lO lL lC] ∧
    (∀ b, w.heap.size ≤ b →
    (∀ wr, ExtX [] w wr → (∀ bq ∈ ([b] : List Nat), bq < wr.heap.size) → wr.heap[b]? = some (Obj.cells ([.int .i64 x] : List Value).toArray ty_int (0, 0)) → 
    (∃ (apO : Option Addr) (apL : Nat) (apC : Nat),
    ∃ wv, (builtin .append #[ty_sl_int, ty_sl_int] ty_sl_int #[false, false] #[.slice lO lL lC, .slice (some (Addr.mk b 0 none)) 1 1]).run Try.prog wr = .ok (.value (.slice apO apL apC)) wv ∧ Kept [b] wr wv ∧
    p.isSome = true ∧
    WrX [b] wv p (0 + 0) 1 ∧
    p.isSome = true ∧
    (∃ (l1O : Option Addr) (l1L : Nat) (l1C : Nat),
    CellsX [b] (sto wv p (0 + 0) [.slice apO apL apC]) p (0 + 0) [.slice l1O l1L l1C] ∧
    InR .i64 (((l1L : Nat) : Int) - 1) ∧
    (∃ (xInv : List Value → World → Prop) (mu : List Value → World → Nat), (∀ wr1, ExtX [b] (sto wv p (0 + 0) [.slice apO apL apC]) wr1 → (∀ bq ∈ ([b] : List Nat), bq < wr1.heap.size) → xInv [.int .i64 (((l1L : Nat) : Int) - 1)] wr1) ∧
    ∀ (atv : Int) wv1, (∀ bq ∈ ([b] : List Nat), bq < wv1.heap.size) → xInv [.int .i64 atv] wv1 →
    ((decide (atv > 0)) = true →
    InR .i64 (atv - 1) ∧
    ((2 : Int) ≠ 0 ∧ InR .i64 (Int.tdiv (atv - 1) 2)) ∧
    p.isSome = true ∧
    (∃ (beforeF : FuncId) (beforeA : Array Value) (beforeK : Array Value),
    CellsX [b] wv1 p (0 + 1) [.func (.func beforeF) beforeA beforeK] ∧
    p.isSome = true ∧
    (∃ (l2O : Option Addr) (l2L : Nat) (l2C : Nat),
    CellsX [b] wv1 p (0 + 0) [.slice l2O l2L l2C] ∧
    Ix l2O l2L atv ∧
    (∃ (x1 : Int),
    CellsX [b] wv1 l2O (Int.toNat atv * 1) [.int .i64 x1] ∧
    p.isSome = true ∧
    (∃ (l3O : Option Addr) (l3L : Nat) (l3C : Nat),
    CellsX [b] wv1 p (0 + 0) [.slice l3O l3L l3C] ∧
    Ix l3O l3L (Int.tdiv (atv - 1) 2) ∧
    (∃ (x2 : Int),
    CellsX [b] wv1 l3O (Int.toNat (Int.tdiv (atv - 1) 2) * 1) [.int .i64 x2] ∧
    (∀ wr2, ExtX [b] wv1 wr2 → (∀ bq ∈ ([b] : List Nat), bq < wr2.heap.size) → 
    (∃ (ff : FuncId) (aa : Array Value), (callV (.func (.func beforeF) beforeA beforeK) [.int .i64 x1, .int .i64 x2]).run Try.prog wr2 = .ok (.enter ff aa) wr2 ∧
    Calls Try.prog ff aa wr2 fun e wv2 =>
    (∃ (rv : Bool),
    e = .returned (.bool rv) ∧ Kept [b] wr2 wv2 ∧
    ((!rv) = true →
    (∀ wr3, ExtX [b] wv2 wr3 → R (.tuple #[]) wr3)) ∧
    ((!rv) = false →
    p.isSome = true ∧
    (∃ (l4O : Option Addr) (l4L : Nat) (l4C : Nat),
    CellsX [b] wv2 p (0 + 0) [.slice l4O l4L l4C] ∧
    p.isSome = true ∧
    (∃ (l5O : Option Addr) (l5L : Nat) (l5C : Nat),
    CellsX [b] wv2 p (0 + 0) [.slice l5O l5L l5C] ∧
    p.isSome = true ∧
    (∃ (l6O : Option Addr) (l6L : Nat) (l6C : Nat),
    CellsX [b] wv2 p (0 + 0) [.slice l6O l6L l6C] ∧
    Ix l6O l6L (Int.tdiv (atv - 1) 2) ∧
    (∃ (x3 : Int),
    CellsX [b] wv2 l6O (Int.toNat (Int.tdiv (atv - 1) 2) * 1) [.int .i64 x3] ∧
    p.isSome = true ∧
    (∃ (l7O : Option Addr) (l7L : Nat) (l7C : Nat),
    CellsX [b] wv2 p (0 + 0) [.slice l7O l7L l7C] ∧
    Ix l7O l7L atv ∧
    (∃ (x4 : Int),
    CellsX [b] wv2 l7O (Int.toNat atv * 1) [.int .i64 x4] ∧
    Ix l4O l4L atv ∧
    WrX [b] wv2 l4O (Int.toNat atv * 1) 1 ∧
    Ix l5O l5L (Int.tdiv (atv - 1) 2) ∧
    WrX [b] (sto wv2 l4O (Int.toNat atv * 1) [.int .i64 x3]) l5O (Int.toNat (Int.tdiv (atv - 1) 2) * 1) 1 ∧
    (∀ wr4, ExtX [b] (sto (sto wv2 l4O (Int.toNat atv * 1) [.int .i64 x3]) l5O (Int.toNat (Int.tdiv (atv - 1) 2) * 1) [.int .i64 x4]) wr4 → (∀ bq ∈ ([b] : List Nat), bq < wr4.heap.size) → xInv [.int .i64 (Int.tdiv (atv - 1) 2)] wr4 ∧ mu [.int .i64 (Int.tdiv (atv - 1) 2)] wr4 < mu [.int .i64 atv] wv1))))))))))))))))) ∧
    ((decide (atv > 0)) = false →
    (∀ wr5, ExtX [b] wv1 wr5 → R (.tuple #[]) wr5))))))))
theorem v_impl_pile_int_push (p : Option Addr) (x : Int) (w : World) (R : Value → World → Prop) : evFn c_impl_pile_int_push s_impl_pile_int_push [.pointer p, .int .i64 x] (bodyOf Try.f121) Try.f121.results.toList w R = V_impl_pile_int_push p x w R := by kernel_rfl
theorem e_impl_pile_int_push (p : Option Addr) (x : Int) {w : World} {R : Value → World → Prop} (hvc : V_impl_pile_int_push p x w R) : Calls Try.prog fn_impl_pile_int_push #[.pointer p, .int .i64 x] w fun e0 wr0 => ∃ v0, e0 = .returned v0 ∧ R v0 wr0 :=
  eff_of_ev (C := c_impl_pile_int_push) (sps := s_impl_pile_int_push) (body := bodyOf Try.f121) (env _ _ _) Try.func121 rfl rfl (of_decide_eq_true (by kernel_rfl)) (of_decide_eq_true (by kernel_rfl)) rfl (by rw [v_impl_pile_int_push]; exact hvc)
noncomputable def c_impl_pile_int_top : Cfg := { P := Try.prog, T := tblGet tbl, pf := pfT, ef := efT, tt := ttT, vis := [], n := 18, pm := true }
noncomputable def s_impl_pile_int_top : List (Nat × LSpec) := []
def V_impl_pile_int_top (p : Option Addr) (w : World) (R : Value → World → Prop) : Prop :=
    p.isSome = true ∧
    (∃ (lO : Option Addr) (lL : Nat) (lC : Nat),
    CellsX [] w p (0 + 0) [.slice lO lL lC] ∧
    ((((lL : Nat) : Int) == 0) = true →
    R (.tuple #[.int .i64 0, .bool false]) w) ∧
    ((((lL : Nat) : Int) == 0) = false →
    p.isSome = true ∧
    (∃ (l1O : Option Addr) (l1L : Nat) (l1C : Nat),
    CellsX [] w p (0 + 0) [.slice l1O l1L l1C] ∧
    Ix l1O l1L 0 ∧
    (∃ (x : Int),
    CellsX [] w l1O (Int.toNat 0 * 1) [.int .i64 x] ∧
    R (.tuple #[.int .i64 x, .bool true]) w))))
theorem v_impl_pile_int_top (p : Option Addr) (w : World) (R : Value → World → Prop) : evFn c_impl_pile_int_top s_impl_pile_int_top [.pointer p] (bodyOf Try.f122) Try.f122.results.toList w R = V_impl_pile_int_top p w R := by kernel_rfl
theorem p_impl_pile_int_top (p : Option Addr) {w : World} {bs : List Nat} {ret : Value} (hvc : ∀ wr0, ExtX bs w wr0 → V_impl_pile_int_top p wr0 fun v0 _ => v0 = ret) : PureX bs Try.prog fn_impl_pile_int_top #[.pointer p] w ret :=
  pure_of_ev (C := c_impl_pile_int_top) (sps := s_impl_pile_int_top) (body := bodyOf Try.f122) (env _ _ _) Try.func122 rfl rfl (of_decide_eq_true (by kernel_rfl)) (of_decide_eq_true (by kernel_rfl)) rfl fun wr0 hx0 => by rw [v_impl_pile_int_top]; exact hvc wr0 hx0
noncomputable def c_impl_queueFirst : Cfg := { P := Try.prog, T := tblGet tbl, pf := pfT, ef := efT, tt := ttT, vis := [1, 3], n := 29, pm := false }
noncomputable def s_impl_queueFirst : List (Nat × LSpec) := [(3, { chg := [(13, .int .i64)], chgL := [], keep := [3, 11, 12] })]
def V_impl_queueFirst (q0 : Int) (q1 : Int) (q2 : Int) (q3O : Option Addr) (q3L : Nat) (q3C : Nat) (w : World) (R : Value → World → Prop) : Prop :=
    (∀ b wb, ExtX [] w wb → w.heap.size ≤ b → wb.heap[b]? = some (Obj.cells ([.int .i64 q0, .int .i64 q1, .int .i64 q2, .slice q3O q3L q3C] : List Value).toArray ty_impl_Queue (0, 0)) → b ∉ ([] : List Nat) →
    (∀ b1 wb1, ExtX [] wb wb1 → wb.heap.size ≤ b1 → wb1.heap[b1]? = some (Obj.cells ([.slice none 0 0, .nilFunc] : List Value).toArray ty_impl_pile_int (0, 0)) → b1 ∉ ([] : List Nat) →
    WrX [] wb1 (some (Addr.mk b1 0 none)) 0 2 ∧
    (∃ (entriesO : Option Addr) (entriesL : Nat) (entriesC : Nat),
    CellsX [] (sto wb1 (some (Addr.mk b1 0 none)) 0 [.slice none 0 0, .func (.func fn_impl_queueFirst_1) #[] #[.pointer ((some (Addr.mk b 0 none)).map (·.add 0))]]) (some (Addr.mk b 0 none)) (0 + 3) [.slice entriesO entriesL entriesC] ∧
    (∃ (xInv : List Value → World → Prop) (mu : List Value → World → Nat), (∀ wr, ExtX [] (sto wb1 (some (Addr.mk b1 0 none)) 0 [.slice none 0 0, .func (.func fn_impl_queueFirst_1) #[] #[.pointer ((some (Addr.mk b 0 none)).map (·.add 0))]]) wr → (∀ bq ∈ ([] : List Nat), bq < wr.heap.size) → xInv [.int .i64 0] wr) ∧
    ∀ (x : Int) wv, (∀ bq ∈ ([] : List Nat), bq < wv.heap.size) → xInv [.int .i64 x] wv →
    ((decide (x < ((entriesL : Nat) : Int))) = true →
    Ix entriesO entriesL x ∧
    (∃ (x0 : Bool) (x1 : Int) (x2 : Int) (x3 : Int),
    CellsX [] wv entriesO (Int.toNat x * 4) [.bool x0, .int .i64 x1, .int .i64 x2, .int .i64 x3] ∧
    (∀ b2, wv.heap.size ≤ b2 →
    (x0 = true →
    (∀ wr1, ExtX [] wv wr1 → (∀ bq ∈ ([b2] : List Nat), bq < wr1.heap.size) → 
    Calls Try.prog fn_impl_pile_int_push #[.pointer ((some (Addr.mk b1 0 none)).map (·.add 0)), .int .i64 x] wr1 fun e wv1 =>
    e = .returned (.tuple #[]) ∧ Kept [b2] wr1 wv1 ∧
    InR .i64 (x + 1) ∧
    (∀ wr2, ExtX [b2] wv1 wr2 → (∀ bq ∈ ([b2] : List Nat), bq < wr2.heap.size) → xInv [.int .i64 (x + 1)] wr2 ∧ mu [.int .i64 (x + 1)] wr2 < mu [.int .i64 x] wv))) ∧
    (x0 = false →
    InR .i64 (x + 1) ∧
    (∀ wr3, ExtX [] wv wr3 → (∀ bq ∈ ([b2] : List Nat), bq < wr3.heap.size) → xInv [.int .i64 (x + 1)] wr3 ∧ mu [.int .i64 (x + 1)] wr3 < mu [.int .i64 x] wv))))) ∧
    ((decide (x < ((entriesL : Nat) : Int))) = false →
    (∃ (top : Int) (top1 : Bool),
    PureX [] Try.prog fn_impl_pile_int_top #[.pointer ((some (Addr.mk b1 0 none)).map (·.add 0))] wv (.tuple #[.int .i64 top, .bool top1]) ∧
    (top1 = true →
    (∀ wr4, ExtX [] wv wr4 → R (.int .i64 top) wr4)) ∧
    (top1 = false →
    (∀ wr5, ExtX [] wv wr5 → R (.int .i64 (-1)) wr5))))))))
theorem v_impl_queueFirst (q0 : Int) (q1 : Int) (q2 : Int) (q3O : Option Addr) (q3L : Nat) (q3C : Nat) (w : World) (R : Value → World → Prop) : evFn c_impl_queueFirst s_impl_queueFirst [.agg #[.int .i64 q0, .int .i64 q1, .int .i64 q2, .slice q3O q3L q3C]] (bodyOf Try.f98) Try.f98.results.toList w R = V_impl_queueFirst q0 q1 q2 q3O q3L q3C w R := by kernel_rfl
theorem e_impl_queueFirst (q0 : Int) (q1 : Int) (q2 : Int) (q3O : Option Addr) (q3L : Nat) (q3C : Nat) {w : World} {R : Value → World → Prop} (hvc : V_impl_queueFirst q0 q1 q2 q3O q3L q3C w R) : Calls Try.prog fn_impl_queueFirst #[.agg #[.int .i64 q0, .int .i64 q1, .int .i64 q2, .slice q3O q3L q3C]] w fun e0 wr0 => ∃ v0, e0 = .returned v0 ∧ R v0 wr0 :=
  eff_of_ev (C := c_impl_queueFirst) (sps := s_impl_queueFirst) (body := bodyOf Try.f98) (env _ _ _) Try.func98 rfl rfl (of_decide_eq_true (by kernel_rfl)) (of_decide_eq_true (by kernel_rfl)) rfl (by rw [v_impl_queueFirst]; exact hvc)
noncomputable def c_impl_queueNext : Cfg := { P := Try.prog, T := tblGet tbl, pf := pfT, ef := efT, tt := ttT, vis := [], n := 15, pm := true }
noncomputable def s_impl_queueNext : List (Nat × LSpec) := []
def V_impl_queueNext (q0 : Int) (q1 : Int) (q2 : Int) (q3O : Option Addr) (q3L : Nat) (q3C : Nat) (w : World) (R : Value → World → Prop) : Prop :=
    (∀ b, w.heap.size ≤ b →
    (((q1 != (-1)) && (decide (q2 < 50))) = true →
    R (.int .i64 q1) w) ∧
    (((q1 != (-1)) && (decide (q2 < 50))) = false →
    (∃ (queueF : Int),
    PureX [] Try.prog fn_impl_queueFirst #[.agg #[.int .i64 q0, .int .i64 q1, .int .i64 q2, .slice q3O q3L q3C]] w (.int .i64 queueF) ∧
    R (.int .i64 queueF) w)))
theorem v_impl_queueNext (q0 : Int) (q1 : Int) (q2 : Int) (q3O : Option Addr) (q3L : Nat) (q3C : Nat) (w : World) (R : Value → World → Prop) : evFn c_impl_queueNext s_impl_queueNext [.agg #[.int .i64 q0, .int .i64 q1, .int .i64 q2, .slice q3O q3L q3C]] (bodyOf Try.f97) Try.f97.results.toList w R = V_impl_queueNext q0 q1 q2 q3O q3L q3C w R := by kernel_rfl
theorem p_impl_queueNext (q0 : Int) (q1 : Int) (q2 : Int) (q3O : Option Addr) (q3L : Nat) (q3C : Nat) {w : World} {bs : List Nat} {ret : Value} (hvc : ∀ wr0, ExtX bs w wr0 → V_impl_queueNext q0 q1 q2 q3O q3L q3C wr0 fun v0 _ => v0 = ret) : PureX bs Try.prog fn_impl_queueNext #[.agg #[.int .i64 q0, .int .i64 q1, .int .i64 q2, .slice q3O q3L q3C]] w ret :=
  pure_of_ev (C := c_impl_queueNext) (sps := s_impl_queueNext) (body := bodyOf Try.f97) (env _ _ _) Try.func97 rfl rfl (of_decide_eq_true (by kernel_rfl)) (of_decide_eq_true (by kernel_rfl)) rfl fun wr0 hx0 => by rw [v_impl_queueNext]; exact hvc wr0 hx0
noncomputable def c_impl_Queue_runs : Cfg := { P := Try.prog, T := tblGet tbl, pf := pfT, ef := efT, tt := ttT, vis := [], n := 91, pm := false }
noncomputable def s_impl_Queue_runs : List (Nat × LSpec) := []
def V_impl_Queue_runs (q : Option Addr) (op0 : Int) (op1 : Int) (op2 : Int) (w : World) (R : Value → World → Prop) : Prop :=
    (∀ b, w.heap.size ≤ b →
    q.isSome = true ∧
    (∃ (x0 : Int) (x1 : Int) (x2 : Int) (x3O : Option Addr) (x3L : Nat) (x3C : Nat),
    CellsX [] w q 0 [.int .i64 x0, .int .i64 x1, .int .i64 x2, .slice x3O x3L x3C] ∧
    (∃ (queueN : Int),
    PureX [] Try.prog fn_impl_queueNext #[.agg #[.int .i64 x0, .int .i64 x1, .int .i64 x2, .slice x3O x3L x3C]] w (.int .i64 queueN) ∧
    (∃ (inRang : Bool),
    PureX [] Try.prog fn_impl_inRange #[.int .i64 op2, .int .i64 1, .int .i64 100] w (.bool inRang) ∧
    (((!inRang) || (decide (queueN < 0))) = true →
    (∀ wr, ExtX [] w wr → R (.bool false) wr)) ∧
    (((!inRang) || (decide (queueN < 0))) = false →
    q.isSome = true ∧
    (∃ (entriesO : Option Addr) (entriesL : Nat) (entriesC : Nat),
    CellsX [] w q (0 + 3) [.slice entriesO entriesL entriesC] ∧
    Ix entriesO entriesL queueN ∧
    (∃ (v : Int),
    CellsX [] w entriesO (Int.toNat queueN * 4 + 1) [.int .i64 v] ∧
    (∃ (wv : Int),
    CellsX [] w entriesO (Int.toNat queueN * 4 + 2) [.int .i64 wv] ∧
    (∃ (xVirtua : Int),
    PureX [] Try.prog fn_impl_VirtualStep #[.int .i64 op2, .int .i64 wv] w (.int .i64 xVirtua) ∧
    InR .i64 (v + xVirtua) ∧
    (∃ (sum : Int),
    CellsX [] w entriesO (Int.toNat queueN * 4 + 3) [.int .i64 sum] ∧
    InR .i64 (sum + op2) ∧
    (((decide (v + xVirtua > 100000000000000000)) || (decide (sum + op2 > 100000000000000000))) = true →
    (∀ wr1, ExtX [] w wr1 → R (.bool false) wr1)) ∧
    (((decide (v + xVirtua > 100000000000000000)) || (decide (sum + op2 > 100000000000000000))) = false →
    WrX [] w entriesO (Int.toNat queueN * 4 + 1) 1 ∧
    WrX [] (sto w entriesO (Int.toNat queueN * 4 + 1) [.int .i64 (v + xVirtua)]) entriesO (Int.toNat queueN * 4 + 3) 1 ∧
    q.isSome = true ∧
    (∃ (cur : Int),
    CellsX [] (sto (sto w entriesO (Int.toNat queueN * 4 + 1) [.int .i64 (v + xVirtua)]) entriesO (Int.toNat queueN * 4 + 3) [.int .i64 (sum + op2)]) q (0 + 1) [.int .i64 cur] ∧
    ((queueN == cur) = true → q.isSome = true) ∧
    (∃ (ran : Int),
    ((queueN == cur) = true → CellsX [] (sto (sto w entriesO (Int.toNat queueN * 4 + 1) [.int .i64 (v + xVirtua)]) entriesO (Int.toNat queueN * 4 + 3) [.int .i64 (sum + op2)]) q (0 + 2) [.int .i64 ran]) ∧
    (((queueN == cur) && (decide (ran < 50))) = true →
    q.isSome = true ∧
    (∃ (ran1 : Int),
    CellsX [] (sto (sto w entriesO (Int.toNat queueN * 4 + 1) [.int .i64 (v + xVirtua)]) entriesO (Int.toNat queueN * 4 + 3) [.int .i64 (sum + op2)]) q (0 + 2) [.int .i64 ran1] ∧
    InR .i64 (ran1 + op2) ∧
    q.isSome = true ∧
    WrX [] (sto (sto w entriesO (Int.toNat queueN * 4 + 1) [.int .i64 (v + xVirtua)]) entriesO (Int.toNat queueN * 4 + 3) [.int .i64 (sum + op2)]) q (0 + 2) 1 ∧
    (∀ wr2, ExtX [] (sto (sto (sto w entriesO (Int.toNat queueN * 4 + 1) [.int .i64 (v + xVirtua)]) entriesO (Int.toNat queueN * 4 + 3) [.int .i64 (sum + op2)]) q (0 + 2) [.int .i64 (ran1 + op2)]) wr2 → R (.bool true) wr2))) ∧
    (((queueN == cur) && (decide (ran < 50))) = false →
    q.isSome = true ∧
    WrX [] (sto (sto w entriesO (Int.toNat queueN * 4 + 1) [.int .i64 (v + xVirtua)]) entriesO (Int.toNat queueN * 4 + 3) [.int .i64 (sum + op2)]) q (0 + 1) 1 ∧
    (some (ty_impl_QueueOp, ([.int .i64 op0, .int .i64 op1, .int .i64 op2] : List Value)) = some (ty_impl_QueueOp, ([.int .i64 op0, .int .i64 op1, .int .i64 op2] : List Value))) ∧
    q.isSome = true ∧
    WrX [] (sto (sto (sto w entriesO (Int.toNat queueN * 4 + 1) [.int .i64 (v + xVirtua)]) entriesO (Int.toNat queueN * 4 + 3) [.int .i64 (sum + op2)]) q (0 + 1) [.int .i64 queueN]) q (0 + 2) 1 ∧
    (∀ wr3, ExtX [] (sto (sto (sto (sto w entriesO (Int.toNat queueN * 4 + 1) [.int .i64 (v + xVirtua)]) entriesO (Int.toNat queueN * 4 + 3) [.int .i64 (sum + op2)]) q (0 + 1) [.int .i64 queueN]) q (0 + 2) [.int .i64 op2]) wr3 → R (.bool true) wr3)))))))))))))))
theorem v_impl_Queue_runs (q : Option Addr) (op0 : Int) (op1 : Int) (op2 : Int) (w : World) (R : Value → World → Prop) : evFn c_impl_Queue_runs s_impl_Queue_runs [.pointer q, .agg #[.int .i64 op0, .int .i64 op1, .int .i64 op2]] (bodyOf Try.f51) Try.f51.results.toList w R = V_impl_Queue_runs q op0 op1 op2 w R := by kernel_rfl
theorem e_impl_Queue_runs (q : Option Addr) (op0 : Int) (op1 : Int) (op2 : Int) {w : World} {R : Value → World → Prop} (hvc : V_impl_Queue_runs q op0 op1 op2 w R) : Calls Try.prog fn_impl_Queue_runs #[.pointer q, .agg #[.int .i64 op0, .int .i64 op1, .int .i64 op2]] w fun e0 wr0 => ∃ v0, e0 = .returned v0 ∧ R v0 wr0 :=
  eff_of_ev (C := c_impl_Queue_runs) (sps := s_impl_Queue_runs) (body := bodyOf Try.f51) (env _ _ _) Try.func51 rfl rfl (of_decide_eq_true (by kernel_rfl)) (of_decide_eq_true (by kernel_rfl)) rfl (by rw [v_impl_Queue_runs]; exact hvc)
noncomputable def c_impl_Queue_weighs : Cfg := { P := Try.prog, T := tblGet tbl, pf := pfT, ef := efT, tt := ttT, vis := [], n := 60, pm := false }
noncomputable def s_impl_Queue_weighs : List (Nat × LSpec) := []
def V_impl_Queue_weighs (q : Option Addr) (op0 : Int) (op1 : Int) (op2 : Int) (w : World) (R : Value → World → Prop) : Prop :=
    (∀ b, w.heap.size ≤ b →
    (∃ (entry : Option Addr),
    PureX [] Try.prog fn_impl_Queue_entry #[.pointer q, .int .i64 op1] w (.pointer entry) ∧
    (∃ (weight : Bool),
    (entry.isNone = false → PureX [] Try.prog fn_impl_weightOk #[.int .i64 op2] w (.bool weight)) ∧
    ((entry.isNone || (!weight)) = true →
    (∀ wr, ExtX [] w wr → R (.bool false) wr)) ∧
    ((entry.isNone || (!weight)) = false →
    entry.isSome = true ∧
    (∃ (onv : Bool),
    CellsX [] w entry (0 + 0) [.bool onv] ∧
    (onv = true →
    q.isSome = true ∧
    (∃ (floor : Int),
    CellsX [] w q (0 + 0) [.int .i64 floor] ∧
    entry.isSome = true ∧
    (∃ (v : Int),
    CellsX [] w entry (0 + 1) [.int .i64 v] ∧
    q.isSome = true ∧
    (∃ (floor1 : Int),
    CellsX [] w q (0 + 0) [.int .i64 floor1] ∧
    InR .i64 (v - floor1) ∧
    (∃ (xLagCut : Int),
    PureX [] Try.prog fn_impl_LagCut #[.int .i64 (v - floor1), .int .i64 op2] w (.int .i64 xLagCut) ∧
    InR .i64 (floor + xLagCut) ∧
    ((decide (floor + xLagCut > 100000000000000000)) = true →
    (∀ wr1, ExtX [] w wr1 → R (.bool false) wr1)) ∧
    ((decide (floor + xLagCut > 100000000000000000)) = false →
    entry.isSome = true ∧
    WrX [] w entry (0 + 1) 1 ∧
    entry.isSome = true ∧
    WrX [] (sto w entry (0 + 1) [.int .i64 (floor + xLagCut)]) entry (0 + 2) 1 ∧
    q.isSome = true ∧
    (∃ (cur : Int),
    CellsX [] (sto (sto w entry (0 + 1) [.int .i64 (floor + xLagCut)]) entry (0 + 2) [.int .i64 op2]) q (0 + 1) [.int .i64 cur] ∧
    ((op1 == cur) = true →
    (∀ wr2, ExtX [] (sto (sto w entry (0 + 1) [.int .i64 (floor + xLagCut)]) entry (0 + 2) [.int .i64 op2]) wr2 → (∀ bq ∈ ([b] : List Nat), bq < wr2.heap.size) → 
    Calls Try.prog fn_impl_Queue_endSlice #[.pointer q] wr2 fun e wv =>
    e = .returned (.tuple #[]) ∧ Kept [b] wr2 wv ∧
    (∀ wr3, ExtX [b] wv wr3 → R (.bool true) wr3))) ∧
    ((op1 == cur) = false →
    (∀ wr4, ExtX [] (sto (sto w entry (0 + 1) [.int .i64 (floor + xLagCut)]) entry (0 + 2) [.int .i64 op2]) wr4 → R (.bool true) wr4))))))))) ∧
    (onv = false →
    entry.isSome = true ∧
    WrX [] w entry (0 + 2) 1 ∧
    q.isSome = true ∧
    (∃ (cur1 : Int),
    CellsX [] (sto w entry (0 + 2) [.int .i64 op2]) q (0 + 1) [.int .i64 cur1] ∧
    ((op1 == cur1) = true →
    (∀ wr5, ExtX [] (sto w entry (0 + 2) [.int .i64 op2]) wr5 → (∀ bq ∈ ([b] : List Nat), bq < wr5.heap.size) → 
    Calls Try.prog fn_impl_Queue_endSlice #[.pointer q] wr5 fun e1 wv1 =>
    e1 = .returned (.tuple #[]) ∧ Kept [b] wr5 wv1 ∧
    (∀ wr6, ExtX [b] wv1 wr6 → R (.bool true) wr6))) ∧
    ((op1 == cur1) = false →
    (∀ wr7, ExtX [] (sto w entry (0 + 2) [.int .i64 op2]) wr7 → R (.bool true) wr7)))))))))
theorem v_impl_Queue_weighs (q : Option Addr) (op0 : Int) (op1 : Int) (op2 : Int) (w : World) (R : Value → World → Prop) : evFn c_impl_Queue_weighs s_impl_Queue_weighs [.pointer q, .agg #[.int .i64 op0, .int .i64 op1, .int .i64 op2]] (bodyOf Try.f52) Try.f52.results.toList w R = V_impl_Queue_weighs q op0 op1 op2 w R := by kernel_rfl
theorem e_impl_Queue_weighs (q : Option Addr) (op0 : Int) (op1 : Int) (op2 : Int) {w : World} {R : Value → World → Prop} (hvc : V_impl_Queue_weighs q op0 op1 op2 w R) : Calls Try.prog fn_impl_Queue_weighs #[.pointer q, .agg #[.int .i64 op0, .int .i64 op1, .int .i64 op2]] w fun e0 wr0 => ∃ v0, e0 = .returned v0 ∧ R v0 wr0 :=
  eff_of_ev (C := c_impl_Queue_weighs) (sps := s_impl_Queue_weighs) (body := bodyOf Try.f52) (env _ _ _) Try.func52 rfl rfl (of_decide_eq_true (by kernel_rfl)) (of_decide_eq_true (by kernel_rfl)) rfl (by rw [v_impl_Queue_weighs]; exact hvc)
noncomputable def c_impl_Queue_stays : Cfg := { P := Try.prog, T := tblGet tbl, pf := pfT, ef := efT, tt := ttT, vis := [], n := 7, pm := false }
noncomputable def s_impl_Queue_stays : List (Nat × LSpec) := []
def V_impl_Queue_stays (q : Option Addr) (x0 : Int) (x1 : Int) (x2 : Int) (w : World) (R : Value → World → Prop) : Prop :=
    (∀ b, w.heap.size ≤ b →
    (∀ wr, ExtX [] w wr → (∀ bq ∈ ([b] : List Nat), bq < wr.heap.size) → 
    Calls Try.prog fn_impl_Queue_endSlice #[.pointer q] wr fun e wv =>
    e = .returned (.tuple #[]) ∧ Kept [b] wr wv ∧
    (∀ wr1, ExtX [b] wv wr1 → R (.bool true) wr1)))
theorem v_impl_Queue_stays (q : Option Addr) (x0 : Int) (x1 : Int) (x2 : Int) (w : World) (R : Value → World → Prop) : evFn c_impl_Queue_stays s_impl_Queue_stays [.pointer q, .agg #[.int .i64 x0, .int .i64 x1, .int .i64 x2]] (bodyOf Try.f53) Try.f53.results.toList w R = V_impl_Queue_stays q x0 x1 x2 w R := by kernel_rfl
theorem e_impl_Queue_stays (q : Option Addr) (x0 : Int) (x1 : Int) (x2 : Int) {w : World} {R : Value → World → Prop} (hvc : V_impl_Queue_stays q x0 x1 x2 w R) : Calls Try.prog fn_impl_Queue_stays #[.pointer q, .agg #[.int .i64 x0, .int .i64 x1, .int .i64 x2]] w fun e0 wr0 => ∃ v0, e0 = .returned v0 ∧ R v0 wr0 :=
  eff_of_ev (C := c_impl_Queue_stays) (sps := s_impl_Queue_stays) (body := bodyOf Try.f53) (env _ _ _) Try.func53 rfl rfl (of_decide_eq_true (by kernel_rfl)) (of_decide_eq_true (by kernel_rfl)) rfl (by rw [v_impl_Queue_stays]; exact hvc)
noncomputable def c_impl_queueCopy : Cfg := { P := Try.prog, T := tblGet tbl, pf := pfT, ef := efT, tt := ttT, vis := [], n := 15, pm := false }
noncomputable def s_impl_queueCopy : List (Nat × LSpec) := []
def V_impl_queueCopy (q0 : Int) (q1 : Int) (q2 : Int) (q3O : Option Addr) (q3L : Nat) (q3C : Nat) (w : World) (R : Value → World → Prop) : Prop :=
    (∀ b, w.heap.size ≤ b →
    (∀ b1, w.heap.size ≤ b1 →
    (∀ wr, ExtX [] w wr → (∀ bq ∈ ([b, b1] : List Nat), bq < wr.heap.size) →
    (∃ (mkO : Option Addr) (mkL : Nat) (mkC : Nat),
    ∃ wv, ((Instr.makeSlice ty_sl_impl_Entry (.int .i64 ((q3L : Nat) : Int)) (.int .i64 ((q3L : Nat) : Int))) : Sem Value).run Try.prog wr = .ok (.slice mkO mkL mkC) wv ∧ Kept [b, b1] wr wv ∧
    (∀ wr1, ExtX [b, b1] wv wr1 → (∀ bq ∈ ([b, b1] : List Nat), bq < wr1.heap.size) → 
    (∃ (ap : Int),
    ∃ wv1, (builtin .copy #[ty_sl_impl_Entry, ty_sl_impl_Entry] ty_int #[false, false] #[.slice mkO mkL mkC, .slice q3O q3L q3C]).run Try.prog wr1 = .ok (.value (.int .i64 ap)) wv1 ∧ Kept [b, b1] wr1 wv1 ∧
    (∀ wr2, ExtX [b, b1] wv1 wr2 → R (.agg #[.int .i64 q0, .int .i64 q1, .int .i64 q2, .slice mkO mkL mkC]) wr2)))))))
theorem v_impl_queueCopy (q0 : Int) (q1 : Int) (q2 : Int) (q3O : Option Addr) (q3L : Nat) (q3C : Nat) (w : World) (R : Value → World → Prop) : evFn c_impl_queueCopy s_impl_queueCopy [.agg #[.int .i64 q0, .int .i64 q1, .int .i64 q2, .slice q3O q3L q3C]] (bodyOf Try.f54) Try.f54.results.toList w R = V_impl_queueCopy q0 q1 q2 q3O q3L q3C w R := by kernel_rfl
theorem e_impl_queueCopy (q0 : Int) (q1 : Int) (q2 : Int) (q3O : Option Addr) (q3L : Nat) (q3C : Nat) {w : World} {R : Value → World → Prop} (hvc : V_impl_queueCopy q0 q1 q2 q3O q3L q3C w R) : Calls Try.prog fn_impl_queueCopy #[.agg #[.int .i64 q0, .int .i64 q1, .int .i64 q2, .slice q3O q3L q3C]] w fun e0 wr0 => ∃ v0, e0 = .returned v0 ∧ R v0 wr0 :=
  eff_of_ev (C := c_impl_queueCopy) (sps := s_impl_queueCopy) (body := bodyOf Try.f54) (env _ _ _) Try.func54 rfl rfl (of_decide_eq_true (by kernel_rfl)) (of_decide_eq_true (by kernel_rfl)) rfl (by rw [v_impl_queueCopy]; exact hvc)
noncomputable def c_impl_Queue_rise : Cfg := { P := Try.prog, T := tblGet tbl, pf := pfT, ef := efT, tt := ttT, vis := [], n := 25, pm := false }
noncomputable def s_impl_Queue_rise : List (Nat × LSpec) := []
def V_impl_Queue_rise (q : Option Addr) (w : World) (R : Value → World → Prop) : Prop :=
    q.isSome = true ∧
    (∃ (x0 : Int) (x1 : Int) (x2 : Int) (x3O : Option Addr) (x3L : Nat) (x3C : Nat),
    CellsX [] w q 0 [.int .i64 x0, .int .i64 x1, .int .i64 x2, .slice x3O x3L x3C] ∧
    (∃ (queueF : Int),
    PureX [] Try.prog fn_impl_queueFirst #[.agg #[.int .i64 x0, .int .i64 x1, .int .i64 x2, .slice x3O x3L x3C]] w (.int .i64 queueF) ∧
    ((decide (queueF ≥ 0)) = true →
    q.isSome = true ∧
    (∃ (floor : Int),
    CellsX [] w q (0 + 0) [.int .i64 floor] ∧
    q.isSome = true ∧
    (∃ (entriesO : Option Addr) (entriesL : Nat) (entriesC : Nat),
    CellsX [] w q (0 + 3) [.slice entriesO entriesL entriesC] ∧
    Ix entriesO entriesL queueF ∧
    (∃ (v : Int),
    CellsX [] w entriesO (Int.toNat queueF * 4 + 1) [.int .i64 v] ∧
    q.isSome = true ∧
    WrX [] w q (0 + 0) 1 ∧
    (∀ wr, ExtX [] (sto w q (0 + 0) [.int .i64 (if v > floor then v else floor)]) wr → R (.tuple #[]) wr))))) ∧
    ((decide (queueF ≥ 0)) = false →
    (∀ wr1, ExtX [] w wr1 → R (.tuple #[]) wr1))))
theorem v_impl_Queue_rise (q : Option Addr) (w : World) (R : Value → World → Prop) : evFn c_impl_Queue_rise s_impl_Queue_rise [.pointer q] (bodyOf Try.f56) Try.f56.results.toList w R = V_impl_Queue_rise q w R := by kernel_rfl
theorem e_impl_Queue_rise (q : Option Addr) {w : World} {R : Value → World → Prop} (hvc : V_impl_Queue_rise q w R) : Calls Try.prog fn_impl_Queue_rise #[.pointer q] w fun e0 wr0 => ∃ v0, e0 = .returned v0 ∧ R v0 wr0 :=
  eff_of_ev (C := c_impl_Queue_rise) (sps := s_impl_Queue_rise) (body := bodyOf Try.f56) (env _ _ _) Try.func56 rfl rfl (of_decide_eq_true (by kernel_rfl)) (of_decide_eq_true (by kernel_rfl)) rfl (by rw [v_impl_Queue_rise]; exact hvc)
noncomputable def c_impl_QueueDo : Cfg := { P := Try.prog, T := tblGet tbl, pf := pfT, ef := efT, tt := ttT, vis := [7], n := 32, pm := false }
noncomputable def s_impl_QueueDo : List (Nat × LSpec) := []
def V_impl_QueueDo (q0 : Int) (q1 : Int) (q2 : Int) (q3O : Option Addr) (q3L : Nat) (q3C : Nat) (op0 : Int) (op1 : Int) (op2 : Int) (w : World) (R : Value → World → Prop) : Prop :=
    (∀ b, w.heap.size ≤ b →
    (∀ b1, w.heap.size ≤ b1 →
    (∀ b2, w.heap.size ≤ b2 →
    (∃ (xQueueO : Bool),
    PureX [] Try.prog fn_impl_QueueOk #[.agg #[.int .i64 q0, .int .i64 q1, .int .i64 q2, .slice q3O q3L q3C]] w (.bool xQueueO) ∧
    ((!xQueueO) = true →
    (∀ wr, ExtX [] w wr → R (.tuple #[.agg #[.int .i64 0, .int .i64 0, .int .i64 0, .slice none 0 0], .bool false]) wr)) ∧
    ((!xQueueO) = false →
    (∀ b3, w.heap.size ≤ b3 →
    (∀ wr1, ExtX [] w wr1 → (∀ bq ∈ ([b, b1, b2, b3] : List Nat), bq < wr1.heap.size) → 
    Calls Try.prog fn_impl_queueCopy #[.agg #[.int .i64 q0, .int .i64 q1, .int .i64 q2, .slice q3O q3L q3C]] wr1 fun e wv =>
    (∃ (queueC : Int) (queueC1 : Int) (queueC2 : Int) (queueC3O : Option Addr) (queueC3L : Nat) (queueC3C : Nat),
    e = .returned (.agg #[.int .i64 queueC, .int .i64 queueC1, .int .i64 queueC2, .slice queueC3O queueC3L queueC3C]) ∧ Kept [b, b1, b2, b3] wr1 wv ∧
    (∀ b4 wb, ExtX [b, b1, b2, b3] wv wb → wv.heap.size ≤ b4 → wb.heap[b4]? = some (Obj.cells ([.int .i64 0, .int .i64 0, .int .i64 0, .slice none 0 0] : List Value).toArray ty_impl_Queue (0, 0)) → b4 ∉ ([b, b1, b2, b3] : List Nat) →
    WrX [b, b1, b2, b3] wb (some (Addr.mk b4 0 none)) 0 4 ∧
    (∃ (inRang : Bool),
    PureX [b, b1, b2, b3] Try.prog fn_impl_inRange #[.int .i64 op0, .int .i64 1, .int .i64 5] (sto wb (some (Addr.mk b4 0 none)) 0 [.int .i64 queueC, .int .i64 queueC1, .int .i64 queueC2, .slice queueC3O queueC3L queueC3C]) (.bool inRang) ∧
    ((!inRang) = false → 0 ≤ op0 ∧ op0 < ((6 : Nat) : Int)) ∧
    (∃ (xF : FuncId) (xA : Array Value) (xK : Array Value),
    ((!inRang) = false → (0 ≤ op0 ∧ ([.nilFunc, .func (.func fn_impl_Queue_joins) #[] #[], .func (.func fn_impl_Queue_leaves) #[] #[], .func (.func fn_impl_Queue_runs) #[] #[], .func (.func fn_impl_Queue_weighs) #[] #[], .func (.func fn_impl_Queue_stays) #[] #[]] : List Value)[Int.toNat op0 + 0]? = some (.func (.func xF) xA xK))) ∧
    ((!inRang) = false → (∀ wr2, ExtX [b, b1, b2, b3] (sto wb (some (Addr.mk b4 0 none)) 0 [.int .i64 queueC, .int .i64 queueC1, .int .i64 queueC2, .slice queueC3O queueC3L queueC3C]) wr2 → (∀ bq ∈ ([b, b1, b2, b3] : List Nat), bq < wr2.heap.size) → 
    (∃ (ff : FuncId) (aa : Array Value), (callV (.func (.func xF) xA xK) [.pointer ((some (Addr.mk b4 0 none)).map (·.add 0)), .agg #[.int .i64 op0, .int .i64 op1, .int .i64 op2]]).run Try.prog wr2 = .ok (.enter ff aa) wr2 ∧
    Calls Try.prog ff aa wr2 fun e1 wv1 =>
    (∃ (rv : Bool),
    e1 = .returned (.bool rv) ∧ Kept [b, b1, b2, b3] wr2 wv1 ∧
    (((!inRang) || (!rv)) = true →
    (∀ wr3, ExtX [b, b1, b2, b3] wv1 wr3 → (∀ bq ∈ ([b, b1, b2, b3] : List Nat), bq < wr3.heap.size) → 
    Calls Try.prog fn_impl_queueCopy #[.agg #[.int .i64 q0, .int .i64 q1, .int .i64 q2, .slice q3O q3L q3C]] wr3 fun e2 wv2 =>
    (∃ (queueC4 : Int) (queueC5 : Int) (queueC6 : Int) (queueC7O : Option Addr) (queueC7L : Nat) (queueC7C : Nat),
    e2 = .returned (.agg #[.int .i64 queueC4, .int .i64 queueC5, .int .i64 queueC6, .slice queueC7O queueC7L queueC7C]) ∧ Kept [b, b1, b2, b3] wr3 wv2 ∧
    (∀ wr4, ExtX [b, b1, b2, b3] wv2 wr4 → R (.tuple #[.agg #[.int .i64 queueC4, .int .i64 queueC5, .int .i64 queueC6, .slice queueC7O queueC7L queueC7C], .bool false]) wr4)))) ∧
    (((!inRang) || (!rv)) = false →
    (∀ wr5, ExtX [b, b1, b2, b3] wv1 wr5 → (∀ bq ∈ ([b, b1, b2, b3] : List Nat), bq < wr5.heap.size) → 
    Calls Try.prog fn_impl_Queue_rise #[.pointer ((some (Addr.mk b4 0 none)).map (·.add 0))] wr5 fun e3 wv3 =>
    e3 = .returned (.tuple #[]) ∧ Kept [b, b1, b2, b3] wr5 wv3 ∧
    (∃ (x0 : Int) (x1 : Int) (x2 : Int) (x3O : Option Addr) (x3L : Nat) (x3C : Nat),
    CellsX [b, b1, b2, b3] wv3 (some (Addr.mk b4 0 none)) 0 [.int .i64 x0, .int .i64 x1, .int .i64 x2, .slice x3O x3L x3C] ∧
    (∀ wr6, ExtX [b, b1, b2, b3] wv3 wr6 → R (.tuple #[.agg #[.int .i64 x0, .int .i64 x1, .int .i64 x2, .slice x3O x3L x3C], .bool true]) wr6)))))))) ∧
    (((!inRang) = false → False) →
    (true = true →
    (∀ wr7, ExtX [b, b1, b2, b3] (sto wb (some (Addr.mk b4 0 none)) 0 [.int .i64 queueC, .int .i64 queueC1, .int .i64 queueC2, .slice queueC3O queueC3L queueC3C]) wr7 → (∀ bq ∈ ([b, b1, b2, b3] : List Nat), bq < wr7.heap.size) → 
    Calls Try.prog fn_impl_queueCopy #[.agg #[.int .i64 q0, .int .i64 q1, .int .i64 q2, .slice q3O q3L q3C]] wr7 fun e4 wv4 =>
    (∃ (queueC8 : Int) (queueC9 : Int) (queueC10 : Int) (queueC11O : Option Addr) (queueC11L : Nat) (queueC11C : Nat),
    e4 = .returned (.agg #[.int .i64 queueC8, .int .i64 queueC9, .int .i64 queueC10, .slice queueC11O queueC11L queueC11C]) ∧ Kept [b, b1, b2, b3] wr7 wv4 ∧
    (∀ wr8, ExtX [b, b1, b2, b3] wv4 wr8 → R (.tuple #[.agg #[.int .i64 queueC8, .int .i64 queueC9, .int .i64 queueC10, .slice queueC11O queueC11L queueC11C], .bool false]) wr8)))) ∧
    (true = false →
    (∀ wr9, ExtX [b, b1, b2, b3] (sto wb (some (Addr.mk b4 0 none)) 0 [.int .i64 queueC, .int .i64 queueC1, .int .i64 queueC2, .slice queueC3O queueC3L queueC3C]) wr9 → (∀ bq ∈ ([b, b1, b2, b3] : List Nat), bq < wr9.heap.size) → 
    Calls Try.prog fn_impl_Queue_rise #[.pointer ((some (Addr.mk b4 0 none)).map (·.add 0))] wr9 fun e5 wv5 =>
    e5 = .returned (.tuple #[]) ∧ Kept [b, b1, b2, b3] wr9 wv5 ∧
    (∃ (x01 : Int) (x11 : Int) (x21 : Int) (x31O : Option Addr) (x31L : Nat) (x31C : Nat),
    CellsX [b, b1, b2, b3] wv5 (some (Addr.mk b4 0 none)) 0 [.int .i64 x01, .int .i64 x11, .int .i64 x21, .slice x31O x31L x31C] ∧
    (∀ wr10, ExtX [b, b1, b2, b3] wv5 wr10 → R (.tuple #[.agg #[.int .i64 x01, .int .i64 x11, .int .i64 x21, .slice x31O x31L x31C], .bool true]) wr10))))))))))))))))
theorem v_impl_QueueDo (q0 : Int) (q1 : Int) (q2 : Int) (q3O : Option Addr) (q3L : Nat) (q3C : Nat) (op0 : Int) (op1 : Int) (op2 : Int) (w : World) (R : Value → World → Prop) : evFn c_impl_QueueDo s_impl_QueueDo [.agg #[.int .i64 q0, .int .i64 q1, .int .i64 q2, .slice q3O q3L q3C], .agg #[.int .i64 op0, .int .i64 op1, .int .i64 op2]] (bodyOf Try.f16) Try.f16.results.toList w R = V_impl_QueueDo q0 q1 q2 q3O q3L q3C op0 op1 op2 w R := by kernel_rfl
theorem e_impl_QueueDo (q0 : Int) (q1 : Int) (q2 : Int) (q3O : Option Addr) (q3L : Nat) (q3C : Nat) (op0 : Int) (op1 : Int) (op2 : Int) {w : World} {R : Value → World → Prop} (hvc : V_impl_QueueDo q0 q1 q2 q3O q3L q3C op0 op1 op2 w R) : Calls Try.prog fn_impl_QueueDo #[.agg #[.int .i64 q0, .int .i64 q1, .int .i64 q2, .slice q3O q3L q3C], .agg #[.int .i64 op0, .int .i64 op1, .int .i64 op2]] w fun e0 wr0 => ∃ v0, e0 = .returned v0 ∧ R v0 wr0 :=
  eff_of_ev (C := c_impl_QueueDo) (sps := s_impl_QueueDo) (body := bodyOf Try.f16) (env _ _ _) Try.func16 rfl rfl (of_decide_eq_true (by kernel_rfl)) (of_decide_eq_true (by kernel_rfl)) rfl (by rw [v_impl_QueueDo]; exact hvc)
noncomputable def c_laws_stQueue : Cfg := { P := Try.prog, T := tblGet tbl, pf := pfT, ef := efT, tt := ttT, vis := [], n := 52, pm := true }
noncomputable def s_laws_stQueue : List (Nat × LSpec) := [(4, { chg := [(5, .int .i64)], chgL := [], keep := [2, 3] })]
def V_laws_stQueue (a0 : Int) (a1 : Int) (a2 : Int) (a3O : Option Addr) (a3L : Nat) (a3C : Nat) (b0 : Int) (b1 : Int) (b2 : Int) (b3O : Option Addr) (b3L : Nat) (b3C : Nat) (w : World) (R : Value → World → Prop) : Prop :=
    (∀ b, w.heap.size ≤ b →
    (∀ b4, w.heap.size ≤ b4 →
    (((((a0 != b0) || (a1 != b1)) || (a2 != b2)) || (((a3L : Nat) : Int) != ((b3L : Nat) : Int))) = true →
    R (.bool false) w) ∧
    (((((a0 != b0) || (a1 != b1)) || (a2 != b2)) || (((a3L : Nat) : Int) != ((b3L : Nat) : Int))) = false →
    (∃ (xInv : List Value → Prop) (mu : List Value → Nat), xInv [.int .i64 0] ∧
    ∀ (i : Int), xInv [.int .i64 i] →
    ((decide (i < ((a3L : Nat) : Int))) = true →
    Ix a3O a3L i ∧
    (∃ (x0 : Bool) (x1 : Int) (x2 : Int) (x3 : Int),
    CellsX [] w a3O (Int.toNat i * 4) [.bool x0, .int .i64 x1, .int .i64 x2, .int .i64 x3] ∧
    Ix b3O b3L i ∧
    (∃ (x01 : Bool) (x11 : Int) (x21 : Int) (x31 : Int),
    CellsX [] w b3O (Int.toNat i * 4) [.bool x01, .int .i64 x11, .int .i64 x21, .int .i64 x31] ∧
    (∃ (eq : Bool),
    (∀ wq, ((do eqGuard .neq ty_impl_Entry (.tmp 45) (.tmp 50) (.agg #[.bool x0, .int .i64 x1, .int .i64 x2, .int .i64 x3]) (.agg #[.bool x01, .int .i64 x11, .int .i64 x21, .int .i64 x31]); binOp .neq ty_impl_Entry (.agg #[.bool x0, .int .i64 x1, .int .i64 x2, .int .i64 x3]) (.agg #[.bool x01, .int .i64 x11, .int .i64 x21, .int .i64 x31])) : Sem Value).run Try.prog wq = .ok (.bool eq) wq) ∧
    (eq = true →
    R (.bool false) w) ∧
    (eq = false →
    InR .i64 (i + 1) ∧
    xInv [.int .i64 (i + 1)] ∧ mu [.int .i64 (i + 1)] < mu [.int .i64 i]))))) ∧
    ((decide (i < ((a3L : Nat) : Int))) = false →
    R (.bool true) w)))))
theorem v_laws_stQueue (a0 : Int) (a1 : Int) (a2 : Int) (a3O : Option Addr) (a3L : Nat) (a3C : Nat) (b0 : Int) (b1 : Int) (b2 : Int) (b3O : Option Addr) (b3L : Nat) (b3C : Nat) (w : World) (R : Value → World → Prop) : evFn c_laws_stQueue s_laws_stQueue [.agg #[.int .i64 a0, .int .i64 a1, .int .i64 a2, .slice a3O a3L a3C], .agg #[.int .i64 b0, .int .i64 b1, .int .i64 b2, .slice b3O b3L b3C]] (bodyOf Try.f19) Try.f19.results.toList w R = V_laws_stQueue a0 a1 a2 a3O a3L a3C b0 b1 b2 b3O b3L b3C w R := by kernel_rfl
theorem p_laws_stQueue (a0 : Int) (a1 : Int) (a2 : Int) (a3O : Option Addr) (a3L : Nat) (a3C : Nat) (b0 : Int) (b1 : Int) (b2 : Int) (b3O : Option Addr) (b3L : Nat) (b3C : Nat) {w : World} {bs : List Nat} {ret : Value} (hvc : ∀ wr0, ExtX bs w wr0 → V_laws_stQueue a0 a1 a2 a3O a3L a3C b0 b1 b2 b3O b3L b3C wr0 fun v0 _ => v0 = ret) : PureX bs Try.prog fn_laws_stQueue #[.agg #[.int .i64 a0, .int .i64 a1, .int .i64 a2, .slice a3O a3L a3C], .agg #[.int .i64 b0, .int .i64 b1, .int .i64 b2, .slice b3O b3L b3C]] w ret :=
  pure_of_ev (C := c_laws_stQueue) (sps := s_laws_stQueue) (body := bodyOf Try.f19) (env _ _ _) Try.func19 rfl rfl (of_decide_eq_true (by kernel_rfl)) (of_decide_eq_true (by kernel_rfl)) rfl fun wr0 hx0 => by rw [v_laws_stQueue]; exact hvc wr0 hx0
noncomputable def c_impl_QueueApart : Cfg := { P := Try.prog, T := tblGet tbl, pf := pfT, ef := efT, tt := ttT, vis := [], n := 17, pm := true }
noncomputable def s_impl_QueueApart : List (Nat × LSpec) := []
def V_impl_QueueApart (a : Int) (b : Int) (w : World) (R : Value → World → Prop) : Prop :=
    (∃ (weight : Bool),
    PureX [] Try.prog fn_impl_weightOk #[.int .i64 a] w (.bool weight) ∧
    (∃ (weight1 : Bool),
    ((!weight) = false → PureX [] Try.prog fn_impl_weightOk #[.int .i64 b] w (.bool weight1)) ∧
    (((!weight) || (!weight1)) = true →
    R (.int .i64 0) w) ∧
    (((!weight) || (!weight1)) = false →
    InR .i64 (a + b) ∧
    InR .i64 (149 * (a + b)) ∧
    R (.int .i64 (149 * (a + b))) w)))
theorem v_impl_QueueApart (a : Int) (b : Int) (w : World) (R : Value → World → Prop) : evFn c_impl_QueueApart s_impl_QueueApart [.int .i64 a, .int .i64 b] (bodyOf Try.f20) Try.f20.results.toList w R = V_impl_QueueApart a b w R := by kernel_rfl
theorem p_impl_QueueApart (a : Int) (b : Int) {w : World} {bs : List Nat} {ret : Value} (hvc : ∀ wr0, ExtX bs w wr0 → V_impl_QueueApart a b wr0 fun v0 _ => v0 = ret) : PureX bs Try.prog fn_impl_QueueApart #[.int .i64 a, .int .i64 b] w ret :=
  pure_of_ev (C := c_impl_QueueApart) (sps := s_impl_QueueApart) (body := bodyOf Try.f20) (env _ _ _) Try.func20 rfl rfl (of_decide_eq_true (by kernel_rfl)) (of_decide_eq_true (by kernel_rfl)) rfl fun wr0 hx0 => by rw [v_impl_QueueApart]; exact hvc wr0 hx0
noncomputable def c_laws_FnQueueTop : Cfg := { P := Try.prog, T := tblGet tbl, pf := pfT, ef := efT, tt := ttT, vis := [], n := 191, pm := false }
noncomputable def s_laws_FnQueueTop : List (Nat × LSpec) := [(9, { chg := [(9, .int .i64), (11, .int .i64)], chgL := [(0, [.int .i64, .int .i64, .int .i64, .slice]), (1, [.int .i64, .int .i64, .int .i64, .slice])], keep := [5, 6, 7, 8, 10] }), (1000012, { chg := [(13, .bool)], chgL := [], keep := [5, 6, 7, 8, 9, 10, 11], newL := [(ty_impl_Queue, [.int .i64, .int .i64, .int .i64, .slice])], ptr := [(12, 0)] }), (1000013, { chg := [(15, .bool)], chgL := [], keep := [5, 6, 7, 8, 9, 10, 11, 12, 13], newL := [(ty_impl_Queue, [.int .i64, .int .i64, .int .i64, .slice])], ptr := [(14, 0)] }), (1000019, { chg := [(9, .int .i64)], chgL := [], keep := [5, 6, 7, 8, 10, 11, 12, 14, 16, 17] }), (1000022, { chg := [(9, .int .i64)], chgL := [(1, [.int .i64, .int .i64, .int .i64, .slice])], keep := [5, 6, 7, 8, 10, 11, 12, 14, 16, 17] }), (1000026, { chg := [], chgL := [], keep := [5, 6, 7, 8, 9, 10, 11, 14] })]
def V_laws_FnQueueTop (codeO : Option Addr) (codeL : Nat) (codeC : Nat) (moreO : Option Addr) (moreL : Nat) (moreC : Nat) (w : World) (R : Value → World → Prop) : Prop :=
    (((decide (((codeL : Nat) : Int) > 1048576)) || (decide (((moreL : Nat) : Int) > 1048576))) = true →
    (∀ wr, ExtX [] w wr → R (.bool true) wr)) ∧
    (((decide (((codeL : Nat) : Int) > 1048576)) || (decide (((moreL : Nat) : Int) > 1048576))) = false →
    (∀ wr1, ExtX [] w wr1 → (∀ bq ∈ ([] : List Nat), bq < wr1.heap.size) → 
    Calls Try.prog fn_spec_GoodQueue #[.slice codeO codeL codeC] wr1 fun e wv =>
    (∃ (xGoodQu : Int) (xGoodQu1 : Int) (xGoodQu2 : Int) (xGoodQu3O : Option Addr) (xGoodQu3L : Nat) (xGoodQu3C : Nat) (xGoodQu4O : Option Addr) (xGoodQu4L : Nat) (xGoodQu4C : Nat),
    e = .returned (.tuple #[.agg #[.int .i64 xGoodQu, .int .i64 xGoodQu1, .int .i64 xGoodQu2, .slice xGoodQu3O xGoodQu3L xGoodQu3C], .slice xGoodQu4O xGoodQu4L xGoodQu4C]) ∧ Kept [] wr1 wv ∧
    (∀ b, wv.heap.size ≤ b →
    (∃ (stByte : Int),
    PureX [] Try.prog fn_laws_stByte #[.slice moreO moreL moreC, .int .i64 0] wv (.int .i64 stByte) ∧
    ((xGoodQu3L : Nat) : Int) ≠ 0 ∧
    (∃ (stByte1 : Int),
    PureX [] Try.prog fn_laws_stByte #[.slice moreO moreL moreC, .int .i64 1] wv (.int .i64 stByte1) ∧
    ((xGoodQu3L : Nat) : Int) ≠ 0 ∧
    (∀ b1, wv.heap.size ≤ b1 →
    (∃ (xInv2 : List Value → World → Prop) (mu2 : List Value → World → Nat), (∀ wr28, ExtX [] wv wr28 → (∀ bq ∈ ([b, b1] : List Nat), bq < wr28.heap.size) → xInv2 [.int .i64 (-1), .int .i64 0, .int .i64 xGoodQu, .int .i64 xGoodQu1, .int .i64 xGoodQu2, .slice xGoodQu3O xGoodQu3L xGoodQu3C, .int .i64 0, .int .i64 0, .int .i64 0, .slice none 0 0] wr28) ∧
    ∀ (fromv5 : Int) (i2 : Int) (l24 : Int) (l25 : Int) (l26 : Int) (l27O : Option Addr) (l27L : Nat) (l27C : Nat) (l28 : Int) (l29 : Int) (l30 : Int) (l31O : Option Addr) (l31L : Nat) (l31C : Nat) wv23, (∀ bq ∈ ([b, b1] : List Nat), bq < wv23.heap.size) → xInv2 [.int .i64 fromv5, .int .i64 i2, .int .i64 l24, .int .i64 l25, .int .i64 l26, .slice l27O l27L l27C, .int .i64 l28, .int .i64 l29, .int .i64 l30, .slice l31O l31L l31C] wv23 →
    ((decide (i2 < ((xGoodQu4L : Nat) : Int))) = true →
    (∃ (Mid8 : List Value → List Nat → World → Prop),
    (Ix xGoodQu4O xGoodQu4L i2 ∧
    (∃ (x08 : Int) (x18 : Int) (x28 : Int),
    CellsX [b, b1] wv23 xGoodQu4O (Int.toNat i2 * 3) [.int .i64 x08, .int .i64 x18, .int .i64 x28] ∧
    ((∀ wr29, ExtX [b, b1] wv23 wr29 → (∀ bq ∈ ([b, b1] : List Nat), bq < wr29.heap.size) → 
    Calls Try.prog fn_impl_QueueDo #[.agg #[.int .i64 l24, .int .i64 l25, .int .i64 l26, .slice l27O l27L l27C], .agg #[.int .i64 x08, .int .i64 x18, .int .i64 x28]] wr29 fun e9 wv24 =>
    (∃ (xQueueD40 : Int) (xQueueD41 : Int) (xQueueD42 : Int) (xQueueD43O : Option Addr) (xQueueD43L : Nat) (xQueueD43C : Nat) (xQueueD44 : Bool),
    e9 = .returned (.tuple #[.agg #[.int .i64 xQueueD40, .int .i64 xQueueD41, .int .i64 xQueueD42, .slice xQueueD43O xQueueD43L xQueueD43C], .bool xQueueD44]) ∧ Kept [b, b1] wr29 wv24 ∧
    (∀ b18, wv24.heap.size ≤ b18 →
    CellsX [b, b1] wv24 xGoodQu4O (Int.toNat i2 * 3) [.int .i64 x08, .int .i64 x18, .int .i64 x28] ∧
    (some (ty_impl_Queue, ([.int .i64 l24, .int .i64 l25, .int .i64 l26, .slice l27O l27L l27C] : List Value)) = some (ty_impl_Queue, ([.int .i64 l24, .int .i64 l25, .int .i64 l26, .slice l27O l27L l27C] : List Value))) ∧
    (∀ wr30, ExtX [b, b1] wv24 wr30 → (∀ bq ∈ ([b, b1, b18] : List Nat), bq < wr30.heap.size) → Mid8 [.bool xQueueD44, .int .i64 xQueueD40, .int .i64 xQueueD41, .int .i64 xQueueD42, .slice xQueueD43O xQueueD43L xQueueD43C] [b18] wr30))))) ∧
    ((∀ b19, wv23.heap.size ≤ b19 →
    CellsX [b, b1] wv23 xGoodQu4O (Int.toNat i2 * 3) [.int .i64 x08, .int .i64 x18, .int .i64 x28] ∧
    (some (ty_impl_Queue, ([.int .i64 l24, .int .i64 l25, .int .i64 l26, .slice l27O l27L l27C] : List Value)) = some (ty_impl_Queue, ([.int .i64 l24, .int .i64 l25, .int .i64 l26, .slice l27O l27L l27C] : List Value))) ∧
    (∀ wr31, ExtX [b, b1] wv23 wr31 → (∀ bq ∈ ([b, b1, b19] : List Nat), bq < wr31.heap.size) → 
    Calls Try.prog fn_impl_QueueDo #[.agg #[.int .i64 l24, .int .i64 l25, .int .i64 l26, .slice l27O l27L l27C], .agg #[.int .i64 x08, .int .i64 x18, .int .i64 x28]] wr31 fun e10 wv25 =>
    (∃ (xQueueD45 : Int) (xQueueD46 : Int) (xQueueD47 : Int) (xQueueD48O : Option Addr) (xQueueD48L : Nat) (xQueueD48C : Nat) (xQueueD49 : Bool),
    e10 = .returned (.tuple #[.agg #[.int .i64 xQueueD45, .int .i64 xQueueD46, .int .i64 xQueueD47, .slice xQueueD48O xQueueD48L xQueueD48C], .bool xQueueD49]) ∧ Kept [b, b1, b19] wr31 wv25 ∧
    (∀ wr32, ExtX [b, b1, b19] wv25 wr32 → (∀ bq ∈ ([b, b1, b19] : List Nat), bq < wr32.heap.size) → Mid8 [.bool xQueueD49, .int .i64 xQueueD45, .int .i64 xQueueD46, .int .i64 xQueueD47, .slice xQueueD48O xQueueD48L xQueueD48C] [b19] wr32))))))) ∧
    (∀ (ok2 : Bool) (l32 : Int) (l33 : Int) (l34 : Int) (l35O : Option Addr) (l35L : Nat) (l35C : Nat) (b20 : Nat) (wv26 : World), (∀ bq ∈ ([b, b1, b20] : List Nat), bq < wv26.heap.size) → Mid8 [.bool ok2, .int .i64 l32, .int .i64 l33, .int .i64 l34, .slice l35O l35L l35C] [b20] wv26 →
    (∃ (Mid9 : List Value → List Nat → World → Prop),
    (Ix xGoodQu4O xGoodQu4L i2 ∧
    (∃ (x09 : Int) (x19 : Int) (x29 : Int),
    CellsX [b, b1, b20] wv26 xGoodQu4O (Int.toNat i2 * 3) [.int .i64 x09, .int .i64 x19, .int .i64 x29] ∧
    ((∀ wr33, ExtX [b, b1, b20] wv26 wr33 → (∀ bq ∈ ([b, b1, b20] : List Nat), bq < wr33.heap.size) → 
    Calls Try.prog fn_spec_QueueDo #[.agg #[.int .i64 l24, .int .i64 l25, .int .i64 l26, .slice l27O l27L l27C], .agg #[.int .i64 x09, .int .i64 x19, .int .i64 x29]] wr33 fun e11 wv27 =>
    (∃ (xQueueD50 : Int) (xQueueD51 : Int) (xQueueD52 : Int) (xQueueD53O : Option Addr) (xQueueD53L : Nat) (xQueueD53C : Nat) (xQueueD54 : Bool),
    e11 = .returned (.tuple #[.agg #[.int .i64 xQueueD50, .int .i64 xQueueD51, .int .i64 xQueueD52, .slice xQueueD53O xQueueD53L xQueueD53C], .bool xQueueD54]) ∧ Kept [b, b1, b20] wr33 wv27 ∧
    (∀ b21, wv27.heap.size ≤ b21 →
    CellsX [b, b1, b20] wv27 xGoodQu4O (Int.toNat i2 * 3) [.int .i64 x09, .int .i64 x19, .int .i64 x29] ∧
    (some (ty_impl_Queue, ([.int .i64 l24, .int .i64 l25, .int .i64 l26, .slice l27O l27L l27C] : List Value)) = some (ty_impl_Queue, ([.int .i64 l24, .int .i64 l25, .int .i64 l26, .slice l27O l27L l27C] : List Value))) ∧
    (∀ wr34, ExtX [b, b1, b20] wv27 wr34 → (∀ bq ∈ ([b, b1, b20, b21] : List Nat), bq < wr34.heap.size) → Mid9 [.bool xQueueD54, .int .i64 xQueueD50, .int .i64 xQueueD51, .int .i64 xQueueD52, .slice xQueueD53O xQueueD53L xQueueD53C] [b21] wr34))))) ∧
    ((∀ b22, wv26.heap.size ≤ b22 →
    CellsX [b, b1, b20] wv26 xGoodQu4O (Int.toNat i2 * 3) [.int .i64 x09, .int .i64 x19, .int .i64 x29] ∧
    (some (ty_impl_Queue, ([.int .i64 l24, .int .i64 l25, .int .i64 l26, .slice l27O l27L l27C] : List Value)) = some (ty_impl_Queue, ([.int .i64 l24, .int .i64 l25, .int .i64 l26, .slice l27O l27L l27C] : List Value))) ∧
    (∀ wr35, ExtX [b, b1, b20] wv26 wr35 → (∀ bq ∈ ([b, b1, b20, b22] : List Nat), bq < wr35.heap.size) → 
    Calls Try.prog fn_spec_QueueDo #[.agg #[.int .i64 l24, .int .i64 l25, .int .i64 l26, .slice l27O l27L l27C], .agg #[.int .i64 x09, .int .i64 x19, .int .i64 x29]] wr35 fun e12 wv28 =>
    (∃ (xQueueD55 : Int) (xQueueD56 : Int) (xQueueD57 : Int) (xQueueD58O : Option Addr) (xQueueD58L : Nat) (xQueueD58C : Nat) (xQueueD59 : Bool),
    e12 = .returned (.tuple #[.agg #[.int .i64 xQueueD55, .int .i64 xQueueD56, .int .i64 xQueueD57, .slice xQueueD58O xQueueD58L xQueueD58C], .bool xQueueD59]) ∧ Kept [b, b1, b20, b22] wr35 wv28 ∧
    (∀ wr36, ExtX [b, b1, b20, b22] wv28 wr36 → (∀ bq ∈ ([b, b1, b20, b22] : List Nat), bq < wr36.heap.size) → Mid9 [.bool xQueueD59, .int .i64 xQueueD55, .int .i64 xQueueD56, .int .i64 xQueueD57, .slice xQueueD58O xQueueD58L xQueueD58C] [b22] wr36))))))) ∧
    (∀ (fine2 : Bool) (l36 : Int) (l37 : Int) (l38 : Int) (l39O : Option Addr) (l39L : Nat) (l39C : Nat) (b23 : Nat) (wv29 : World), (∀ bq ∈ ([b, b1, b20, b23] : List Nat), bq < wv29.heap.size) → Mid9 [.bool fine2, .int .i64 l36, .int .i64 l37, .int .i64 l38, .slice l39O l39L l39C] [b23] wv29 →
    (∃ (xQueueO2 : Bool),
    ((!(ok2 == fine2)) = false → PureX [b, b1, b20, b23] Try.prog fn_impl_QueueOk #[.agg #[.int .i64 l32, .int .i64 l33, .int .i64 l34, .slice l35O l35L l35C]] wv29 (.bool xQueueO2)) ∧
    (∃ (stQueu2 : Bool),
    (((!(ok2 == fine2)) || (!xQueueO2)) = false → PureX [b, b1, b20, b23] Try.prog fn_laws_stQueue #[.agg #[.int .i64 l32, .int .i64 l33, .int .i64 l34, .slice l35O l35L l35C], .agg #[.int .i64 l36, .int .i64 l37, .int .i64 l38, .slice l39O l39L l39C]] wv29 (.bool stQueu2)) ∧
    ((((!(ok2 == fine2)) || (!xQueueO2)) || (!stQueu2)) = true →
    (∀ wr37, ExtX [b, b1, b20, b23] wv29 wr37 → R (.bool false) wr37)) ∧
    ((((!(ok2 == fine2)) || (!xQueueO2)) || (!stQueu2)) = false →
    Ix l39O l39L (Int.tmod stByte ((xGoodQu3L : Nat) : Int)) ∧
    (∃ (x010 : Bool) (x110 : Int) (x210 : Int) (x34 : Int),
    CellsX [b, b1, b20, b23] wv29 l39O (Int.toNat (Int.tmod stByte ((xGoodQu3L : Nat) : Int)) * 4) [.bool x010, .int .i64 x110, .int .i64 x210, .int .i64 x34] ∧
    (∀ b24, wv29.heap.size ≤ b24 →
    Ix l39O l39L (Int.tmod stByte1 ((xGoodQu3L : Nat) : Int)) ∧
    (∃ (x011 : Bool) (x111 : Int) (x211 : Int) (x35 : Int),
    CellsX [b, b1, b20, b23] wv29 l39O (Int.toNat (Int.tmod stByte1 ((xGoodQu3L : Nat) : Int)) * 4) [.bool x011, .int .i64 x111, .int .i64 x211, .int .i64 x35] ∧
    (∀ b25, wv29.heap.size ≤ b25 →
    (∃ (Mid10 : List Value → List Nat → World → Prop),
    ((((!x010) || (!x011)) = false → ((decide (fromv5 ≥ 0)) = true → Ix l31O l31L (Int.tmod stByte ((xGoodQu3L : Nat) : Int)))) ∧
    (∃ (wv30 : Int),
    (((!x010) || (!x011)) = false → ((decide (fromv5 ≥ 0)) = true → CellsX [b, b1, b20, b23] wv29 l31O (Int.toNat (Int.tmod stByte ((xGoodQu3L : Nat) : Int)) * 4 + 2) [.int .i64 wv30])) ∧
    ((((!x010) || (!x011)) || (x210 != wv30)) = false → ((decide (fromv5 ≥ 0)) = true → Ix l31O l31L (Int.tmod stByte1 ((xGoodQu3L : Nat) : Int)))) ∧
    (∃ (wv31 : Int),
    ((((!x010) || (!x011)) || (x210 != wv30)) = false → ((decide (fromv5 ≥ 0)) = true → CellsX [b, b1, b20, b23] wv29 l31O (Int.toNat (Int.tmod stByte1 ((xGoodQu3L : Nat) : Int)) * 4 + 2) [.int .i64 wv31])) ∧
    (((decide (fromv5 ≥ 0)) && ((((!x010) || (!x011)) || (x210 != wv30)) || (x211 != wv31))) = true →
    (∀ wr38, ExtX [b, b1, b20, b23] wv29 wr38 → (∀ bq ∈ ([b, b1, b20, b23, b24, b25] : List Nat), bq < wr38.heap.size) → Mid10 [.int .i64 (-1)] [] wr38)) ∧
    (((decide (fromv5 ≥ 0)) && ((((!x010) || (!x011)) || (x210 != wv30)) || (x211 != wv31))) = false →
    (∀ wr39, ExtX [b, b1, b20, b23] wv29 wr39 → (∀ bq ∈ ([b, b1, b20, b23, b24, b25] : List Nat), bq < wr39.heap.size) → Mid10 [.int .i64 fromv5] [] wr39))))) ∧
    (∀ (fromv6 : Int) (wv32 : World), (∀ bq ∈ ([b, b1, b20, b23, b24, b25] : List Nat), bq < wv32.heap.size) → Mid10 [.int .i64 fromv6] [] wv32 →
    (∃ (Mid11 : List Value → List Nat → World → Prop),
    (((((decide (fromv6 < 0)) && x010) && x011) = true →
    (∀ wr40, ExtX [b, b1, b20, b23, b24, b25] wv32 wr40 → (∀ bq ∈ ([b, b1, b20, b23, b24, b25] : List Nat), bq < wr40.heap.size) → Mid11 [.int .i64 i2, .int .i64 l36, .int .i64 l37, .int .i64 l38, .slice l39O l39L l39C] [] wr40)) ∧
    ((((decide (fromv6 < 0)) && x010) && x011) = false →
    (∀ wr41, ExtX [b, b1, b20, b23, b24, b25] wv32 wr41 → (∀ bq ∈ ([b, b1, b20, b23, b24, b25] : List Nat), bq < wr41.heap.size) → Mid11 [.int .i64 fromv6, .int .i64 l28, .int .i64 l29, .int .i64 l30, .slice l31O l31L l31C] [] wr41))) ∧
    (∀ (fromv7 : Int) (l40 : Int) (l41 : Int) (l42 : Int) (l43O : Option Addr) (l43L : Nat) (l43C : Nat) (wv33 : World), (∀ bq ∈ ([b, b1, b20, b23, b24, b25] : List Nat), bq < wv33.heap.size) → Mid11 [.int .i64 fromv7, .int .i64 l40, .int .i64 l41, .int .i64 l42, .slice l43O l43L l43C] [] wv33 →
    (∃ (Mid12 : List Value → List Nat → World → Prop),
    (((decide (fromv7 ≥ 0)) = true →
    Ix l35O l35L (Int.tmod stByte ((xGoodQu3L : Nat) : Int)) ∧
    (∃ (sum4 : Int),
    CellsX [b, b1, b20, b23, b24, b25] wv33 l35O (Int.toNat (Int.tmod stByte ((xGoodQu3L : Nat) : Int)) * 4 + 3) [.int .i64 sum4] ∧
    Ix l43O l43L (Int.tmod stByte ((xGoodQu3L : Nat) : Int)) ∧
    (∃ (sum5 : Int),
    CellsX [b, b1, b20, b23, b24, b25] wv33 l43O (Int.toNat (Int.tmod stByte ((xGoodQu3L : Nat) : Int)) * 4 + 3) [.int .i64 sum5] ∧
    InR .i64 (sum4 - sum5) ∧
    InR .i64 ((sum4 - sum5) * x211) ∧
    Ix l35O l35L (Int.tmod stByte1 ((xGoodQu3L : Nat) : Int)) ∧
    (∃ (sum6 : Int),
    CellsX [b, b1, b20, b23, b24, b25] wv33 l35O (Int.toNat (Int.tmod stByte1 ((xGoodQu3L : Nat) : Int)) * 4 + 3) [.int .i64 sum6] ∧
    Ix l43O l43L (Int.tmod stByte1 ((xGoodQu3L : Nat) : Int)) ∧
    (∃ (sum7 : Int),
    CellsX [b, b1, b20, b23, b24, b25] wv33 l43O (Int.toNat (Int.tmod stByte1 ((xGoodQu3L : Nat) : Int)) * 4 + 3) [.int .i64 sum7] ∧
    InR .i64 (sum6 - sum7) ∧
    InR .i64 ((sum6 - sum7) * x210) ∧
    InR .i64 (((sum4 - sum5) * x211) - ((sum6 - sum7) * x210)) ∧
    (∃ (xQueueA2 : Int),
    PureX [b, b1, b20, b23, b24, b25] Try.prog fn_impl_QueueApart #[.int .i64 x210, .int .i64 x211] wv33 (.int .i64 xQueueA2) ∧
    ((decide (((sum4 - sum5) * x211) - ((sum6 - sum7) * x210) > xQueueA2)) = false → InR .i64 (0 - (((sum4 - sum5) * x211) - ((sum6 - sum7) * x210)))) ∧
    (∃ (xQueueA3 : Int),
    ((decide (((sum4 - sum5) * x211) - ((sum6 - sum7) * x210) > xQueueA2)) = false → PureX [b, b1, b20, b23, b24, b25] Try.prog fn_impl_QueueApart #[.int .i64 x210, .int .i64 x211] wv33 (.int .i64 xQueueA3)) ∧
    (((decide (((sum4 - sum5) * x211) - ((sum6 - sum7) * x210) > xQueueA2)) || (decide (0 - (((sum4 - sum5) * x211) - ((sum6 - sum7) * x210)) > xQueueA3))) = true →
    (∀ wr42, ExtX [b, b1, b20, b23, b24, b25] wv33 wr42 → R (.bool false) wr42)) ∧
    (((decide (((sum4 - sum5) * x211) - ((sum6 - sum7) * x210) > xQueueA2)) || (decide (0 - (((sum4 - sum5) * x211) - ((sum6 - sum7) * x210)) > xQueueA3))) = false →
    (∀ wr43, ExtX [b, b1, b20, b23, b24, b25] wv33 wr43 → (∀ bq ∈ ([b, b1, b20, b23, b24, b25] : List Nat), bq < wr43.heap.size) → Mid12 [] [] wr43))))))))) ∧
    ((decide (fromv7 ≥ 0)) = false →
    (∀ wr44, ExtX [b, b1, b20, b23, b24, b25] wv33 wr44 → (∀ bq ∈ ([b, b1, b20, b23, b24, b25] : List Nat), bq < wr44.heap.size) → Mid12 [] [] wr44))) ∧
    (∀ (wv34 : World), (∀ bq ∈ ([b, b1, b20, b23, b24, b25] : List Nat), bq < wv34.heap.size) → Mid12 [] [] wv34 →
    InR .i64 (i2 + 1) ∧
    (∀ wr45, ExtX [b, b1, b20, b23, b24, b25] wv34 wr45 → (∀ bq ∈ ([b, b1, b20, b23, b24, b25] : List Nat), bq < wr45.heap.size) → xInv2 [.int .i64 fromv7, .int .i64 (i2 + 1), .int .i64 l36, .int .i64 l37, .int .i64 l38, .slice l39O l39L l39C, .int .i64 l40, .int .i64 l41, .int .i64 l42, .slice l43O l43L l43C] wr45 ∧ mu2 [.int .i64 fromv7, .int .i64 (i2 + 1), .int .i64 l36, .int .i64 l37, .int .i64 l38, .slice l39O l39L l39C, .int .i64 l40, .int .i64 l41, .int .i64 l42, .slice l43O l43L l43C] wr45 < mu2 [.int .i64 fromv5, .int .i64 i2, .int .i64 l24, .int .i64 l25, .int .i64 l26, .slice l27O l27L l27C, .int .i64 l28, .int .i64 l29, .int .i64 l30, .slice l31O l31L l31C] wv23))))))))))))))))))) ∧
    ((decide (i2 < ((xGoodQu4L : Nat) : Int))) = false →
    (∀ wr46, ExtX [b, b1] wv23 wr46 → R (.bool true) wr46))))))))))
theorem v_laws_FnQueueTop (codeO : Option Addr) (codeL : Nat) (codeC : Nat) (moreO : Option Addr) (moreL : Nat) (moreC : Nat) (w : World) (R : Value → World → Prop) : evFn c_laws_FnQueueTop s_laws_FnQueueTop [.slice codeO codeL codeC, .slice moreO moreL moreC] (bodyOf Try.f4) Try.f4.results.toList w R = V_laws_FnQueueTop codeO codeL codeC moreO moreL moreC w R := by kernel_rfl
theorem e_laws_FnQueueTop (codeO : Option Addr) (codeL : Nat) (codeC : Nat) (moreO : Option Addr) (moreL : Nat) (moreC : Nat) {w : World} {R : Value → World → Prop} (hvc : V_laws_FnQueueTop codeO codeL codeC moreO moreL moreC w R) : Calls Try.prog fn_laws_FnQueueTop #[.slice codeO codeL codeC, .slice moreO moreL moreC] w fun e0 wr0 => ∃ v0, e0 = .returned v0 ∧ R v0 wr0 :=
  eff_of_ev (C := c_laws_FnQueueTop) (sps := s_laws_FnQueueTop) (body := bodyOf Try.f4) (env _ _ _) Try.func4 rfl rfl (of_decide_eq_true (by kernel_rfl)) (of_decide_eq_true (by kernel_rfl)) rfl (by rw [v_laws_FnQueueTop]; exact hvc)
noncomputable def c_laws_szEntryS : Cfg := { P := Try.prog, T := tblGet tbl, pf := pfT, ef := efT, tt := ttT, vis := [], n := 12, pm := true }
noncomputable def s_laws_szEntryS : List (Nat × LSpec) := []
def V_laws_szEntryS (aO : Option Addr) (aL : Nat) (aC : Nat) (leftv : Int) (w : World) (R : Value → World → Prop) : Prop :=
    InR .i64 (leftv - ((aL : Nat) : Int)) ∧
    ((decide (leftv - ((aL : Nat) : Int) < 0)) = true →
    R (.int .i64 (-1)) w) ∧
    ((decide (leftv - ((aL : Nat) : Int) < 0)) = false →
    R (.int .i64 (leftv - ((aL : Nat) : Int))) w)
theorem v_laws_szEntryS (aO : Option Addr) (aL : Nat) (aC : Nat) (leftv : Int) (w : World) (R : Value → World → Prop) : evFn c_laws_szEntryS s_laws_szEntryS [.slice aO aL aC, .int .i64 leftv] (bodyOf Try.f69) Try.f69.results.toList w R = V_laws_szEntryS aO aL aC leftv w R := by kernel_rfl
theorem p_laws_szEntryS (aO : Option Addr) (aL : Nat) (aC : Nat) (leftv : Int) {w : World} {bs : List Nat} {ret : Value} (hvc : ∀ wr0, ExtX bs w wr0 → V_laws_szEntryS aO aL aC leftv wr0 fun v0 _ => v0 = ret) : PureX bs Try.prog fn_laws_szEntryS #[.slice aO aL aC, .int .i64 leftv] w ret :=
  pure_of_ev (C := c_laws_szEntryS) (sps := s_laws_szEntryS) (body := bodyOf Try.f69) (env _ _ _) Try.func69 rfl rfl (of_decide_eq_true (by kernel_rfl)) (of_decide_eq_true (by kernel_rfl)) rfl fun wr0 hx0 => by rw [v_laws_szEntryS]; exact hvc wr0 hx0
noncomputable def c_laws_szQueue : Cfg := { P := Try.prog, T := tblGet tbl, pf := pfT, ef := efT, tt := ttT, vis := [], n := 12, pm := true }
noncomputable def s_laws_szQueue : List (Nat × LSpec) := []
def V_laws_szQueue (a0 : Int) (a1 : Int) (a2 : Int) (a3O : Option Addr) (a3L : Nat) (a3C : Nat) (leftv : Int) (w : World) (R : Value → World → Prop) : Prop :=
    (∀ b, w.heap.size ≤ b →
    (∃ (szEntr : Int),
    PureX [] Try.prog fn_laws_szEntryS #[.slice a3O a3L a3C, .int .i64 leftv] w (.int .i64 szEntr) ∧
    ((decide (szEntr < 0)) = true →
    R (.int .i64 (-1)) w) ∧
    ((decide (szEntr < 0)) = false →
    R (.int .i64 szEntr) w)))
theorem v_laws_szQueue (a0 : Int) (a1 : Int) (a2 : Int) (a3O : Option Addr) (a3L : Nat) (a3C : Nat) (leftv : Int) (w : World) (R : Value → World → Prop) : evFn c_laws_szQueue s_laws_szQueue [.agg #[.int .i64 a0, .int .i64 a1, .int .i64 a2, .slice a3O a3L a3C], .int .i64 leftv] (bodyOf Try.f21) Try.f21.results.toList w R = V_laws_szQueue a0 a1 a2 a3O a3L a3C leftv w R := by kernel_rfl
theorem p_laws_szQueue (a0 : Int) (a1 : Int) (a2 : Int) (a3O : Option Addr) (a3L : Nat) (a3C : Nat) (leftv : Int) {w : World} {bs : List Nat} {ret : Value} (hvc : ∀ wr0, ExtX bs w wr0 → V_laws_szQueue a0 a1 a2 a3O a3L a3C leftv wr0 fun v0 _ => v0 = ret) : PureX bs Try.prog fn_laws_szQueue #[.agg #[.int .i64 a0, .int .i64 a1, .int .i64 a2, .slice a3O a3L a3C], .int .i64 leftv] w ret :=
  pure_of_ev (C := c_laws_szQueue) (sps := s_laws_szQueue) (body := bodyOf Try.f21) (env _ _ _) Try.func21 rfl rfl (of_decide_eq_true (by kernel_rfl)) (of_decide_eq_true (by kernel_rfl)) rfl fun wr0 hx0 => by rw [v_laws_szQueue]; exact hvc wr0 hx0
noncomputable def c_laws_toEntry : Cfg := { P := Try.prog, T := tblGet tbl, pf := pfT, ef := efT, tt := ttT, vis := [], n := 17, pm := true }
noncomputable def s_laws_toEntry : List (Nat × LSpec) := []
def V_laws_toEntry (a0 : Bool) (a1 : Int) (a2 : Int) (a3 : Int) (w : World) (R : Value → World → Prop) : Prop :=
    (∀ b, w.heap.size ≤ b →
    (∀ b1, w.heap.size ≤ b1 →
    (∀ b2, w.heap.size ≤ b2 →
    R (.agg #[.bool a0, .int .i64 a1, .int .i64 a2, .int .i64 a3]) w)))
theorem v_laws_toEntry (a0 : Bool) (a1 : Int) (a2 : Int) (a3 : Int) (w : World) (R : Value → World → Prop) : evFn c_laws_toEntry s_laws_toEntry [.agg #[.bool a0, .int .i64 a1, .int .i64 a2, .int .i64 a3]] (bodyOf Try.f105) Try.f105.results.toList w R = V_laws_toEntry a0 a1 a2 a3 w R := by kernel_rfl
theorem p_laws_toEntry (a0 : Bool) (a1 : Int) (a2 : Int) (a3 : Int) {w : World} {bs : List Nat} {ret : Value} (hvc : ∀ wr0, ExtX bs w wr0 → V_laws_toEntry a0 a1 a2 a3 wr0 fun v0 _ => v0 = ret) : PureX bs Try.prog fn_laws_toEntry #[.agg #[.bool a0, .int .i64 a1, .int .i64 a2, .int .i64 a3]] w ret :=
  pure_of_ev (C := c_laws_toEntry) (sps := s_laws_toEntry) (body := bodyOf Try.f105) (env _ _ _) Try.func105 rfl rfl (of_decide_eq_true (by kernel_rfl)) (of_decide_eq_true (by kernel_rfl)) rfl fun wr0 hx0 => by rw [v_laws_toEntry]; exact hvc wr0 hx0
noncomputable def c_laws_toEntryS : Cfg := { P := Try.prog, T := tblGet tbl, pf := pfT, ef := efT, tt := ttT, vis := [], n := 23, pm := false }
noncomputable def s_laws_toEntryS : List (Nat × LSpec) := [(3, { chg := [(4, .int .i64)], chgL := [], keep := [0, 3] })]
def V_laws_toEntryS (aO : Option Addr) (aL : Nat) (aC : Nat) (w : World) (R : Value → World → Prop) : Prop :=
    (∀ wr, ExtX [] w wr → (∀ bq ∈ ([] : List Nat), bq < wr.heap.size) →
    (∃ (mkO : Option Addr) (mkL : Nat) (mkC : Nat),
    ∃ wv, ((Instr.makeSlice ty_sl_impl_Entry (.int .i64 ((aL : Nat) : Int)) (.int .i64 ((aL : Nat) : Int))) : Sem Value).run Try.prog wr = .ok (.slice mkO mkL mkC) wv ∧ Kept [] wr wv ∧
    (∃ (xInv : List Value → World → Prop) (mu : List Value → World → Nat), (∀ wr1, ExtX [] wv wr1 → (∀ bq ∈ ([] : List Nat), bq < wr1.heap.size) → xInv [.int .i64 0] wr1) ∧
    ∀ (i : Int) wv1, (∀ bq ∈ ([] : List Nat), bq < wv1.heap.size) → xInv [.int .i64 i] wv1 →
    ((decide (i < ((aL : Nat) : Int))) = true →
    Ix aO aL i ∧
    (∃ (x0 : Bool) (x1 : Int) (x2 : Int) (x3 : Int),
    CellsX [] wv1 aO (Int.toNat i * 4) [.bool x0, .int .i64 x1, .int .i64 x2, .int .i64 x3] ∧
    (∃ (toEntr : Bool) (toEntr1 : Int) (toEntr2 : Int) (toEntr3 : Int),
    PureX [] Try.prog fn_laws_toEntry #[.agg #[.bool x0, .int .i64 x1, .int .i64 x2, .int .i64 x3]] wv1 (.agg #[.bool toEntr, .int .i64 toEntr1, .int .i64 toEntr2, .int .i64 toEntr3]) ∧
    Ix mkO mkL i ∧
    WrX [] wv1 mkO (Int.toNat i * 4) 4 ∧
    InR .i64 (i + 1) ∧
    (∀ wr2, ExtX [] (sto wv1 mkO (Int.toNat i * 4) [.bool toEntr, .int .i64 toEntr1, .int .i64 toEntr2, .int .i64 toEntr3]) wr2 → (∀ bq ∈ ([] : List Nat), bq < wr2.heap.size) → xInv [.int .i64 (i + 1)] wr2 ∧ mu [.int .i64 (i + 1)] wr2 < mu [.int .i64 i] wv1)))) ∧
    ((decide (i < ((aL : Nat) : Int))) = false →
    (∀ wr3, ExtX [] wv1 wr3 → R (.slice mkO mkL mkC) wr3)))))
theorem v_laws_toEntryS (aO : Option Addr) (aL : Nat) (aC : Nat) (w : World) (R : Value → World → Prop) : evFn c_laws_toEntryS s_laws_toEntryS [.slice aO aL aC] (bodyOf Try.f70) Try.f70.results.toList w R = V_laws_toEntryS aO aL aC w R := by kernel_rfl
theorem e_laws_toEntryS (aO : Option Addr) (aL : Nat) (aC : Nat) {w : World} {R : Value → World → Prop} (hvc : V_laws_toEntryS aO aL aC w R) : Calls Try.prog fn_laws_toEntryS #[.slice aO aL aC] w fun e0 wr0 => ∃ v0, e0 = .returned v0 ∧ R v0 wr0 :=
  eff_of_ev (C := c_laws_toEntryS) (sps := s_laws_toEntryS) (body := bodyOf Try.f70) (env _ _ _) Try.func70 rfl rfl (of_decide_eq_true (by kernel_rfl)) (of_decide_eq_true (by kernel_rfl)) rfl (by rw [v_laws_toEntryS]; exact hvc)
noncomputable def c_laws_toQueue : Cfg := { P := Try.prog, T := tblGet tbl, pf := pfT, ef := efT, tt := ttT, vis := [], n := 18, pm := false }
noncomputable def s_laws_toQueue : List (Nat × LSpec) := []
def V_laws_toQueue (a0 : Int) (a1 : Int) (a2 : Int) (a3O : Option Addr) (a3L : Nat) (a3C : Nat) (w : World) (R : Value → World → Prop) : Prop :=
    (∀ b, w.heap.size ≤ b →
    (∀ b1, w.heap.size ≤ b1 →
    (∀ b2, w.heap.size ≤ b2 →
    (∀ wr, ExtX [] w wr → (∀ bq ∈ ([b, b1, b2] : List Nat), bq < wr.heap.size) → 
    Calls Try.prog fn_laws_toEntryS #[.slice a3O a3L a3C] wr fun e wv =>
    (∃ (toEntrO : Option Addr) (toEntrL : Nat) (toEntrC : Nat),
    e = .returned (.slice toEntrO toEntrL toEntrC) ∧ Kept [b, b1, b2] wr wv ∧
    (∀ wr1, ExtX [b, b1, b2] wv wr1 → R (.agg #[.int .i64 a0, .int .i64 a1, .int .i64 a2, .slice toEntrO toEntrL toEntrC]) wr1))))))
theorem v_laws_toQueue (a0 : Int) (a1 : Int) (a2 : Int) (a3O : Option Addr) (a3L : Nat) (a3C : Nat) (w : World) (R : Value → World → Prop) : evFn c_laws_toQueue s_laws_toQueue [.agg #[.int .i64 a0, .int .i64 a1, .int .i64 a2, .slice a3O a3L a3C]] (bodyOf Try.f22) Try.f22.results.toList w R = V_laws_toQueue a0 a1 a2 a3O a3L a3C w R := by kernel_rfl
theorem e_laws_toQueue (a0 : Int) (a1 : Int) (a2 : Int) (a3O : Option Addr) (a3L : Nat) (a3C : Nat) {w : World} {R : Value → World → Prop} (hvc : V_laws_toQueue a0 a1 a2 a3O a3L a3C w R) : Calls Try.prog fn_laws_toQueue #[.agg #[.int .i64 a0, .int .i64 a1, .int .i64 a2, .slice a3O a3L a3C]] w fun e0 wr0 => ∃ v0, e0 = .returned v0 ∧ R v0 wr0 :=
  eff_of_ev (C := c_laws_toQueue) (sps := s_laws_toQueue) (body := bodyOf Try.f22) (env _ _ _) Try.func22 rfl rfl (of_decide_eq_true (by kernel_rfl)) (of_decide_eq_true (by kernel_rfl)) rfl (by rw [v_laws_toQueue]; exact hvc)
noncomputable def c_laws_toQueueOp : Cfg := { P := Try.prog, T := tblGet tbl, pf := pfT, ef := efT, tt := ttT, vis := [], n := 14, pm := true }
noncomputable def s_laws_toQueueOp : List (Nat × LSpec) := []
def V_laws_toQueueOp (a0 : Int) (a1 : Int) (a2 : Int) (w : World) (R : Value → World → Prop) : Prop :=
    (∀ b, w.heap.size ≤ b →
    (∀ b1, w.heap.size ≤ b1 →
    (∀ b2, w.heap.size ≤ b2 →
    R (.agg #[.int .i64 a0, .int .i64 a1, .int .i64 a2]) w)))
theorem v_laws_toQueueOp (a0 : Int) (a1 : Int) (a2 : Int) (w : World) (R : Value → World → Prop) : evFn c_laws_toQueueOp s_laws_toQueueOp [.agg #[.int .i64 a0, .int .i64 a1, .int .i64 a2]] (bodyOf Try.f23) Try.f23.results.toList w R = V_laws_toQueueOp a0 a1 a2 w R := by kernel_rfl
theorem p_laws_toQueueOp (a0 : Int) (a1 : Int) (a2 : Int) {w : World} {bs : List Nat} {ret : Value} (hvc : ∀ wr0, ExtX bs w wr0 → V_laws_toQueueOp a0 a1 a2 wr0 fun v0 _ => v0 = ret) : PureX bs Try.prog fn_laws_toQueueOp #[.agg #[.int .i64 a0, .int .i64 a1, .int .i64 a2]] w ret :=
  pure_of_ev (C := c_laws_toQueueOp) (sps := s_laws_toQueueOp) (body := bodyOf Try.f23) (env _ _ _) Try.func23 rfl rfl (of_decide_eq_true (by kernel_rfl)) (of_decide_eq_true (by kernel_rfl)) rfl fun wr0 hx0 => by rw [v_laws_toQueueOp]; exact hvc wr0 hx0
noncomputable def c_laws_eqEntry : Cfg := { P := Try.prog, T := tblGet tbl, pf := pfT, ef := efT, tt := ttT, vis := [], n := 25, pm := true }
noncomputable def s_laws_eqEntry : List (Nat × LSpec) := []
def V_laws_eqEntry (a0 : Bool) (a1 : Int) (a2 : Int) (a3 : Int) (b0 : Bool) (b1 : Int) (b2 : Int) (b3 : Int) (w : World) (R : Value → World → Prop) : Prop :=
    (∀ b, w.heap.size ≤ b →
    (∀ b4, w.heap.size ≤ b4 →
    ((!(a0 == b0)) = true →
    R (.bool false) w) ∧
    ((!(a0 == b0)) = false →
    ((a1 != b1) = true →
    R (.bool false) w) ∧
    ((a1 != b1) = false →
    ((a2 != b2) = true →
    R (.bool false) w) ∧
    ((a2 != b2) = false →
    ((a3 != b3) = true →
    R (.bool false) w) ∧
    ((a3 != b3) = false →
    R (.bool true) w))))))
theorem v_laws_eqEntry (a0 : Bool) (a1 : Int) (a2 : Int) (a3 : Int) (b0 : Bool) (b1 : Int) (b2 : Int) (b3 : Int) (w : World) (R : Value → World → Prop) : evFn c_laws_eqEntry s_laws_eqEntry [.agg #[.bool a0, .int .i64 a1, .int .i64 a2, .int .i64 a3], .agg #[.bool b0, .int .i64 b1, .int .i64 b2, .int .i64 b3]] (bodyOf Try.f106) Try.f106.results.toList w R = V_laws_eqEntry a0 a1 a2 a3 b0 b1 b2 b3 w R := by kernel_rfl
theorem p_laws_eqEntry (a0 : Bool) (a1 : Int) (a2 : Int) (a3 : Int) (b0 : Bool) (b1 : Int) (b2 : Int) (b3 : Int) {w : World} {bs : List Nat} {ret : Value} (hvc : ∀ wr0, ExtX bs w wr0 → V_laws_eqEntry a0 a1 a2 a3 b0 b1 b2 b3 wr0 fun v0 _ => v0 = ret) : PureX bs Try.prog fn_laws_eqEntry #[.agg #[.bool a0, .int .i64 a1, .int .i64 a2, .int .i64 a3], .agg #[.bool b0, .int .i64 b1, .int .i64 b2, .int .i64 b3]] w ret :=
  pure_of_ev (C := c_laws_eqEntry) (sps := s_laws_eqEntry) (body := bodyOf Try.f106) (env _ _ _) Try.func106 rfl rfl (of_decide_eq_true (by kernel_rfl)) (of_decide_eq_true (by kernel_rfl)) rfl fun wr0 hx0 => by rw [v_laws_eqEntry]; exact hvc wr0 hx0
end Go.Proofs.Ythihcdljmddgfaa
