/- Printed by wip/tools/vc.py: what a function's text asks for. -/
import Derived.Test.YthihcdljmddgfaaTab
namespace Go.Proofs.Ythihcdljmddgfaa
open Go.RowKit
set_option maxRecDepth 100000
noncomputable def c_impl_QueuePlay : Cfg := { P := Try.prog, T := tblGet tbl, pf := pfT, ef := efT, tt := ttT, vis := [], n := 43, pm := false }
noncomputable def s_impl_QueuePlay : List (Nat × LSpec) := [(5, { chg := [(7, .int .i64), (25, .int .i64)], chgL := [(2, [.int .i64, .int .i64, .int .i64, .slice])], keep := [4, 6, 23, 24] })]
def V_impl_QueuePlay (q0 : Int) (q1 : Int) (q2 : Int) (q3O : Option Addr) (q3L : Nat) (q3C : Nat) (opsO : Option Addr) (opsL : Nat) (opsC : Nat) (w : World) (R : Value → World → Prop) : Prop :=
    (∀ b, w.heap.size ≤ b →
    (∀ b1, w.heap.size ≤ b1 →
    (∃ (xQueueO : Bool),
    PureX [] Try.prog fn_impl_QueueOk #[.agg #[.int .i64 q0, .int .i64 q1, .int .i64 q2, .slice q3O q3L q3C]] w (.bool xQueueO) ∧
    (((!xQueueO) || (decide (((opsL : Nat) : Int) > 2000))) = true →
    (∀ wr, ExtX [] w wr → R (.tuple #[.agg #[.int .i64 0, .int .i64 0, .int .i64 0, .slice none 0 0], .int .i64 0]) wr)) ∧
    (((!xQueueO) || (decide (((opsL : Nat) : Int) > 2000))) = false →
    (∀ wr1, ExtX [] w wr1 → (∀ bq ∈ ([b, b1] : List Nat), bq < wr1.heap.size) → 
    Calls Try.prog fn_impl_queueCopy #[.agg #[.int .i64 q0, .int .i64 q1, .int .i64 q2, .slice q3O q3L q3C]] wr1 fun e wv =>
    (∃ (queueC : Int) (queueC1 : Int) (queueC2 : Int) (queueC3O : Option Addr) (queueC3L : Nat) (queueC3C : Nat),
    e = .returned (.agg #[.int .i64 queueC, .int .i64 queueC1, .int .i64 queueC2, .slice queueC3O queueC3L queueC3C]) ∧ Kept [b, b1] wr1 wv ∧
    (∀ b2, wv.heap.size ≤ b2 →
    (∃ (xInv1 : List Value → World → Prop) (mu1 : List Value → World → Nat), (∀ wr4, ExtX [b, b1] wv wr4 → (∀ bq ∈ ([b, b1, b2] : List Nat), bq < wr4.heap.size) → xInv1 [.int .i64 0, .int .i64 0, .int .i64 queueC, .int .i64 queueC1, .int .i64 queueC2, .slice queueC3O queueC3L queueC3C] wr4) ∧
    ∀ (refused1 : Int) (x3 : Int) (l : Int) (l1 : Int) (l2 : Int) (l3O : Option Addr) (l3L : Nat) (l3C : Nat) wv3, (∀ bq ∈ ([b, b1, b2] : List Nat), bq < wv3.heap.size) → xInv1 [.int .i64 refused1, .int .i64 x3, .int .i64 l, .int .i64 l1, .int .i64 l2, .slice l3O l3L l3C] wv3 →
    ((decide (x3 < ((opsL : Nat) : Int))) = true →
    Ix opsO opsL x3 ∧
    (∃ (x01 : Int) (x11 : Int) (x21 : Int),
    CellsX [b, b1, b2] wv3 opsO (Int.toNat x3 * 3) [.int .i64 x01, .int .i64 x11, .int .i64 x21] ∧
    (∀ b5, wv3.heap.size ≤ b5 →
    (∀ wr5, ExtX [b, b1, b2] wv3 wr5 → (∀ bq ∈ ([b, b1, b2, b5] : List Nat), bq < wr5.heap.size) → 
    Calls Try.prog fn_impl_QueueDo #[.agg #[.int .i64 l, .int .i64 l1, .int .i64 l2, .slice l3O l3L l3C], .agg #[.int .i64 x01, .int .i64 x11, .int .i64 x21]] wr5 fun e2 wv4 =>
    (∃ (xQueueD5 : Int) (xQueueD6 : Int) (xQueueD7 : Int) (xQueueD8O : Option Addr) (xQueueD8L : Nat) (xQueueD8C : Nat) (xQueueD9 : Bool),
    e2 = .returned (.tuple #[.agg #[.int .i64 xQueueD5, .int .i64 xQueueD6, .int .i64 xQueueD7, .slice xQueueD8O xQueueD8L xQueueD8C], .bool xQueueD9]) ∧ Kept [b, b1, b2, b5] wr5 wv4 ∧
    (∀ b6, wv4.heap.size ≤ b6 →
    ((!xQueueD9) = true →
    InR .i64 (refused1 + 1) ∧
    InR .i64 (x3 + 1) ∧
    (∀ wr6, ExtX [b, b1, b2, b5] wv4 wr6 → (∀ bq ∈ ([b, b1, b2, b5, b6] : List Nat), bq < wr6.heap.size) → xInv1 [.int .i64 (refused1 + 1), .int .i64 (x3 + 1), .int .i64 xQueueD5, .int .i64 xQueueD6, .int .i64 xQueueD7, .slice xQueueD8O xQueueD8L xQueueD8C] wr6 ∧ mu1 [.int .i64 (refused1 + 1), .int .i64 (x3 + 1), .int .i64 xQueueD5, .int .i64 xQueueD6, .int .i64 xQueueD7, .slice xQueueD8O xQueueD8L xQueueD8C] wr6 < mu1 [.int .i64 refused1, .int .i64 x3, .int .i64 l, .int .i64 l1, .int .i64 l2, .slice l3O l3L l3C] wv3)) ∧
    ((!xQueueD9) = false →
    InR .i64 (x3 + 1) ∧
    (∀ wr7, ExtX [b, b1, b2, b5] wv4 wr7 → (∀ bq ∈ ([b, b1, b2, b5, b6] : List Nat), bq < wr7.heap.size) → xInv1 [.int .i64 refused1, .int .i64 (x3 + 1), .int .i64 xQueueD5, .int .i64 xQueueD6, .int .i64 xQueueD7, .slice xQueueD8O xQueueD8L xQueueD8C] wr7 ∧ mu1 [.int .i64 refused1, .int .i64 (x3 + 1), .int .i64 xQueueD5, .int .i64 xQueueD6, .int .i64 xQueueD7, .slice xQueueD8O xQueueD8L xQueueD8C] wr7 < mu1 [.int .i64 refused1, .int .i64 x3, .int .i64 l, .int .i64 l1, .int .i64 l2, .slice l3O l3L l3C] wv3)))))))) ∧
    ((decide (x3 < ((opsL : Nat) : Int))) = false →
    (∀ wr8, ExtX [b, b1, b2] wv3 wr8 → R (.tuple #[.agg #[.int .i64 l, .int .i64 l1, .int .i64 l2, .slice l3O l3L l3C], .int .i64 refused1]) wr8))))))))))
theorem v_impl_QueuePlay (q0 : Int) (q1 : Int) (q2 : Int) (q3O : Option Addr) (q3L : Nat) (q3C : Nat) (opsO : Option Addr) (opsL : Nat) (opsC : Nat) (w : World) (R : Value → World → Prop) : evFn c_impl_QueuePlay s_impl_QueuePlay [.agg #[.int .i64 q0, .int .i64 q1, .int .i64 q2, .slice q3O q3L q3C], .slice opsO opsL opsC] (bodyOf Try.f30) Try.f30.results.toList w R = V_impl_QueuePlay q0 q1 q2 q3O q3L q3C opsO opsL opsC w R := by kernel_rfl
theorem e_impl_QueuePlay (q0 : Int) (q1 : Int) (q2 : Int) (q3O : Option Addr) (q3L : Nat) (q3C : Nat) (opsO : Option Addr) (opsL : Nat) (opsC : Nat) {w : World} {R : Value → World → Prop} (hvc : V_impl_QueuePlay q0 q1 q2 q3O q3L q3C opsO opsL opsC w R) : Calls Try.prog fn_impl_QueuePlay #[.agg #[.int .i64 q0, .int .i64 q1, .int .i64 q2, .slice q3O q3L q3C], .slice opsO opsL opsC] w fun e0 wr0 => ∃ v0, e0 = .returned v0 ∧ R v0 wr0 :=
  eff_of_ev (C := c_impl_QueuePlay) (sps := s_impl_QueuePlay) (body := bodyOf Try.f30) (env _ _ _) Try.func30 rfl rfl (of_decide_eq_true (by kernel_rfl)) (of_decide_eq_true (by kernel_rfl)) rfl ((v_impl_QueuePlay q0 q1 q2 q3O q3L q3C opsO opsL opsC w _).mpr hvc)
noncomputable def c_spec_QueuePlay : Cfg := { P := Try.prog, T := tblGet tbl, pf := pfT, ef := efT, tt := ttT, vis := [], n := 43, pm := false }
noncomputable def s_spec_QueuePlay : List (Nat × LSpec) := [(6, { chg := [(6, .int .i64), (7, .int .i64)], chgL := [(0, [.int .i64, .int .i64, .int .i64, .slice])], keep := [1, 2, 4] })]
def V_spec_QueuePlay (q0 : Int) (q1 : Int) (q2 : Int) (q3O : Option Addr) (q3L : Nat) (q3C : Nat) (opsO : Option Addr) (opsL : Nat) (opsC : Nat) (w : World) (R : Value → World → Prop) : Prop :=
    (∀ b, w.heap.size ≤ b →
    (∀ b1, w.heap.size ≤ b1 →
    (∃ (xQueueO : Bool),
    PureX [] Try.prog fn_spec_QueueOk #[.agg #[.int .i64 q0, .int .i64 q1, .int .i64 q2, .slice q3O q3L q3C]] w (.bool xQueueO) ∧
    (((!xQueueO) || (decide (((opsL : Nat) : Int) > 2000))) = true →
    (∀ wr, ExtX [] w wr → R (.tuple #[.agg #[.int .i64 0, .int .i64 0, .int .i64 0, .slice none 0 0], .int .i64 0]) wr)) ∧
    (((!xQueueO) || (decide (((opsL : Nat) : Int) > 2000))) = false →
    (∀ wr1, ExtX [] w wr1 → (∀ bq ∈ ([b, b1] : List Nat), bq < wr1.heap.size) → 
    Calls Try.prog fn_spec_l4Own #[.agg #[.int .i64 q0, .int .i64 q1, .int .i64 q2, .slice q3O q3L q3C]] wr1 fun e wv =>
    (∃ (l4Own : Int) (l4Own1 : Int) (l4Own2 : Int) (l4Own3O : Option Addr) (l4Own3L : Nat) (l4Own3C : Nat),
    e = .returned (.agg #[.int .i64 l4Own, .int .i64 l4Own1, .int .i64 l4Own2, .slice l4Own3O l4Own3L l4Own3C]) ∧ Kept [b, b1] wr1 wv ∧
    (∃ (xInv1 : List Value → World → Prop) (mu1 : List Value → World → Nat), (∀ wr4, ExtX [b, b1] wv wr4 → (∀ bq ∈ ([b, b1] : List Nat), bq < wr4.heap.size) → xInv1 [.int .i64 0, .int .i64 0, .int .i64 l4Own, .int .i64 l4Own1, .int .i64 l4Own2, .slice l4Own3O l4Own3L l4Own3C] wr4) ∧
    ∀ (refused1 : Int) (i1 : Int) (l : Int) (l1 : Int) (l2 : Int) (l3O : Option Addr) (l3L : Nat) (l3C : Nat) wv3, (∀ bq ∈ ([b, b1] : List Nat), bq < wv3.heap.size) → xInv1 [.int .i64 refused1, .int .i64 i1, .int .i64 l, .int .i64 l1, .int .i64 l2, .slice l3O l3L l3C] wv3 →
    ((decide (i1 < ((opsL : Nat) : Int))) = true →
    Ix opsO opsL i1 ∧
    (∃ (x01 : Int) (x11 : Int) (x21 : Int),
    CellsX [b, b1] wv3 opsO (Int.toNat i1 * 3) [.int .i64 x01, .int .i64 x11, .int .i64 x21] ∧
    ((∀ wr5, ExtX [b, b1] wv3 wr5 → (∀ bq ∈ ([b, b1] : List Nat), bq < wr5.heap.size) → 
    Calls Try.prog fn_spec_QueueDo #[.agg #[.int .i64 l, .int .i64 l1, .int .i64 l2, .slice l3O l3L l3C], .agg #[.int .i64 x01, .int .i64 x11, .int .i64 x21]] wr5 fun e2 wv4 =>
    (∃ (xQueueD5 : Int) (xQueueD6 : Int) (xQueueD7 : Int) (xQueueD8O : Option Addr) (xQueueD8L : Nat) (xQueueD8C : Nat) (xQueueD9 : Bool),
    e2 = .returned (.tuple #[.agg #[.int .i64 xQueueD5, .int .i64 xQueueD6, .int .i64 xQueueD7, .slice xQueueD8O xQueueD8L xQueueD8C], .bool xQueueD9]) ∧ Kept [b, b1] wr5 wv4 ∧
    (∀ b3, wv4.heap.size ≤ b3 →
    CellsX [b, b1] wv4 opsO (Int.toNat i1 * 3) [.int .i64 x01, .int .i64 x11, .int .i64 x21] ∧
    (some (ty_impl_Queue, ([.int .i64 l, .int .i64 l1, .int .i64 l2, .slice l3O l3L l3C] : List Value)) = some (ty_impl_Queue, ([.int .i64 l, .int .i64 l1, .int .i64 l2, .slice l3O l3L l3C] : List Value))) ∧
    ((!xQueueD9) = true →
    InR .i64 (refused1 + 1) ∧
    InR .i64 (i1 + 1) ∧
    (∀ wr6, ExtX [b, b1] wv4 wr6 → (∀ bq ∈ ([b, b1, b3] : List Nat), bq < wr6.heap.size) → xInv1 [.int .i64 (refused1 + 1), .int .i64 (i1 + 1), .int .i64 xQueueD5, .int .i64 xQueueD6, .int .i64 xQueueD7, .slice xQueueD8O xQueueD8L xQueueD8C] wr6 ∧ mu1 [.int .i64 (refused1 + 1), .int .i64 (i1 + 1), .int .i64 xQueueD5, .int .i64 xQueueD6, .int .i64 xQueueD7, .slice xQueueD8O xQueueD8L xQueueD8C] wr6 < mu1 [.int .i64 refused1, .int .i64 i1, .int .i64 l, .int .i64 l1, .int .i64 l2, .slice l3O l3L l3C] wv3)) ∧
    ((!xQueueD9) = false →
    InR .i64 (i1 + 1) ∧
    (∀ wr7, ExtX [b, b1] wv4 wr7 → (∀ bq ∈ ([b, b1, b3] : List Nat), bq < wr7.heap.size) → xInv1 [.int .i64 refused1, .int .i64 (i1 + 1), .int .i64 xQueueD5, .int .i64 xQueueD6, .int .i64 xQueueD7, .slice xQueueD8O xQueueD8L xQueueD8C] wr7 ∧ mu1 [.int .i64 refused1, .int .i64 (i1 + 1), .int .i64 xQueueD5, .int .i64 xQueueD6, .int .i64 xQueueD7, .slice xQueueD8O xQueueD8L xQueueD8C] wr7 < mu1 [.int .i64 refused1, .int .i64 i1, .int .i64 l, .int .i64 l1, .int .i64 l2, .slice l3O l3L l3C] wv3)))))) ∧
    ((∀ b4, wv3.heap.size ≤ b4 →
    CellsX [b, b1] wv3 opsO (Int.toNat i1 * 3) [.int .i64 x01, .int .i64 x11, .int .i64 x21] ∧
    (some (ty_impl_Queue, ([.int .i64 l, .int .i64 l1, .int .i64 l2, .slice l3O l3L l3C] : List Value)) = some (ty_impl_Queue, ([.int .i64 l, .int .i64 l1, .int .i64 l2, .slice l3O l3L l3C] : List Value))) ∧
    (∀ wr8, ExtX [b, b1] wv3 wr8 → (∀ bq ∈ ([b, b1, b4] : List Nat), bq < wr8.heap.size) → 
    Calls Try.prog fn_spec_QueueDo #[.agg #[.int .i64 l, .int .i64 l1, .int .i64 l2, .slice l3O l3L l3C], .agg #[.int .i64 x01, .int .i64 x11, .int .i64 x21]] wr8 fun e3 wv5 =>
    (∃ (xQueueD10 : Int) (xQueueD11 : Int) (xQueueD12 : Int) (xQueueD13O : Option Addr) (xQueueD13L : Nat) (xQueueD13C : Nat) (xQueueD14 : Bool),
    e3 = .returned (.tuple #[.agg #[.int .i64 xQueueD10, .int .i64 xQueueD11, .int .i64 xQueueD12, .slice xQueueD13O xQueueD13L xQueueD13C], .bool xQueueD14]) ∧ Kept [b, b1, b4] wr8 wv5 ∧
    ((!xQueueD14) = true →
    InR .i64 (refused1 + 1) ∧
    InR .i64 (i1 + 1) ∧
    (∀ wr9, ExtX [b, b1, b4] wv5 wr9 → (∀ bq ∈ ([b, b1, b4] : List Nat), bq < wr9.heap.size) → xInv1 [.int .i64 (refused1 + 1), .int .i64 (i1 + 1), .int .i64 xQueueD10, .int .i64 xQueueD11, .int .i64 xQueueD12, .slice xQueueD13O xQueueD13L xQueueD13C] wr9 ∧ mu1 [.int .i64 (refused1 + 1), .int .i64 (i1 + 1), .int .i64 xQueueD10, .int .i64 xQueueD11, .int .i64 xQueueD12, .slice xQueueD13O xQueueD13L xQueueD13C] wr9 < mu1 [.int .i64 refused1, .int .i64 i1, .int .i64 l, .int .i64 l1, .int .i64 l2, .slice l3O l3L l3C] wv3)) ∧
    ((!xQueueD14) = false →
    InR .i64 (i1 + 1) ∧
    (∀ wr10, ExtX [b, b1, b4] wv5 wr10 → (∀ bq ∈ ([b, b1, b4] : List Nat), bq < wr10.heap.size) → xInv1 [.int .i64 refused1, .int .i64 (i1 + 1), .int .i64 xQueueD10, .int .i64 xQueueD11, .int .i64 xQueueD12, .slice xQueueD13O xQueueD13L xQueueD13C] wr10 ∧ mu1 [.int .i64 refused1, .int .i64 (i1 + 1), .int .i64 xQueueD10, .int .i64 xQueueD11, .int .i64 xQueueD12, .slice xQueueD13O xQueueD13L xQueueD13C] wr10 < mu1 [.int .i64 refused1, .int .i64 i1, .int .i64 l, .int .i64 l1, .int .i64 l2, .slice l3O l3L l3C] wv3)))))))) ∧
    ((decide (i1 < ((opsL : Nat) : Int))) = false →
    (∀ wr11, ExtX [b, b1] wv3 wr11 → R (.tuple #[.agg #[.int .i64 l, .int .i64 l1, .int .i64 l2, .slice l3O l3L l3C], .int .i64 refused1]) wr11)))))))))
theorem v_spec_QueuePlay (q0 : Int) (q1 : Int) (q2 : Int) (q3O : Option Addr) (q3L : Nat) (q3C : Nat) (opsO : Option Addr) (opsL : Nat) (opsC : Nat) (w : World) (R : Value → World → Prop) : evFn c_spec_QueuePlay s_spec_QueuePlay [.agg #[.int .i64 q0, .int .i64 q1, .int .i64 q2, .slice q3O q3L q3C], .slice opsO opsL opsC] (bodyOf Try.f31) Try.f31.results.toList w R = V_spec_QueuePlay q0 q1 q2 q3O q3L q3C opsO opsL opsC w R := by kernel_rfl
theorem e_spec_QueuePlay (q0 : Int) (q1 : Int) (q2 : Int) (q3O : Option Addr) (q3L : Nat) (q3C : Nat) (opsO : Option Addr) (opsL : Nat) (opsC : Nat) {w : World} {R : Value → World → Prop} (hvc : V_spec_QueuePlay q0 q1 q2 q3O q3L q3C opsO opsL opsC w R) : Calls Try.prog fn_spec_QueuePlay #[.agg #[.int .i64 q0, .int .i64 q1, .int .i64 q2, .slice q3O q3L q3C], .slice opsO opsL opsC] w fun e0 wr0 => ∃ v0, e0 = .returned v0 ∧ R v0 wr0 :=
  eff_of_ev (C := c_spec_QueuePlay) (sps := s_spec_QueuePlay) (body := bodyOf Try.f31) (env _ _ _) Try.func31 rfl rfl (of_decide_eq_true (by kernel_rfl)) (of_decide_eq_true (by kernel_rfl)) rfl ((v_spec_QueuePlay q0 q1 q2 q3O q3L q3C opsO opsL opsC w _).mpr hvc)
noncomputable def c_laws_FnQueuePlay : Cfg := { P := Try.prog, T := tblGet tbl, pf := pfT, ef := efT, tt := ttT, vis := [], n := 106, pm := false }
noncomputable def s_laws_FnQueuePlay : List (Nat × LSpec) := []
def V_laws_FnQueuePlay (codeO : Option Addr) (codeL : Nat) (codeC : Nat) (moreO : Option Addr) (moreL : Nat) (moreC : Nat) (w : World) (R : Value → World → Prop) : Prop :=
    (((decide (((codeL : Nat) : Int) > 1048576)) || (decide (((moreL : Nat) : Int) > 1048576))) = true →
    (∀ wr, ExtX [] w wr → R (.bool true) wr)) ∧
    (((decide (((codeL : Nat) : Int) > 1048576)) || (decide (((moreL : Nat) : Int) > 1048576))) = false →
    (∀ wr1, ExtX [] w wr1 → (∀ bq ∈ ([] : List Nat), bq < wr1.heap.size) → 
    Calls Try.prog fn_spec_DrawQueuePlay #[.slice codeO codeL codeC] wr1 fun e wv =>
    (∃ (xDrawQu : Int) (xDrawQu1 : Int) (xDrawQu2 : Int) (xDrawQu3O : Option Addr) (xDrawQu3L : Nat) (xDrawQu3C : Nat) (xDrawQu4O : Option Addr) (xDrawQu4L : Nat) (xDrawQu4C : Nat),
    e = .returned (.tuple #[.agg #[.int .i64 xDrawQu, .int .i64 xDrawQu1, .int .i64 xDrawQu2, .slice xDrawQu3O xDrawQu3L xDrawQu3C], .slice xDrawQu4O xDrawQu4L xDrawQu4C]) ∧ Kept [] wr1 wv ∧
    (∀ b, wv.heap.size ≤ b →
    ((decide (((xDrawQu4L : Nat) : Int) > 0)) = true →
    (∃ (stByte : Int),
    PureX [] Try.prog fn_laws_stByte #[.slice moreO moreL moreC, .int .i64 0] wv (.int .i64 stByte) ∧
    InR .i64 (((xDrawQu4L : Nat) : Int) + 1) ∧
    ((xDrawQu4L : Nat) : Int) + 1 ≠ 0 ∧
    (∀ wr2, ExtX [] wv wr2 → (∀ bq ∈ ([b] : List Nat), bq < wr2.heap.size) → 
    Calls Try.prog fn_impl_QueuePlay #[.agg #[.int .i64 xDrawQu, .int .i64 xDrawQu1, .int .i64 xDrawQu2, .slice xDrawQu3O xDrawQu3L xDrawQu3C], .slice xDrawQu4O xDrawQu4L xDrawQu4C] wr2 fun e1 wv1 =>
    (∃ (xQueueP : Int) (xQueueP1 : Int) (xQueueP2 : Int) (xQueueP3O : Option Addr) (xQueueP3L : Nat) (xQueueP3C : Nat) (xQueueP4 : Int),
    e1 = .returned (.tuple #[.agg #[.int .i64 xQueueP, .int .i64 xQueueP1, .int .i64 xQueueP2, .slice xQueueP3O xQueueP3L xQueueP3C], .int .i64 xQueueP4]) ∧ Kept [b] wr2 wv1 ∧
    (∀ b1, wv1.heap.size ≤ b1 →
    (0 ≤ (0 : Int) ∧ (0 : Int) ≤ Int.tmod stByte (((xDrawQu4L : Nat) : Int) + 1) ∧ Int.tmod stByte (((xDrawQu4L : Nat) : Int) + 1) ≤ (xDrawQu4C : Int)) ∧
    ((∀ wr3, ExtX [b] wv1 wr3 → (∀ bq ∈ ([b, b1] : List Nat), bq < wr3.heap.size) → 
    Calls Try.prog fn_impl_QueuePlay #[.agg #[.int .i64 xDrawQu, .int .i64 xDrawQu1, .int .i64 xDrawQu2, .slice xDrawQu3O xDrawQu3L xDrawQu3C], .slice (if xDrawQu4C = Int.toNat 0 then xDrawQu4O else xDrawQu4O.map (·.add (Int.toNat 0 * 3))) (Int.toNat (Int.tmod stByte (((xDrawQu4L : Nat) : Int) + 1)) - Int.toNat 0) (xDrawQu4C - Int.toNat 0)] wr3 fun e2 wv2 =>
    (∃ (xQueueP5 : Int) (xQueueP6 : Int) (xQueueP7 : Int) (xQueueP8O : Option Addr) (xQueueP8L : Nat) (xQueueP8C : Nat) (xQueueP9 : Int),
    e2 = .returned (.tuple #[.agg #[.int .i64 xQueueP5, .int .i64 xQueueP6, .int .i64 xQueueP7, .slice xQueueP8O xQueueP8L xQueueP8C], .int .i64 xQueueP9]) ∧ Kept [b, b1] wr3 wv2 ∧
    (∀ b2, wv2.heap.size ≤ b2 →
    (some (ty_impl_Queue, ([.int .i64 xDrawQu, .int .i64 xDrawQu1, .int .i64 xDrawQu2, .slice xDrawQu3O xDrawQu3L xDrawQu3C] : List Value)) = some (ty_impl_Queue, ([.int .i64 xDrawQu, .int .i64 xDrawQu1, .int .i64 xDrawQu2, .slice xDrawQu3O xDrawQu3L xDrawQu3C] : List Value))) ∧
    (0 ≤ Int.tmod stByte (((xDrawQu4L : Nat) : Int) + 1) ∧ Int.tmod stByte (((xDrawQu4L : Nat) : Int) + 1) ≤ ((xDrawQu4L : Nat) : Int) ∧ ((xDrawQu4L : Nat) : Int) ≤ (xDrawQu4C : Int)) ∧
    ((∀ wr4, ExtX [b, b1] wv2 wr4 → (∀ bq ∈ ([b, b1, b2] : List Nat), bq < wr4.heap.size) → 
    Calls Try.prog fn_impl_QueuePlay #[.agg #[.int .i64 xQueueP5, .int .i64 xQueueP6, .int .i64 xQueueP7, .slice xQueueP8O xQueueP8L xQueueP8C], .slice (if xDrawQu4C = Int.toNat (Int.tmod stByte (((xDrawQu4L : Nat) : Int) + 1)) then xDrawQu4O else xDrawQu4O.map (·.add (Int.toNat (Int.tmod stByte (((xDrawQu4L : Nat) : Int) + 1)) * 3))) (Int.toNat ((xDrawQu4L : Nat) : Int) - Int.toNat (Int.tmod stByte (((xDrawQu4L : Nat) : Int) + 1))) (xDrawQu4C - Int.toNat (Int.tmod stByte (((xDrawQu4L : Nat) : Int) + 1)))] wr4 fun e3 wv3 =>
    (∃ (xQueueP10 : Int) (xQueueP11 : Int) (xQueueP12 : Int) (xQueueP13O : Option Addr) (xQueueP13L : Nat) (xQueueP13C : Nat) (xQueueP14 : Int),
    e3 = .returned (.tuple #[.agg #[.int .i64 xQueueP10, .int .i64 xQueueP11, .int .i64 xQueueP12, .slice xQueueP13O xQueueP13L xQueueP13C], .int .i64 xQueueP14]) ∧ Kept [b, b1, b2] wr4 wv3 ∧
    (∀ b3, wv3.heap.size ≤ b3 →
    (some (ty_impl_Queue, ([.int .i64 xQueueP5, .int .i64 xQueueP6, .int .i64 xQueueP7, .slice xQueueP8O xQueueP8L xQueueP8C] : List Value)) = some (ty_impl_Queue, ([.int .i64 xQueueP5, .int .i64 xQueueP6, .int .i64 xQueueP7, .slice xQueueP8O xQueueP8L xQueueP8C] : List Value))) ∧
    (∀ wr5, ExtX [b, b1, b2] wv3 wr5 → (∀ bq ∈ ([b, b1, b2, b3] : List Nat), bq < wr5.heap.size) → 
    Calls Try.prog fn_spec_QueuePlay #[.agg #[.int .i64 xDrawQu, .int .i64 xDrawQu1, .int .i64 xDrawQu2, .slice xDrawQu3O xDrawQu3L xDrawQu3C], .slice xDrawQu4O xDrawQu4L xDrawQu4C] wr5 fun e4 wv4 =>
    (∃ (xQueueP15 : Int) (xQueueP16 : Int) (xQueueP17 : Int) (xQueueP18O : Option Addr) (xQueueP18L : Nat) (xQueueP18C : Nat) (xQueueP19 : Int),
    e4 = .returned (.tuple #[.agg #[.int .i64 xQueueP15, .int .i64 xQueueP16, .int .i64 xQueueP17, .slice xQueueP18O xQueueP18L xQueueP18C], .int .i64 xQueueP19]) ∧ Kept [b, b1, b2, b3] wr5 wv4 ∧
    (∀ b4, wv4.heap.size ≤ b4 →
    ((xQueueP4 != xQueueP19) = false → InR .i64 (xQueueP9 + xQueueP14)) ∧
    (∃ (stQueu : Bool),
    (((xQueueP4 != xQueueP19) || (xQueueP4 != (xQueueP9 + xQueueP14))) = false → PureX [b, b1, b2, b3] Try.prog fn_laws_stQueue #[.agg #[.int .i64 xQueueP, .int .i64 xQueueP1, .int .i64 xQueueP2, .slice xQueueP3O xQueueP3L xQueueP3C], .agg #[.int .i64 xQueueP10, .int .i64 xQueueP11, .int .i64 xQueueP12, .slice xQueueP13O xQueueP13L xQueueP13C]] wv4 (.bool stQueu)) ∧
    ((((xQueueP4 != xQueueP19) || (xQueueP4 != (xQueueP9 + xQueueP14))) || (!stQueu)) = true →
    (∀ wr6, ExtX [b, b1, b2, b3] wv4 wr6 → R (.bool false) wr6)) ∧
    ((((xQueueP4 != xQueueP19) || (xQueueP4 != (xQueueP9 + xQueueP14))) || (!stQueu)) = false →
    (∃ (xQueueO : Bool),
    ((((xDrawQu4L : Nat) : Int) == 0) = false → PureX [b, b1, b2, b3] Try.prog fn_spec_QueueOk #[.agg #[.int .i64 xDrawQu, .int .i64 xDrawQu1, .int .i64 xDrawQu2, .slice xDrawQu3O xDrawQu3L xDrawQu3C]] wv4 (.bool xQueueO)) ∧
    (((((xDrawQu4L : Nat) : Int) == 0) || (!xQueueO)) = true →
    (∀ wr7, ExtX [b, b1, b2, b3] wv4 wr7 → R (.bool true) wr7)) ∧
    (((((xDrawQu4L : Nat) : Int) == 0) || (!xQueueO)) = false →
    Ix xDrawQu4O xDrawQu4L 0 ∧
    (∃ (x0 : Int) (x1 : Int) (x2 : Int),
    CellsX [b, b1, b2, b3] wv4 xDrawQu4O (Int.toNat 0 * 3) [.int .i64 x0, .int .i64 x1, .int .i64 x2] ∧
    ((∀ wr8, ExtX [b, b1, b2, b3] wv4 wr8 → (∀ bq ∈ ([b, b1, b2, b3, b4] : List Nat), bq < wr8.heap.size) → 
    Calls Try.prog fn_impl_QueueDo #[.agg #[.int .i64 xDrawQu, .int .i64 xDrawQu1, .int .i64 xDrawQu2, .slice xDrawQu3O xDrawQu3L xDrawQu3C], .agg #[.int .i64 x0, .int .i64 x1, .int .i64 x2]] wr8 fun e5 wv5 =>
    (∃ (xQueueD : Int) (xQueueD1 : Int) (xQueueD2 : Int) (xQueueD3O : Option Addr) (xQueueD3L : Nat) (xQueueD3C : Nat) (xQueueD4 : Bool),
    e5 = .returned (.tuple #[.agg #[.int .i64 xQueueD, .int .i64 xQueueD1, .int .i64 xQueueD2, .slice xQueueD3O xQueueD3L xQueueD3C], .bool xQueueD4]) ∧ Kept [b, b1, b2, b3, b4] wr8 wv5 ∧
    (∀ b5, wv5.heap.size ≤ b5 →
    CellsX [b, b1, b2, b3, b4] wv5 xDrawQu4O (Int.toNat 0 * 3) [.int .i64 x0, .int .i64 x1, .int .i64 x2] ∧
    (some (ty_impl_Queue, ([.int .i64 xDrawQu, .int .i64 xDrawQu1, .int .i64 xDrawQu2, .slice xDrawQu3O xDrawQu3L xDrawQu3C] : List Value)) = some (ty_impl_Queue, ([.int .i64 xDrawQu, .int .i64 xDrawQu1, .int .i64 xDrawQu2, .slice xDrawQu3O xDrawQu3L xDrawQu3C] : List Value))) ∧
    (∃ (stQueu1 : Bool),
    (xQueueD4 = false → PureX [b, b1, b2, b3, b4] Try.prog fn_laws_stQueue #[.agg #[.int .i64 xDrawQu, .int .i64 xDrawQu1, .int .i64 xDrawQu2, .slice xDrawQu3O xDrawQu3L xDrawQu3C], .agg #[.int .i64 xQueueD, .int .i64 xQueueD1, .int .i64 xQueueD2, .slice xQueueD3O xQueueD3L xQueueD3C]] wv5 (.bool stQueu1)) ∧
    (∀ wr9, ExtX [b, b1, b2, b3, b4] wv5 wr9 → R (.bool (xQueueD4 || stQueu1)) wr9)))))) ∧
    ((∀ b6, wv4.heap.size ≤ b6 →
    CellsX [b, b1, b2, b3] wv4 xDrawQu4O (Int.toNat 0 * 3) [.int .i64 x0, .int .i64 x1, .int .i64 x2] ∧
    (some (ty_impl_Queue, ([.int .i64 xDrawQu, .int .i64 xDrawQu1, .int .i64 xDrawQu2, .slice xDrawQu3O xDrawQu3L xDrawQu3C] : List Value)) = some (ty_impl_Queue, ([.int .i64 xDrawQu, .int .i64 xDrawQu1, .int .i64 xDrawQu2, .slice xDrawQu3O xDrawQu3L xDrawQu3C] : List Value))) ∧
    (∀ wr10, ExtX [b, b1, b2, b3] wv4 wr10 → (∀ bq ∈ ([b, b1, b2, b3, b4, b6] : List Nat), bq < wr10.heap.size) → 
    Calls Try.prog fn_impl_QueueDo #[.agg #[.int .i64 xDrawQu, .int .i64 xDrawQu1, .int .i64 xDrawQu2, .slice xDrawQu3O xDrawQu3L xDrawQu3C], .agg #[.int .i64 x0, .int .i64 x1, .int .i64 x2]] wr10 fun e6 wv6 =>
    (∃ (xQueueD5 : Int) (xQueueD6 : Int) (xQueueD7 : Int) (xQueueD8O : Option Addr) (xQueueD8L : Nat) (xQueueD8C : Nat) (xQueueD9 : Bool),
    e6 = .returned (.tuple #[.agg #[.int .i64 xQueueD5, .int .i64 xQueueD6, .int .i64 xQueueD7, .slice xQueueD8O xQueueD8L xQueueD8C], .bool xQueueD9]) ∧ Kept [b, b1, b2, b3, b4, b6] wr10 wv6 ∧
    (∃ (stQueu2 : Bool),
    (xQueueD9 = false → PureX [b, b1, b2, b3, b4, b6] Try.prog fn_laws_stQueue #[.agg #[.int .i64 xDrawQu, .int .i64 xDrawQu1, .int .i64 xDrawQu2, .slice xDrawQu3O xDrawQu3L xDrawQu3C], .agg #[.int .i64 xQueueD5, .int .i64 xQueueD6, .int .i64 xQueueD7, .slice xQueueD8O xQueueD8L xQueueD8C]] wv6 (.bool stQueu2)) ∧
    (∀ wr11, ExtX [b, b1, b2, b3, b4, b6] wv6 wr11 → R (.bool (xQueueD9 || stQueu2)) wr11)))))))))))))))))) ∧
    ((∀ b7, wv2.heap.size ≤ b7 →
    (some (ty_impl_Queue, ([.int .i64 xQueueP5, .int .i64 xQueueP6, .int .i64 xQueueP7, .slice xQueueP8O xQueueP8L xQueueP8C] : List Value)) = some (ty_impl_Queue, ([.int .i64 xQueueP5, .int .i64 xQueueP6, .int .i64 xQueueP7, .slice xQueueP8O xQueueP8L xQueueP8C] : List Value))) ∧
    (∀ wr12, ExtX [b, b1] wv2 wr12 → (∀ bq ∈ ([b, b1, b2, b7] : List Nat), bq < wr12.heap.size) → 
    Calls Try.prog fn_impl_QueuePlay #[.agg #[.int .i64 xQueueP5, .int .i64 xQueueP6, .int .i64 xQueueP7, .slice xQueueP8O xQueueP8L xQueueP8C], .slice (if xDrawQu4C = Int.toNat (Int.tmod stByte (((xDrawQu4L : Nat) : Int) + 1)) then xDrawQu4O else xDrawQu4O.map (·.add (Int.toNat (Int.tmod stByte (((xDrawQu4L : Nat) : Int) + 1)) * 3))) (Int.toNat ((xDrawQu4L : Nat) : Int) - Int.toNat (Int.tmod stByte (((xDrawQu4L : Nat) : Int) + 1))) (xDrawQu4C - Int.toNat (Int.tmod stByte (((xDrawQu4L : Nat) : Int) + 1)))] wr12 fun e7 wv7 =>
    (∃ (xQueueP20 : Int) (xQueueP21 : Int) (xQueueP22 : Int) (xQueueP23O : Option Addr) (xQueueP23L : Nat) (xQueueP23C : Nat) (xQueueP24 : Int),
    e7 = .returned (.tuple #[.agg #[.int .i64 xQueueP20, .int .i64 xQueueP21, .int .i64 xQueueP22, .slice xQueueP23O xQueueP23L xQueueP23C], .int .i64 xQueueP24]) ∧ Kept [b, b1, b2, b7] wr12 wv7 ∧
    (∀ wr13, ExtX [b, b1, b2, b7] wv7 wr13 → (∀ bq ∈ ([b, b1, b2, b7] : List Nat), bq < wr13.heap.size) → 
    Calls Try.prog fn_spec_QueuePlay #[.agg #[.int .i64 xDrawQu, .int .i64 xDrawQu1, .int .i64 xDrawQu2, .slice xDrawQu3O xDrawQu3L xDrawQu3C], .slice xDrawQu4O xDrawQu4L xDrawQu4C] wr13 fun e8 wv8 =>
    (∃ (xQueueP25 : Int) (xQueueP26 : Int) (xQueueP27 : Int) (xQueueP28O : Option Addr) (xQueueP28L : Nat) (xQueueP28C : Nat) (xQueueP29 : Int),
    e8 = .returned (.tuple #[.agg #[.int .i64 xQueueP25, .int .i64 xQueueP26, .int .i64 xQueueP27, .slice xQueueP28O xQueueP28L xQueueP28C], .int .i64 xQueueP29]) ∧ Kept [b, b1, b2, b7] wr13 wv8 ∧
    (∀ b8, wv8.heap.size ≤ b8 →
    ((xQueueP4 != xQueueP29) = false → InR .i64 (xQueueP9 + xQueueP24)) ∧
    (∃ (stQueu3 : Bool),
    (((xQueueP4 != xQueueP29) || (xQueueP4 != (xQueueP9 + xQueueP24))) = false → PureX [b, b1, b2, b7] Try.prog fn_laws_stQueue #[.agg #[.int .i64 xQueueP, .int .i64 xQueueP1, .int .i64 xQueueP2, .slice xQueueP3O xQueueP3L xQueueP3C], .agg #[.int .i64 xQueueP20, .int .i64 xQueueP21, .int .i64 xQueueP22, .slice xQueueP23O xQueueP23L xQueueP23C]] wv8 (.bool stQueu3)) ∧
    ((((xQueueP4 != xQueueP29) || (xQueueP4 != (xQueueP9 + xQueueP24))) || (!stQueu3)) = true →
    (∀ wr14, ExtX [b, b1, b2, b7] wv8 wr14 → R (.bool false) wr14)) ∧
    ((((xQueueP4 != xQueueP29) || (xQueueP4 != (xQueueP9 + xQueueP24))) || (!stQueu3)) = false →
    (∃ (xQueueO1 : Bool),
    ((((xDrawQu4L : Nat) : Int) == 0) = false → PureX [b, b1, b2, b7] Try.prog fn_spec_QueueOk #[.agg #[.int .i64 xDrawQu, .int .i64 xDrawQu1, .int .i64 xDrawQu2, .slice xDrawQu3O xDrawQu3L xDrawQu3C]] wv8 (.bool xQueueO1)) ∧
    (((((xDrawQu4L : Nat) : Int) == 0) || (!xQueueO1)) = true →
    (∀ wr15, ExtX [b, b1, b2, b7] wv8 wr15 → R (.bool true) wr15)) ∧
    (((((xDrawQu4L : Nat) : Int) == 0) || (!xQueueO1)) = false →
    Ix xDrawQu4O xDrawQu4L 0 ∧
    (∃ (x01 : Int) (x11 : Int) (x21 : Int),
    CellsX [b, b1, b2, b7] wv8 xDrawQu4O (Int.toNat 0 * 3) [.int .i64 x01, .int .i64 x11, .int .i64 x21] ∧
    ((∀ wr16, ExtX [b, b1, b2, b7] wv8 wr16 → (∀ bq ∈ ([b, b1, b2, b7, b8] : List Nat), bq < wr16.heap.size) → 
    Calls Try.prog fn_impl_QueueDo #[.agg #[.int .i64 xDrawQu, .int .i64 xDrawQu1, .int .i64 xDrawQu2, .slice xDrawQu3O xDrawQu3L xDrawQu3C], .agg #[.int .i64 x01, .int .i64 x11, .int .i64 x21]] wr16 fun e9 wv9 =>
    (∃ (xQueueD10 : Int) (xQueueD11 : Int) (xQueueD12 : Int) (xQueueD13O : Option Addr) (xQueueD13L : Nat) (xQueueD13C : Nat) (xQueueD14 : Bool),
    e9 = .returned (.tuple #[.agg #[.int .i64 xQueueD10, .int .i64 xQueueD11, .int .i64 xQueueD12, .slice xQueueD13O xQueueD13L xQueueD13C], .bool xQueueD14]) ∧ Kept [b, b1, b2, b7, b8] wr16 wv9 ∧
    (∀ b9, wv9.heap.size ≤ b9 →
    CellsX [b, b1, b2, b7, b8] wv9 xDrawQu4O (Int.toNat 0 * 3) [.int .i64 x01, .int .i64 x11, .int .i64 x21] ∧
    (some (ty_impl_Queue, ([.int .i64 xDrawQu, .int .i64 xDrawQu1, .int .i64 xDrawQu2, .slice xDrawQu3O xDrawQu3L xDrawQu3C] : List Value)) = some (ty_impl_Queue, ([.int .i64 xDrawQu, .int .i64 xDrawQu1, .int .i64 xDrawQu2, .slice xDrawQu3O xDrawQu3L xDrawQu3C] : List Value))) ∧
    (∃ (stQueu4 : Bool),
    (xQueueD14 = false → PureX [b, b1, b2, b7, b8] Try.prog fn_laws_stQueue #[.agg #[.int .i64 xDrawQu, .int .i64 xDrawQu1, .int .i64 xDrawQu2, .slice xDrawQu3O xDrawQu3L xDrawQu3C], .agg #[.int .i64 xQueueD10, .int .i64 xQueueD11, .int .i64 xQueueD12, .slice xQueueD13O xQueueD13L xQueueD13C]] wv9 (.bool stQueu4)) ∧
    (∀ wr17, ExtX [b, b1, b2, b7, b8] wv9 wr17 → R (.bool (xQueueD14 || stQueu4)) wr17)))))) ∧
    ((∀ b10, wv8.heap.size ≤ b10 →
    CellsX [b, b1, b2, b7] wv8 xDrawQu4O (Int.toNat 0 * 3) [.int .i64 x01, .int .i64 x11, .int .i64 x21] ∧
    (some (ty_impl_Queue, ([.int .i64 xDrawQu, .int .i64 xDrawQu1, .int .i64 xDrawQu2, .slice xDrawQu3O xDrawQu3L xDrawQu3C] : List Value)) = some (ty_impl_Queue, ([.int .i64 xDrawQu, .int .i64 xDrawQu1, .int .i64 xDrawQu2, .slice xDrawQu3O xDrawQu3L xDrawQu3C] : List Value))) ∧
    (∀ wr18, ExtX [b, b1, b2, b7] wv8 wr18 → (∀ bq ∈ ([b, b1, b2, b7, b8, b10] : List Nat), bq < wr18.heap.size) → 
    Calls Try.prog fn_impl_QueueDo #[.agg #[.int .i64 xDrawQu, .int .i64 xDrawQu1, .int .i64 xDrawQu2, .slice xDrawQu3O xDrawQu3L xDrawQu3C], .agg #[.int .i64 x01, .int .i64 x11, .int .i64 x21]] wr18 fun e10 wv10 =>
    (∃ (xQueueD15 : Int) (xQueueD16 : Int) (xQueueD17 : Int) (xQueueD18O : Option Addr) (xQueueD18L : Nat) (xQueueD18C : Nat) (xQueueD19 : Bool),
    e10 = .returned (.tuple #[.agg #[.int .i64 xQueueD15, .int .i64 xQueueD16, .int .i64 xQueueD17, .slice xQueueD18O xQueueD18L xQueueD18C], .bool xQueueD19]) ∧ Kept [b, b1, b2, b7, b8, b10] wr18 wv10 ∧
    (∃ (stQueu5 : Bool),
    (xQueueD19 = false → PureX [b, b1, b2, b7, b8, b10] Try.prog fn_laws_stQueue #[.agg #[.int .i64 xDrawQu, .int .i64 xDrawQu1, .int .i64 xDrawQu2, .slice xDrawQu3O xDrawQu3L xDrawQu3C], .agg #[.int .i64 xQueueD15, .int .i64 xQueueD16, .int .i64 xQueueD17, .slice xQueueD18O xQueueD18L xQueueD18C]] wv10 (.bool stQueu5)) ∧
    (∀ wr19, ExtX [b, b1, b2, b7, b8, b10] wv10 wr19 → R (.bool (xQueueD19 || stQueu5)) wr19)))))))))))))))))))))) ∧
    ((∀ b11, wv1.heap.size ≤ b11 →
    (some (ty_impl_Queue, ([.int .i64 xDrawQu, .int .i64 xDrawQu1, .int .i64 xDrawQu2, .slice xDrawQu3O xDrawQu3L xDrawQu3C] : List Value)) = some (ty_impl_Queue, ([.int .i64 xDrawQu, .int .i64 xDrawQu1, .int .i64 xDrawQu2, .slice xDrawQu3O xDrawQu3L xDrawQu3C] : List Value))) ∧
    (∀ wr20, ExtX [b] wv1 wr20 → (∀ bq ∈ ([b, b1, b11] : List Nat), bq < wr20.heap.size) → 
    Calls Try.prog fn_impl_QueuePlay #[.agg #[.int .i64 xDrawQu, .int .i64 xDrawQu1, .int .i64 xDrawQu2, .slice xDrawQu3O xDrawQu3L xDrawQu3C], .slice (if xDrawQu4C = Int.toNat 0 then xDrawQu4O else xDrawQu4O.map (·.add (Int.toNat 0 * 3))) (Int.toNat (Int.tmod stByte (((xDrawQu4L : Nat) : Int) + 1)) - Int.toNat 0) (xDrawQu4C - Int.toNat 0)] wr20 fun e11 wv11 =>
    (∃ (xQueueP30 : Int) (xQueueP31 : Int) (xQueueP32 : Int) (xQueueP33O : Option Addr) (xQueueP33L : Nat) (xQueueP33C : Nat) (xQueueP34 : Int),
    e11 = .returned (.tuple #[.agg #[.int .i64 xQueueP30, .int .i64 xQueueP31, .int .i64 xQueueP32, .slice xQueueP33O xQueueP33L xQueueP33C], .int .i64 xQueueP34]) ∧ Kept [b, b1, b11] wr20 wv11 ∧
    (0 ≤ Int.tmod stByte (((xDrawQu4L : Nat) : Int) + 1) ∧ Int.tmod stByte (((xDrawQu4L : Nat) : Int) + 1) ≤ ((xDrawQu4L : Nat) : Int) ∧ ((xDrawQu4L : Nat) : Int) ≤ (xDrawQu4C : Int)) ∧
    ((∀ wr21, ExtX [b, b1, b11] wv11 wr21 → (∀ bq ∈ ([b, b1, b11] : List Nat), bq < wr21.heap.size) → 
    Calls Try.prog fn_impl_QueuePlay #[.agg #[.int .i64 xQueueP30, .int .i64 xQueueP31, .int .i64 xQueueP32, .slice xQueueP33O xQueueP33L xQueueP33C], .slice (if xDrawQu4C = Int.toNat (Int.tmod stByte (((xDrawQu4L : Nat) : Int) + 1)) then xDrawQu4O else xDrawQu4O.map (·.add (Int.toNat (Int.tmod stByte (((xDrawQu4L : Nat) : Int) + 1)) * 3))) (Int.toNat ((xDrawQu4L : Nat) : Int) - Int.toNat (Int.tmod stByte (((xDrawQu4L : Nat) : Int) + 1))) (xDrawQu4C - Int.toNat (Int.tmod stByte (((xDrawQu4L : Nat) : Int) + 1)))] wr21 fun e12 wv12 =>
    (∃ (xQueueP35 : Int) (xQueueP36 : Int) (xQueueP37 : Int) (xQueueP38O : Option Addr) (xQueueP38L : Nat) (xQueueP38C : Nat) (xQueueP39 : Int),
    e12 = .returned (.tuple #[.agg #[.int .i64 xQueueP35, .int .i64 xQueueP36, .int .i64 xQueueP37, .slice xQueueP38O xQueueP38L xQueueP38C], .int .i64 xQueueP39]) ∧ Kept [b, b1, b11] wr21 wv12 ∧
    (∀ b12, wv12.heap.size ≤ b12 →
    (some (ty_impl_Queue, ([.int .i64 xQueueP30, .int .i64 xQueueP31, .int .i64 xQueueP32, .slice xQueueP33O xQueueP33L xQueueP33C] : List Value)) = some (ty_impl_Queue, ([.int .i64 xQueueP30, .int .i64 xQueueP31, .int .i64 xQueueP32, .slice xQueueP33O xQueueP33L xQueueP33C] : List Value))) ∧
    (∀ wr22, ExtX [b, b1, b11] wv12 wr22 → (∀ bq ∈ ([b, b1, b11, b12] : List Nat), bq < wr22.heap.size) → 
    Calls Try.prog fn_spec_QueuePlay #[.agg #[.int .i64 xDrawQu, .int .i64 xDrawQu1, .int .i64 xDrawQu2, .slice xDrawQu3O xDrawQu3L xDrawQu3C], .slice xDrawQu4O xDrawQu4L xDrawQu4C] wr22 fun e13 wv13 =>
    (∃ (xQueueP40 : Int) (xQueueP41 : Int) (xQueueP42 : Int) (xQueueP43O : Option Addr) (xQueueP43L : Nat) (xQueueP43C : Nat) (xQueueP44 : Int),
    e13 = .returned (.tuple #[.agg #[.int .i64 xQueueP40, .int .i64 xQueueP41, .int .i64 xQueueP42, .slice xQueueP43O xQueueP43L xQueueP43C], .int .i64 xQueueP44]) ∧ Kept [b, b1, b11, b12] wr22 wv13 ∧
    (∀ b13, wv13.heap.size ≤ b13 →
    ((xQueueP4 != xQueueP44) = false → InR .i64 (xQueueP34 + xQueueP39)) ∧
    (∃ (stQueu6 : Bool),
    (((xQueueP4 != xQueueP44) || (xQueueP4 != (xQueueP34 + xQueueP39))) = false → PureX [b, b1, b11, b12] Try.prog fn_laws_stQueue #[.agg #[.int .i64 xQueueP, .int .i64 xQueueP1, .int .i64 xQueueP2, .slice xQueueP3O xQueueP3L xQueueP3C], .agg #[.int .i64 xQueueP35, .int .i64 xQueueP36, .int .i64 xQueueP37, .slice xQueueP38O xQueueP38L xQueueP38C]] wv13 (.bool stQueu6)) ∧
    ((((xQueueP4 != xQueueP44) || (xQueueP4 != (xQueueP34 + xQueueP39))) || (!stQueu6)) = true →
    (∀ wr23, ExtX [b, b1, b11, b12] wv13 wr23 → R (.bool false) wr23)) ∧
    ((((xQueueP4 != xQueueP44) || (xQueueP4 != (xQueueP34 + xQueueP39))) || (!stQueu6)) = false →
    (∃ (xQueueO2 : Bool),
    ((((xDrawQu4L : Nat) : Int) == 0) = false → PureX [b, b1, b11, b12] Try.prog fn_spec_QueueOk #[.agg #[.int .i64 xDrawQu, .int .i64 xDrawQu1, .int .i64 xDrawQu2, .slice xDrawQu3O xDrawQu3L xDrawQu3C]] wv13 (.bool xQueueO2)) ∧
    (((((xDrawQu4L : Nat) : Int) == 0) || (!xQueueO2)) = true →
    (∀ wr24, ExtX [b, b1, b11, b12] wv13 wr24 → R (.bool true) wr24)) ∧
    (((((xDrawQu4L : Nat) : Int) == 0) || (!xQueueO2)) = false →
    Ix xDrawQu4O xDrawQu4L 0 ∧
    (∃ (x02 : Int) (x12 : Int) (x22 : Int),
    CellsX [b, b1, b11, b12] wv13 xDrawQu4O (Int.toNat 0 * 3) [.int .i64 x02, .int .i64 x12, .int .i64 x22] ∧
    ((∀ wr25, ExtX [b, b1, b11, b12] wv13 wr25 → (∀ bq ∈ ([b, b1, b11, b12, b13] : List Nat), bq < wr25.heap.size) → 
    Calls Try.prog fn_impl_QueueDo #[.agg #[.int .i64 xDrawQu, .int .i64 xDrawQu1, .int .i64 xDrawQu2, .slice xDrawQu3O xDrawQu3L xDrawQu3C], .agg #[.int .i64 x02, .int .i64 x12, .int .i64 x22]] wr25 fun e14 wv14 =>
    (∃ (xQueueD20 : Int) (xQueueD21 : Int) (xQueueD22 : Int) (xQueueD23O : Option Addr) (xQueueD23L : Nat) (xQueueD23C : Nat) (xQueueD24 : Bool),
    e14 = .returned (.tuple #[.agg #[.int .i64 xQueueD20, .int .i64 xQueueD21, .int .i64 xQueueD22, .slice xQueueD23O xQueueD23L xQueueD23C], .bool xQueueD24]) ∧ Kept [b, b1, b11, b12, b13] wr25 wv14 ∧
    (∀ b14, wv14.heap.size ≤ b14 →
    CellsX [b, b1, b11, b12, b13] wv14 xDrawQu4O (Int.toNat 0 * 3) [.int .i64 x02, .int .i64 x12, .int .i64 x22] ∧
    (some (ty_impl_Queue, ([.int .i64 xDrawQu, .int .i64 xDrawQu1, .int .i64 xDrawQu2, .slice xDrawQu3O xDrawQu3L xDrawQu3C] : List Value)) = some (ty_impl_Queue, ([.int .i64 xDrawQu, .int .i64 xDrawQu1, .int .i64 xDrawQu2, .slice xDrawQu3O xDrawQu3L xDrawQu3C] : List Value))) ∧
    (∃ (stQueu7 : Bool),
    (xQueueD24 = false → PureX [b, b1, b11, b12, b13] Try.prog fn_laws_stQueue #[.agg #[.int .i64 xDrawQu, .int .i64 xDrawQu1, .int .i64 xDrawQu2, .slice xDrawQu3O xDrawQu3L xDrawQu3C], .agg #[.int .i64 xQueueD20, .int .i64 xQueueD21, .int .i64 xQueueD22, .slice xQueueD23O xQueueD23L xQueueD23C]] wv14 (.bool stQueu7)) ∧
    (∀ wr26, ExtX [b, b1, b11, b12, b13] wv14 wr26 → R (.bool (xQueueD24 || stQueu7)) wr26)))))) ∧
    ((∀ b15, wv13.heap.size ≤ b15 →
    CellsX [b, b1, b11, b12] wv13 xDrawQu4O (Int.toNat 0 * 3) [.int .i64 x02, .int .i64 x12, .int .i64 x22] ∧
    (some (ty_impl_Queue, ([.int .i64 xDrawQu, .int .i64 xDrawQu1, .int .i64 xDrawQu2, .slice xDrawQu3O xDrawQu3L xDrawQu3C] : List Value)) = some (ty_impl_Queue, ([.int .i64 xDrawQu, .int .i64 xDrawQu1, .int .i64 xDrawQu2, .slice xDrawQu3O xDrawQu3L xDrawQu3C] : List Value))) ∧
    (∀ wr27, ExtX [b, b1, b11, b12] wv13 wr27 → (∀ bq ∈ ([b, b1, b11, b12, b13, b15] : List Nat), bq < wr27.heap.size) → 
    Calls Try.prog fn_impl_QueueDo #[.agg #[.int .i64 xDrawQu, .int .i64 xDrawQu1, .int .i64 xDrawQu2, .slice xDrawQu3O xDrawQu3L xDrawQu3C], .agg #[.int .i64 x02, .int .i64 x12, .int .i64 x22]] wr27 fun e15 wv15 =>
    (∃ (xQueueD25 : Int) (xQueueD26 : Int) (xQueueD27 : Int) (xQueueD28O : Option Addr) (xQueueD28L : Nat) (xQueueD28C : Nat) (xQueueD29 : Bool),
    e15 = .returned (.tuple #[.agg #[.int .i64 xQueueD25, .int .i64 xQueueD26, .int .i64 xQueueD27, .slice xQueueD28O xQueueD28L xQueueD28C], .bool xQueueD29]) ∧ Kept [b, b1, b11, b12, b13, b15] wr27 wv15 ∧
    (∃ (stQueu8 : Bool),
    (xQueueD29 = false → PureX [b, b1, b11, b12, b13, b15] Try.prog fn_laws_stQueue #[.agg #[.int .i64 xDrawQu, .int .i64 xDrawQu1, .int .i64 xDrawQu2, .slice xDrawQu3O xDrawQu3L xDrawQu3C], .agg #[.int .i64 xQueueD25, .int .i64 xQueueD26, .int .i64 xQueueD27, .slice xQueueD28O xQueueD28L xQueueD28C]] wv15 (.bool stQueu8)) ∧
    (∀ wr28, ExtX [b, b1, b11, b12, b13, b15] wv15 wr28 → R (.bool (xQueueD29 || stQueu8)) wr28)))))))))))))))))) ∧
    ((∀ b16, wv11.heap.size ≤ b16 →
    (some (ty_impl_Queue, ([.int .i64 xQueueP30, .int .i64 xQueueP31, .int .i64 xQueueP32, .slice xQueueP33O xQueueP33L xQueueP33C] : List Value)) = some (ty_impl_Queue, ([.int .i64 xQueueP30, .int .i64 xQueueP31, .int .i64 xQueueP32, .slice xQueueP33O xQueueP33L xQueueP33C] : List Value))) ∧
    (∀ wr29, ExtX [b, b1, b11] wv11 wr29 → (∀ bq ∈ ([b, b1, b11, b16] : List Nat), bq < wr29.heap.size) → 
    Calls Try.prog fn_impl_QueuePlay #[.agg #[.int .i64 xQueueP30, .int .i64 xQueueP31, .int .i64 xQueueP32, .slice xQueueP33O xQueueP33L xQueueP33C], .slice (if xDrawQu4C = Int.toNat (Int.tmod stByte (((xDrawQu4L : Nat) : Int) + 1)) then xDrawQu4O else xDrawQu4O.map (·.add (Int.toNat (Int.tmod stByte (((xDrawQu4L : Nat) : Int) + 1)) * 3))) (Int.toNat ((xDrawQu4L : Nat) : Int) - Int.toNat (Int.tmod stByte (((xDrawQu4L : Nat) : Int) + 1))) (xDrawQu4C - Int.toNat (Int.tmod stByte (((xDrawQu4L : Nat) : Int) + 1)))] wr29 fun e16 wv16 =>
    (∃ (xQueueP45 : Int) (xQueueP46 : Int) (xQueueP47 : Int) (xQueueP48O : Option Addr) (xQueueP48L : Nat) (xQueueP48C : Nat) (xQueueP49 : Int),
    e16 = .returned (.tuple #[.agg #[.int .i64 xQueueP45, .int .i64 xQueueP46, .int .i64 xQueueP47, .slice xQueueP48O xQueueP48L xQueueP48C], .int .i64 xQueueP49]) ∧ Kept [b, b1, b11, b16] wr29 wv16 ∧
    (∀ wr30, ExtX [b, b1, b11, b16] wv16 wr30 → (∀ bq ∈ ([b, b1, b11, b16] : List Nat), bq < wr30.heap.size) → 
    Calls Try.prog fn_spec_QueuePlay #[.agg #[.int .i64 xDrawQu, .int .i64 xDrawQu1, .int .i64 xDrawQu2, .slice xDrawQu3O xDrawQu3L xDrawQu3C], .slice xDrawQu4O xDrawQu4L xDrawQu4C] wr30 fun e17 wv17 =>
    (∃ (xQueueP50 : Int) (xQueueP51 : Int) (xQueueP52 : Int) (xQueueP53O : Option Addr) (xQueueP53L : Nat) (xQueueP53C : Nat) (xQueueP54 : Int),
    e17 = .returned (.tuple #[.agg #[.int .i64 xQueueP50, .int .i64 xQueueP51, .int .i64 xQueueP52, .slice xQueueP53O xQueueP53L xQueueP53C], .int .i64 xQueueP54]) ∧ Kept [b, b1, b11, b16] wr30 wv17 ∧
    (∀ b17, wv17.heap.size ≤ b17 →
    ((xQueueP4 != xQueueP54) = false → InR .i64 (xQueueP34 + xQueueP49)) ∧
    (∃ (stQueu9 : Bool),
    (((xQueueP4 != xQueueP54) || (xQueueP4 != (xQueueP34 + xQueueP49))) = false → PureX [b, b1, b11, b16] Try.prog fn_laws_stQueue #[.agg #[.int .i64 xQueueP, .int .i64 xQueueP1, .int .i64 xQueueP2, .slice xQueueP3O xQueueP3L xQueueP3C], .agg #[.int .i64 xQueueP45, .int .i64 xQueueP46, .int .i64 xQueueP47, .slice xQueueP48O xQueueP48L xQueueP48C]] wv17 (.bool stQueu9)) ∧
    ((((xQueueP4 != xQueueP54) || (xQueueP4 != (xQueueP34 + xQueueP49))) || (!stQueu9)) = true →
    (∀ wr31, ExtX [b, b1, b11, b16] wv17 wr31 → R (.bool false) wr31)) ∧
    ((((xQueueP4 != xQueueP54) || (xQueueP4 != (xQueueP34 + xQueueP49))) || (!stQueu9)) = false →
    (∃ (xQueueO3 : Bool),
    ((((xDrawQu4L : Nat) : Int) == 0) = false → PureX [b, b1, b11, b16] Try.prog fn_spec_QueueOk #[.agg #[.int .i64 xDrawQu, .int .i64 xDrawQu1, .int .i64 xDrawQu2, .slice xDrawQu3O xDrawQu3L xDrawQu3C]] wv17 (.bool xQueueO3)) ∧
    (((((xDrawQu4L : Nat) : Int) == 0) || (!xQueueO3)) = true →
    (∀ wr32, ExtX [b, b1, b11, b16] wv17 wr32 → R (.bool true) wr32)) ∧
    (((((xDrawQu4L : Nat) : Int) == 0) || (!xQueueO3)) = false →
    Ix xDrawQu4O xDrawQu4L 0 ∧
    (∃ (x03 : Int) (x13 : Int) (x23 : Int),
    CellsX [b, b1, b11, b16] wv17 xDrawQu4O (Int.toNat 0 * 3) [.int .i64 x03, .int .i64 x13, .int .i64 x23] ∧
    ((∀ wr33, ExtX [b, b1, b11, b16] wv17 wr33 → (∀ bq ∈ ([b, b1, b11, b16, b17] : List Nat), bq < wr33.heap.size) → 
    Calls Try.prog fn_impl_QueueDo #[.agg #[.int .i64 xDrawQu, .int .i64 xDrawQu1, .int .i64 xDrawQu2, .slice xDrawQu3O xDrawQu3L xDrawQu3C], .agg #[.int .i64 x03, .int .i64 x13, .int .i64 x23]] wr33 fun e18 wv18 =>
    (∃ (xQueueD30 : Int) (xQueueD31 : Int) (xQueueD32 : Int) (xQueueD33O : Option Addr) (xQueueD33L : Nat) (xQueueD33C : Nat) (xQueueD34 : Bool),
    e18 = .returned (.tuple #[.agg #[.int .i64 xQueueD30, .int .i64 xQueueD31, .int .i64 xQueueD32, .slice xQueueD33O xQueueD33L xQueueD33C], .bool xQueueD34]) ∧ Kept [b, b1, b11, b16, b17] wr33 wv18 ∧
    (∀ b18, wv18.heap.size ≤ b18 →
    CellsX [b, b1, b11, b16, b17] wv18 xDrawQu4O (Int.toNat 0 * 3) [.int .i64 x03, .int .i64 x13, .int .i64 x23] ∧
    (some (ty_impl_Queue, ([.int .i64 xDrawQu, .int .i64 xDrawQu1, .int .i64 xDrawQu2, .slice xDrawQu3O xDrawQu3L xDrawQu3C] : List Value)) = some (ty_impl_Queue, ([.int .i64 xDrawQu, .int .i64 xDrawQu1, .int .i64 xDrawQu2, .slice xDrawQu3O xDrawQu3L xDrawQu3C] : List Value))) ∧
    (∃ (stQueu10 : Bool),
    (xQueueD34 = false → PureX [b, b1, b11, b16, b17] Try.prog fn_laws_stQueue #[.agg #[.int .i64 xDrawQu, .int .i64 xDrawQu1, .int .i64 xDrawQu2, .slice xDrawQu3O xDrawQu3L xDrawQu3C], .agg #[.int .i64 xQueueD30, .int .i64 xQueueD31, .int .i64 xQueueD32, .slice xQueueD33O xQueueD33L xQueueD33C]] wv18 (.bool stQueu10)) ∧
    (∀ wr34, ExtX [b, b1, b11, b16, b17] wv18 wr34 → R (.bool (xQueueD34 || stQueu10)) wr34)))))) ∧
    ((∀ b19, wv17.heap.size ≤ b19 →
    CellsX [b, b1, b11, b16] wv17 xDrawQu4O (Int.toNat 0 * 3) [.int .i64 x03, .int .i64 x13, .int .i64 x23] ∧
    (some (ty_impl_Queue, ([.int .i64 xDrawQu, .int .i64 xDrawQu1, .int .i64 xDrawQu2, .slice xDrawQu3O xDrawQu3L xDrawQu3C] : List Value)) = some (ty_impl_Queue, ([.int .i64 xDrawQu, .int .i64 xDrawQu1, .int .i64 xDrawQu2, .slice xDrawQu3O xDrawQu3L xDrawQu3C] : List Value))) ∧
    (∀ wr35, ExtX [b, b1, b11, b16] wv17 wr35 → (∀ bq ∈ ([b, b1, b11, b16, b17, b19] : List Nat), bq < wr35.heap.size) → 
    Calls Try.prog fn_impl_QueueDo #[.agg #[.int .i64 xDrawQu, .int .i64 xDrawQu1, .int .i64 xDrawQu2, .slice xDrawQu3O xDrawQu3L xDrawQu3C], .agg #[.int .i64 x03, .int .i64 x13, .int .i64 x23]] wr35 fun e19 wv19 =>
    (∃ (xQueueD35 : Int) (xQueueD36 : Int) (xQueueD37 : Int) (xQueueD38O : Option Addr) (xQueueD38L : Nat) (xQueueD38C : Nat) (xQueueD39 : Bool),
    e19 = .returned (.tuple #[.agg #[.int .i64 xQueueD35, .int .i64 xQueueD36, .int .i64 xQueueD37, .slice xQueueD38O xQueueD38L xQueueD38C], .bool xQueueD39]) ∧ Kept [b, b1, b11, b16, b17, b19] wr35 wv19 ∧
    (∃ (stQueu11 : Bool),
    (xQueueD39 = false → PureX [b, b1, b11, b16, b17, b19] Try.prog fn_laws_stQueue #[.agg #[.int .i64 xDrawQu, .int .i64 xDrawQu1, .int .i64 xDrawQu2, .slice xDrawQu3O xDrawQu3L xDrawQu3C], .agg #[.int .i64 xQueueD35, .int .i64 xQueueD36, .int .i64 xQueueD37, .slice xQueueD38O xQueueD38L xQueueD38C]] wv19 (.bool stQueu11)) ∧
    (∀ wr36, ExtX [b, b1, b11, b16, b17, b19] wv19 wr36 → R (.bool (xQueueD39 || stQueu11)) wr36))))))))))))))))))))))))))) ∧
    ((decide (((xDrawQu4L : Nat) : Int) > 0)) = false →
    (∀ wr37, ExtX [] wv wr37 → (∀ bq ∈ ([b] : List Nat), bq < wr37.heap.size) → 
    Calls Try.prog fn_impl_QueuePlay #[.agg #[.int .i64 xDrawQu, .int .i64 xDrawQu1, .int .i64 xDrawQu2, .slice xDrawQu3O xDrawQu3L xDrawQu3C], .slice xDrawQu4O xDrawQu4L xDrawQu4C] wr37 fun e20 wv20 =>
    (∃ (xQueueP55 : Int) (xQueueP56 : Int) (xQueueP57 : Int) (xQueueP58O : Option Addr) (xQueueP58L : Nat) (xQueueP58C : Nat) (xQueueP59 : Int),
    e20 = .returned (.tuple #[.agg #[.int .i64 xQueueP55, .int .i64 xQueueP56, .int .i64 xQueueP57, .slice xQueueP58O xQueueP58L xQueueP58C], .int .i64 xQueueP59]) ∧ Kept [b] wr37 wv20 ∧
    (∀ b20, wv20.heap.size ≤ b20 →
    (0 ≤ (0 : Int) ∧ (0 : Int) ≤ 0 ∧ 0 ≤ (xDrawQu4C : Int)) ∧
    ((∀ wr38, ExtX [b] wv20 wr38 → (∀ bq ∈ ([b, b20] : List Nat), bq < wr38.heap.size) → 
    Calls Try.prog fn_impl_QueuePlay #[.agg #[.int .i64 xDrawQu, .int .i64 xDrawQu1, .int .i64 xDrawQu2, .slice xDrawQu3O xDrawQu3L xDrawQu3C], .slice (if xDrawQu4C = Int.toNat 0 then xDrawQu4O else xDrawQu4O.map (·.add (Int.toNat 0 * 3))) (Int.toNat 0 - Int.toNat 0) (xDrawQu4C - Int.toNat 0)] wr38 fun e21 wv21 =>
    (∃ (xQueueP60 : Int) (xQueueP61 : Int) (xQueueP62 : Int) (xQueueP63O : Option Addr) (xQueueP63L : Nat) (xQueueP63C : Nat) (xQueueP64 : Int),
    e21 = .returned (.tuple #[.agg #[.int .i64 xQueueP60, .int .i64 xQueueP61, .int .i64 xQueueP62, .slice xQueueP63O xQueueP63L xQueueP63C], .int .i64 xQueueP64]) ∧ Kept [b, b20] wr38 wv21 ∧
    (∀ b21, wv21.heap.size ≤ b21 →
    (some (ty_impl_Queue, ([.int .i64 xDrawQu, .int .i64 xDrawQu1, .int .i64 xDrawQu2, .slice xDrawQu3O xDrawQu3L xDrawQu3C] : List Value)) = some (ty_impl_Queue, ([.int .i64 xDrawQu, .int .i64 xDrawQu1, .int .i64 xDrawQu2, .slice xDrawQu3O xDrawQu3L xDrawQu3C] : List Value))) ∧
    (0 ≤ (0 : Int) ∧ (0 : Int) ≤ ((xDrawQu4L : Nat) : Int) ∧ ((xDrawQu4L : Nat) : Int) ≤ (xDrawQu4C : Int)) ∧
    ((∀ wr39, ExtX [b, b20] wv21 wr39 → (∀ bq ∈ ([b, b20, b21] : List Nat), bq < wr39.heap.size) → 
    Calls Try.prog fn_impl_QueuePlay #[.agg #[.int .i64 xQueueP60, .int .i64 xQueueP61, .int .i64 xQueueP62, .slice xQueueP63O xQueueP63L xQueueP63C], .slice (if xDrawQu4C = Int.toNat 0 then xDrawQu4O else xDrawQu4O.map (·.add (Int.toNat 0 * 3))) (Int.toNat ((xDrawQu4L : Nat) : Int) - Int.toNat 0) (xDrawQu4C - Int.toNat 0)] wr39 fun e22 wv22 =>
    (∃ (xQueueP65 : Int) (xQueueP66 : Int) (xQueueP67 : Int) (xQueueP68O : Option Addr) (xQueueP68L : Nat) (xQueueP68C : Nat) (xQueueP69 : Int),
    e22 = .returned (.tuple #[.agg #[.int .i64 xQueueP65, .int .i64 xQueueP66, .int .i64 xQueueP67, .slice xQueueP68O xQueueP68L xQueueP68C], .int .i64 xQueueP69]) ∧ Kept [b, b20, b21] wr39 wv22 ∧
    (∀ b22, wv22.heap.size ≤ b22 →
    (some (ty_impl_Queue, ([.int .i64 xQueueP60, .int .i64 xQueueP61, .int .i64 xQueueP62, .slice xQueueP63O xQueueP63L xQueueP63C] : List Value)) = some (ty_impl_Queue, ([.int .i64 xQueueP60, .int .i64 xQueueP61, .int .i64 xQueueP62, .slice xQueueP63O xQueueP63L xQueueP63C] : List Value))) ∧
    (∀ wr40, ExtX [b, b20, b21] wv22 wr40 → (∀ bq ∈ ([b, b20, b21, b22] : List Nat), bq < wr40.heap.size) → 
    Calls Try.prog fn_spec_QueuePlay #[.agg #[.int .i64 xDrawQu, .int .i64 xDrawQu1, .int .i64 xDrawQu2, .slice xDrawQu3O xDrawQu3L xDrawQu3C], .slice xDrawQu4O xDrawQu4L xDrawQu4C] wr40 fun e23 wv23 =>
    (∃ (xQueueP70 : Int) (xQueueP71 : Int) (xQueueP72 : Int) (xQueueP73O : Option Addr) (xQueueP73L : Nat) (xQueueP73C : Nat) (xQueueP74 : Int),
    e23 = .returned (.tuple #[.agg #[.int .i64 xQueueP70, .int .i64 xQueueP71, .int .i64 xQueueP72, .slice xQueueP73O xQueueP73L xQueueP73C], .int .i64 xQueueP74]) ∧ Kept [b, b20, b21, b22] wr40 wv23 ∧
    (∀ b23, wv23.heap.size ≤ b23 →
    ((xQueueP59 != xQueueP74) = false → InR .i64 (xQueueP64 + xQueueP69)) ∧
    (∃ (stQueu12 : Bool),
    (((xQueueP59 != xQueueP74) || (xQueueP59 != (xQueueP64 + xQueueP69))) = false → PureX [b, b20, b21, b22] Try.prog fn_laws_stQueue #[.agg #[.int .i64 xQueueP55, .int .i64 xQueueP56, .int .i64 xQueueP57, .slice xQueueP58O xQueueP58L xQueueP58C], .agg #[.int .i64 xQueueP65, .int .i64 xQueueP66, .int .i64 xQueueP67, .slice xQueueP68O xQueueP68L xQueueP68C]] wv23 (.bool stQueu12)) ∧
    ((((xQueueP59 != xQueueP74) || (xQueueP59 != (xQueueP64 + xQueueP69))) || (!stQueu12)) = true →
    (∀ wr41, ExtX [b, b20, b21, b22] wv23 wr41 → R (.bool false) wr41)) ∧
    ((((xQueueP59 != xQueueP74) || (xQueueP59 != (xQueueP64 + xQueueP69))) || (!stQueu12)) = false →
    (∃ (xQueueO4 : Bool),
    ((((xDrawQu4L : Nat) : Int) == 0) = false → PureX [b, b20, b21, b22] Try.prog fn_spec_QueueOk #[.agg #[.int .i64 xDrawQu, .int .i64 xDrawQu1, .int .i64 xDrawQu2, .slice xDrawQu3O xDrawQu3L xDrawQu3C]] wv23 (.bool xQueueO4)) ∧
    (((((xDrawQu4L : Nat) : Int) == 0) || (!xQueueO4)) = true →
    (∀ wr42, ExtX [b, b20, b21, b22] wv23 wr42 → R (.bool true) wr42)) ∧
    (((((xDrawQu4L : Nat) : Int) == 0) || (!xQueueO4)) = false →
    Ix xDrawQu4O xDrawQu4L 0 ∧
    (∃ (x04 : Int) (x14 : Int) (x24 : Int),
    CellsX [b, b20, b21, b22] wv23 xDrawQu4O (Int.toNat 0 * 3) [.int .i64 x04, .int .i64 x14, .int .i64 x24] ∧
    ((∀ wr43, ExtX [b, b20, b21, b22] wv23 wr43 → (∀ bq ∈ ([b, b20, b21, b22, b23] : List Nat), bq < wr43.heap.size) → 
    Calls Try.prog fn_impl_QueueDo #[.agg #[.int .i64 xDrawQu, .int .i64 xDrawQu1, .int .i64 xDrawQu2, .slice xDrawQu3O xDrawQu3L xDrawQu3C], .agg #[.int .i64 x04, .int .i64 x14, .int .i64 x24]] wr43 fun e24 wv24 =>
    (∃ (xQueueD40 : Int) (xQueueD41 : Int) (xQueueD42 : Int) (xQueueD43O : Option Addr) (xQueueD43L : Nat) (xQueueD43C : Nat) (xQueueD44 : Bool),
    e24 = .returned (.tuple #[.agg #[.int .i64 xQueueD40, .int .i64 xQueueD41, .int .i64 xQueueD42, .slice xQueueD43O xQueueD43L xQueueD43C], .bool xQueueD44]) ∧ Kept [b, b20, b21, b22, b23] wr43 wv24 ∧
    (∀ b24, wv24.heap.size ≤ b24 →
    CellsX [b, b20, b21, b22, b23] wv24 xDrawQu4O (Int.toNat 0 * 3) [.int .i64 x04, .int .i64 x14, .int .i64 x24] ∧
    (some (ty_impl_Queue, ([.int .i64 xDrawQu, .int .i64 xDrawQu1, .int .i64 xDrawQu2, .slice xDrawQu3O xDrawQu3L xDrawQu3C] : List Value)) = some (ty_impl_Queue, ([.int .i64 xDrawQu, .int .i64 xDrawQu1, .int .i64 xDrawQu2, .slice xDrawQu3O xDrawQu3L xDrawQu3C] : List Value))) ∧
    (∃ (stQueu13 : Bool),
    (xQueueD44 = false → PureX [b, b20, b21, b22, b23] Try.prog fn_laws_stQueue #[.agg #[.int .i64 xDrawQu, .int .i64 xDrawQu1, .int .i64 xDrawQu2, .slice xDrawQu3O xDrawQu3L xDrawQu3C], .agg #[.int .i64 xQueueD40, .int .i64 xQueueD41, .int .i64 xQueueD42, .slice xQueueD43O xQueueD43L xQueueD43C]] wv24 (.bool stQueu13)) ∧
    (∀ wr44, ExtX [b, b20, b21, b22, b23] wv24 wr44 → R (.bool (xQueueD44 || stQueu13)) wr44)))))) ∧
    ((∀ b25, wv23.heap.size ≤ b25 →
    CellsX [b, b20, b21, b22] wv23 xDrawQu4O (Int.toNat 0 * 3) [.int .i64 x04, .int .i64 x14, .int .i64 x24] ∧
    (some (ty_impl_Queue, ([.int .i64 xDrawQu, .int .i64 xDrawQu1, .int .i64 xDrawQu2, .slice xDrawQu3O xDrawQu3L xDrawQu3C] : List Value)) = some (ty_impl_Queue, ([.int .i64 xDrawQu, .int .i64 xDrawQu1, .int .i64 xDrawQu2, .slice xDrawQu3O xDrawQu3L xDrawQu3C] : List Value))) ∧
    (∀ wr45, ExtX [b, b20, b21, b22] wv23 wr45 → (∀ bq ∈ ([b, b20, b21, b22, b23, b25] : List Nat), bq < wr45.heap.size) → 
    Calls Try.prog fn_impl_QueueDo #[.agg #[.int .i64 xDrawQu, .int .i64 xDrawQu1, .int .i64 xDrawQu2, .slice xDrawQu3O xDrawQu3L xDrawQu3C], .agg #[.int .i64 x04, .int .i64 x14, .int .i64 x24]] wr45 fun e25 wv25 =>
    (∃ (xQueueD45 : Int) (xQueueD46 : Int) (xQueueD47 : Int) (xQueueD48O : Option Addr) (xQueueD48L : Nat) (xQueueD48C : Nat) (xQueueD49 : Bool),
    e25 = .returned (.tuple #[.agg #[.int .i64 xQueueD45, .int .i64 xQueueD46, .int .i64 xQueueD47, .slice xQueueD48O xQueueD48L xQueueD48C], .bool xQueueD49]) ∧ Kept [b, b20, b21, b22, b23, b25] wr45 wv25 ∧
    (∃ (stQueu14 : Bool),
    (xQueueD49 = false → PureX [b, b20, b21, b22, b23, b25] Try.prog fn_laws_stQueue #[.agg #[.int .i64 xDrawQu, .int .i64 xDrawQu1, .int .i64 xDrawQu2, .slice xDrawQu3O xDrawQu3L xDrawQu3C], .agg #[.int .i64 xQueueD45, .int .i64 xQueueD46, .int .i64 xQueueD47, .slice xQueueD48O xQueueD48L xQueueD48C]] wv25 (.bool stQueu14)) ∧
    (∀ wr46, ExtX [b, b20, b21, b22, b23, b25] wv25 wr46 → R (.bool (xQueueD49 || stQueu14)) wr46)))))))))))))))))) ∧
    ((∀ b26, wv21.heap.size ≤ b26 →
    (some (ty_impl_Queue, ([.int .i64 xQueueP60, .int .i64 xQueueP61, .int .i64 xQueueP62, .slice xQueueP63O xQueueP63L xQueueP63C] : List Value)) = some (ty_impl_Queue, ([.int .i64 xQueueP60, .int .i64 xQueueP61, .int .i64 xQueueP62, .slice xQueueP63O xQueueP63L xQueueP63C] : List Value))) ∧
    (∀ wr47, ExtX [b, b20] wv21 wr47 → (∀ bq ∈ ([b, b20, b21, b26] : List Nat), bq < wr47.heap.size) → 
    Calls Try.prog fn_impl_QueuePlay #[.agg #[.int .i64 xQueueP60, .int .i64 xQueueP61, .int .i64 xQueueP62, .slice xQueueP63O xQueueP63L xQueueP63C], .slice (if xDrawQu4C = Int.toNat 0 then xDrawQu4O else xDrawQu4O.map (·.add (Int.toNat 0 * 3))) (Int.toNat ((xDrawQu4L : Nat) : Int) - Int.toNat 0) (xDrawQu4C - Int.toNat 0)] wr47 fun e26 wv26 =>
    (∃ (xQueueP75 : Int) (xQueueP76 : Int) (xQueueP77 : Int) (xQueueP78O : Option Addr) (xQueueP78L : Nat) (xQueueP78C : Nat) (xQueueP79 : Int),
    e26 = .returned (.tuple #[.agg #[.int .i64 xQueueP75, .int .i64 xQueueP76, .int .i64 xQueueP77, .slice xQueueP78O xQueueP78L xQueueP78C], .int .i64 xQueueP79]) ∧ Kept [b, b20, b21, b26] wr47 wv26 ∧
    (∀ wr48, ExtX [b, b20, b21, b26] wv26 wr48 → (∀ bq ∈ ([b, b20, b21, b26] : List Nat), bq < wr48.heap.size) → 
    Calls Try.prog fn_spec_QueuePlay #[.agg #[.int .i64 xDrawQu, .int .i64 xDrawQu1, .int .i64 xDrawQu2, .slice xDrawQu3O xDrawQu3L xDrawQu3C], .slice xDrawQu4O xDrawQu4L xDrawQu4C] wr48 fun e27 wv27 =>
    (∃ (xQueueP80 : Int) (xQueueP81 : Int) (xQueueP82 : Int) (xQueueP83O : Option Addr) (xQueueP83L : Nat) (xQueueP83C : Nat) (xQueueP84 : Int),
    e27 = .returned (.tuple #[.agg #[.int .i64 xQueueP80, .int .i64 xQueueP81, .int .i64 xQueueP82, .slice xQueueP83O xQueueP83L xQueueP83C], .int .i64 xQueueP84]) ∧ Kept [b, b20, b21, b26] wr48 wv27 ∧
    (∀ b27, wv27.heap.size ≤ b27 →
    ((xQueueP59 != xQueueP84) = false → InR .i64 (xQueueP64 + xQueueP79)) ∧
    (∃ (stQueu15 : Bool),
    (((xQueueP59 != xQueueP84) || (xQueueP59 != (xQueueP64 + xQueueP79))) = false → PureX [b, b20, b21, b26] Try.prog fn_laws_stQueue #[.agg #[.int .i64 xQueueP55, .int .i64 xQueueP56, .int .i64 xQueueP57, .slice xQueueP58O xQueueP58L xQueueP58C], .agg #[.int .i64 xQueueP75, .int .i64 xQueueP76, .int .i64 xQueueP77, .slice xQueueP78O xQueueP78L xQueueP78C]] wv27 (.bool stQueu15)) ∧
    ((((xQueueP59 != xQueueP84) || (xQueueP59 != (xQueueP64 + xQueueP79))) || (!stQueu15)) = true →
    (∀ wr49, ExtX [b, b20, b21, b26] wv27 wr49 → R (.bool false) wr49)) ∧
    ((((xQueueP59 != xQueueP84) || (xQueueP59 != (xQueueP64 + xQueueP79))) || (!stQueu15)) = false →
    (∃ (xQueueO5 : Bool),
    ((((xDrawQu4L : Nat) : Int) == 0) = false → PureX [b, b20, b21, b26] Try.prog fn_spec_QueueOk #[.agg #[.int .i64 xDrawQu, .int .i64 xDrawQu1, .int .i64 xDrawQu2, .slice xDrawQu3O xDrawQu3L xDrawQu3C]] wv27 (.bool xQueueO5)) ∧
    (((((xDrawQu4L : Nat) : Int) == 0) || (!xQueueO5)) = true →
    (∀ wr50, ExtX [b, b20, b21, b26] wv27 wr50 → R (.bool true) wr50)) ∧
    (((((xDrawQu4L : Nat) : Int) == 0) || (!xQueueO5)) = false →
    Ix xDrawQu4O xDrawQu4L 0 ∧
    (∃ (x05 : Int) (x15 : Int) (x25 : Int),
    CellsX [b, b20, b21, b26] wv27 xDrawQu4O (Int.toNat 0 * 3) [.int .i64 x05, .int .i64 x15, .int .i64 x25] ∧
    ((∀ wr51, ExtX [b, b20, b21, b26] wv27 wr51 → (∀ bq ∈ ([b, b20, b21, b26, b27] : List Nat), bq < wr51.heap.size) → 
    Calls Try.prog fn_impl_QueueDo #[.agg #[.int .i64 xDrawQu, .int .i64 xDrawQu1, .int .i64 xDrawQu2, .slice xDrawQu3O xDrawQu3L xDrawQu3C], .agg #[.int .i64 x05, .int .i64 x15, .int .i64 x25]] wr51 fun e28 wv28 =>
    (∃ (xQueueD50 : Int) (xQueueD51 : Int) (xQueueD52 : Int) (xQueueD53O : Option Addr) (xQueueD53L : Nat) (xQueueD53C : Nat) (xQueueD54 : Bool),
    e28 = .returned (.tuple #[.agg #[.int .i64 xQueueD50, .int .i64 xQueueD51, .int .i64 xQueueD52, .slice xQueueD53O xQueueD53L xQueueD53C], .bool xQueueD54]) ∧ Kept [b, b20, b21, b26, b27] wr51 wv28 ∧
    (∀ b28, wv28.heap.size ≤ b28 →
    CellsX [b, b20, b21, b26, b27] wv28 xDrawQu4O (Int.toNat 0 * 3) [.int .i64 x05, .int .i64 x15, .int .i64 x25] ∧
    (some (ty_impl_Queue, ([.int .i64 xDrawQu, .int .i64 xDrawQu1, .int .i64 xDrawQu2, .slice xDrawQu3O xDrawQu3L xDrawQu3C] : List Value)) = some (ty_impl_Queue, ([.int .i64 xDrawQu, .int .i64 xDrawQu1, .int .i64 xDrawQu2, .slice xDrawQu3O xDrawQu3L xDrawQu3C] : List Value))) ∧
    (∃ (stQueu16 : Bool),
    (xQueueD54 = false → PureX [b, b20, b21, b26, b27] Try.prog fn_laws_stQueue #[.agg #[.int .i64 xDrawQu, .int .i64 xDrawQu1, .int .i64 xDrawQu2, .slice xDrawQu3O xDrawQu3L xDrawQu3C], .agg #[.int .i64 xQueueD50, .int .i64 xQueueD51, .int .i64 xQueueD52, .slice xQueueD53O xQueueD53L xQueueD53C]] wv28 (.bool stQueu16)) ∧
    (∀ wr52, ExtX [b, b20, b21, b26, b27] wv28 wr52 → R (.bool (xQueueD54 || stQueu16)) wr52)))))) ∧
    ((∀ b29, wv27.heap.size ≤ b29 →
    CellsX [b, b20, b21, b26] wv27 xDrawQu4O (Int.toNat 0 * 3) [.int .i64 x05, .int .i64 x15, .int .i64 x25] ∧
    (some (ty_impl_Queue, ([.int .i64 xDrawQu, .int .i64 xDrawQu1, .int .i64 xDrawQu2, .slice xDrawQu3O xDrawQu3L xDrawQu3C] : List Value)) = some (ty_impl_Queue, ([.int .i64 xDrawQu, .int .i64 xDrawQu1, .int .i64 xDrawQu2, .slice xDrawQu3O xDrawQu3L xDrawQu3C] : List Value))) ∧
    (∀ wr53, ExtX [b, b20, b21, b26] wv27 wr53 → (∀ bq ∈ ([b, b20, b21, b26, b27, b29] : List Nat), bq < wr53.heap.size) → 
    Calls Try.prog fn_impl_QueueDo #[.agg #[.int .i64 xDrawQu, .int .i64 xDrawQu1, .int .i64 xDrawQu2, .slice xDrawQu3O xDrawQu3L xDrawQu3C], .agg #[.int .i64 x05, .int .i64 x15, .int .i64 x25]] wr53 fun e29 wv29 =>
    (∃ (xQueueD55 : Int) (xQueueD56 : Int) (xQueueD57 : Int) (xQueueD58O : Option Addr) (xQueueD58L : Nat) (xQueueD58C : Nat) (xQueueD59 : Bool),
    e29 = .returned (.tuple #[.agg #[.int .i64 xQueueD55, .int .i64 xQueueD56, .int .i64 xQueueD57, .slice xQueueD58O xQueueD58L xQueueD58C], .bool xQueueD59]) ∧ Kept [b, b20, b21, b26, b27, b29] wr53 wv29 ∧
    (∃ (stQueu17 : Bool),
    (xQueueD59 = false → PureX [b, b20, b21, b26, b27, b29] Try.prog fn_laws_stQueue #[.agg #[.int .i64 xDrawQu, .int .i64 xDrawQu1, .int .i64 xDrawQu2, .slice xDrawQu3O xDrawQu3L xDrawQu3C], .agg #[.int .i64 xQueueD55, .int .i64 xQueueD56, .int .i64 xQueueD57, .slice xQueueD58O xQueueD58L xQueueD58C]] wv29 (.bool stQueu17)) ∧
    (∀ wr54, ExtX [b, b20, b21, b26, b27, b29] wv29 wr54 → R (.bool (xQueueD59 || stQueu17)) wr54)))))))))))))))))))))) ∧
    ((∀ b30, wv20.heap.size ≤ b30 →
    (some (ty_impl_Queue, ([.int .i64 xDrawQu, .int .i64 xDrawQu1, .int .i64 xDrawQu2, .slice xDrawQu3O xDrawQu3L xDrawQu3C] : List Value)) = some (ty_impl_Queue, ([.int .i64 xDrawQu, .int .i64 xDrawQu1, .int .i64 xDrawQu2, .slice xDrawQu3O xDrawQu3L xDrawQu3C] : List Value))) ∧
    (∀ wr55, ExtX [b] wv20 wr55 → (∀ bq ∈ ([b, b20, b30] : List Nat), bq < wr55.heap.size) → 
    Calls Try.prog fn_impl_QueuePlay #[.agg #[.int .i64 xDrawQu, .int .i64 xDrawQu1, .int .i64 xDrawQu2, .slice xDrawQu3O xDrawQu3L xDrawQu3C], .slice (if xDrawQu4C = Int.toNat 0 then xDrawQu4O else xDrawQu4O.map (·.add (Int.toNat 0 * 3))) (Int.toNat 0 - Int.toNat 0) (xDrawQu4C - Int.toNat 0)] wr55 fun e30 wv30 =>
    (∃ (xQueueP85 : Int) (xQueueP86 : Int) (xQueueP87 : Int) (xQueueP88O : Option Addr) (xQueueP88L : Nat) (xQueueP88C : Nat) (xQueueP89 : Int),
    e30 = .returned (.tuple #[.agg #[.int .i64 xQueueP85, .int .i64 xQueueP86, .int .i64 xQueueP87, .slice xQueueP88O xQueueP88L xQueueP88C], .int .i64 xQueueP89]) ∧ Kept [b, b20, b30] wr55 wv30 ∧
    (0 ≤ (0 : Int) ∧ (0 : Int) ≤ ((xDrawQu4L : Nat) : Int) ∧ ((xDrawQu4L : Nat) : Int) ≤ (xDrawQu4C : Int)) ∧
    ((∀ wr56, ExtX [b, b20, b30] wv30 wr56 → (∀ bq ∈ ([b, b20, b30] : List Nat), bq < wr56.heap.size) → 
    Calls Try.prog fn_impl_QueuePlay #[.agg #[.int .i64 xQueueP85, .int .i64 xQueueP86, .int .i64 xQueueP87, .slice xQueueP88O xQueueP88L xQueueP88C], .slice (if xDrawQu4C = Int.toNat 0 then xDrawQu4O else xDrawQu4O.map (·.add (Int.toNat 0 * 3))) (Int.toNat ((xDrawQu4L : Nat) : Int) - Int.toNat 0) (xDrawQu4C - Int.toNat 0)] wr56 fun e31 wv31 =>
    (∃ (xQueueP90 : Int) (xQueueP91 : Int) (xQueueP92 : Int) (xQueueP93O : Option Addr) (xQueueP93L : Nat) (xQueueP93C : Nat) (xQueueP94 : Int),
    e31 = .returned (.tuple #[.agg #[.int .i64 xQueueP90, .int .i64 xQueueP91, .int .i64 xQueueP92, .slice xQueueP93O xQueueP93L xQueueP93C], .int .i64 xQueueP94]) ∧ Kept [b, b20, b30] wr56 wv31 ∧
    (∀ b31, wv31.heap.size ≤ b31 →
    (some (ty_impl_Queue, ([.int .i64 xQueueP85, .int .i64 xQueueP86, .int .i64 xQueueP87, .slice xQueueP88O xQueueP88L xQueueP88C] : List Value)) = some (ty_impl_Queue, ([.int .i64 xQueueP85, .int .i64 xQueueP86, .int .i64 xQueueP87, .slice xQueueP88O xQueueP88L xQueueP88C] : List Value))) ∧
    (∀ wr57, ExtX [b, b20, b30] wv31 wr57 → (∀ bq ∈ ([b, b20, b30, b31] : List Nat), bq < wr57.heap.size) → 
    Calls Try.prog fn_spec_QueuePlay #[.agg #[.int .i64 xDrawQu, .int .i64 xDrawQu1, .int .i64 xDrawQu2, .slice xDrawQu3O xDrawQu3L xDrawQu3C], .slice xDrawQu4O xDrawQu4L xDrawQu4C] wr57 fun e32 wv32 =>
    (∃ (xQueueP95 : Int) (xQueueP96 : Int) (xQueueP97 : Int) (xQueueP98O : Option Addr) (xQueueP98L : Nat) (xQueueP98C : Nat) (xQueueP99 : Int),
    e32 = .returned (.tuple #[.agg #[.int .i64 xQueueP95, .int .i64 xQueueP96, .int .i64 xQueueP97, .slice xQueueP98O xQueueP98L xQueueP98C], .int .i64 xQueueP99]) ∧ Kept [b, b20, b30, b31] wr57 wv32 ∧
    (∀ b32, wv32.heap.size ≤ b32 →
    ((xQueueP59 != xQueueP99) = false → InR .i64 (xQueueP89 + xQueueP94)) ∧
    (∃ (stQueu18 : Bool),
    (((xQueueP59 != xQueueP99) || (xQueueP59 != (xQueueP89 + xQueueP94))) = false → PureX [b, b20, b30, b31] Try.prog fn_laws_stQueue #[.agg #[.int .i64 xQueueP55, .int .i64 xQueueP56, .int .i64 xQueueP57, .slice xQueueP58O xQueueP58L xQueueP58C], .agg #[.int .i64 xQueueP90, .int .i64 xQueueP91, .int .i64 xQueueP92, .slice xQueueP93O xQueueP93L xQueueP93C]] wv32 (.bool stQueu18)) ∧
    ((((xQueueP59 != xQueueP99) || (xQueueP59 != (xQueueP89 + xQueueP94))) || (!stQueu18)) = true →
    (∀ wr58, ExtX [b, b20, b30, b31] wv32 wr58 → R (.bool false) wr58)) ∧
    ((((xQueueP59 != xQueueP99) || (xQueueP59 != (xQueueP89 + xQueueP94))) || (!stQueu18)) = false →
    (∃ (xQueueO6 : Bool),
    ((((xDrawQu4L : Nat) : Int) == 0) = false → PureX [b, b20, b30, b31] Try.prog fn_spec_QueueOk #[.agg #[.int .i64 xDrawQu, .int .i64 xDrawQu1, .int .i64 xDrawQu2, .slice xDrawQu3O xDrawQu3L xDrawQu3C]] wv32 (.bool xQueueO6)) ∧
    (((((xDrawQu4L : Nat) : Int) == 0) || (!xQueueO6)) = true →
    (∀ wr59, ExtX [b, b20, b30, b31] wv32 wr59 → R (.bool true) wr59)) ∧
    (((((xDrawQu4L : Nat) : Int) == 0) || (!xQueueO6)) = false →
    Ix xDrawQu4O xDrawQu4L 0 ∧
    (∃ (x06 : Int) (x16 : Int) (x26 : Int),
    CellsX [b, b20, b30, b31] wv32 xDrawQu4O (Int.toNat 0 * 3) [.int .i64 x06, .int .i64 x16, .int .i64 x26] ∧
    ((∀ wr60, ExtX [b, b20, b30, b31] wv32 wr60 → (∀ bq ∈ ([b, b20, b30, b31, b32] : List Nat), bq < wr60.heap.size) → 
    Calls Try.prog fn_impl_QueueDo #[.agg #[.int .i64 xDrawQu, .int .i64 xDrawQu1, .int .i64 xDrawQu2, .slice xDrawQu3O xDrawQu3L xDrawQu3C], .agg #[.int .i64 x06, .int .i64 x16, .int .i64 x26]] wr60 fun e33 wv33 =>
    (∃ (xQueueD60 : Int) (xQueueD61 : Int) (xQueueD62 : Int) (xQueueD63O : Option Addr) (xQueueD63L : Nat) (xQueueD63C : Nat) (xQueueD64 : Bool),
    e33 = .returned (.tuple #[.agg #[.int .i64 xQueueD60, .int .i64 xQueueD61, .int .i64 xQueueD62, .slice xQueueD63O xQueueD63L xQueueD63C], .bool xQueueD64]) ∧ Kept [b, b20, b30, b31, b32] wr60 wv33 ∧
    (∀ b33, wv33.heap.size ≤ b33 →
    CellsX [b, b20, b30, b31, b32] wv33 xDrawQu4O (Int.toNat 0 * 3) [.int .i64 x06, .int .i64 x16, .int .i64 x26] ∧
    (some (ty_impl_Queue, ([.int .i64 xDrawQu, .int .i64 xDrawQu1, .int .i64 xDrawQu2, .slice xDrawQu3O xDrawQu3L xDrawQu3C] : List Value)) = some (ty_impl_Queue, ([.int .i64 xDrawQu, .int .i64 xDrawQu1, .int .i64 xDrawQu2, .slice xDrawQu3O xDrawQu3L xDrawQu3C] : List Value))) ∧
    (∃ (stQueu19 : Bool),
    (xQueueD64 = false → PureX [b, b20, b30, b31, b32] Try.prog fn_laws_stQueue #[.agg #[.int .i64 xDrawQu, .int .i64 xDrawQu1, .int .i64 xDrawQu2, .slice xDrawQu3O xDrawQu3L xDrawQu3C], .agg #[.int .i64 xQueueD60, .int .i64 xQueueD61, .int .i64 xQueueD62, .slice xQueueD63O xQueueD63L xQueueD63C]] wv33 (.bool stQueu19)) ∧
    (∀ wr61, ExtX [b, b20, b30, b31, b32] wv33 wr61 → R (.bool (xQueueD64 || stQueu19)) wr61)))))) ∧
    ((∀ b34, wv32.heap.size ≤ b34 →
    CellsX [b, b20, b30, b31] wv32 xDrawQu4O (Int.toNat 0 * 3) [.int .i64 x06, .int .i64 x16, .int .i64 x26] ∧
    (some (ty_impl_Queue, ([.int .i64 xDrawQu, .int .i64 xDrawQu1, .int .i64 xDrawQu2, .slice xDrawQu3O xDrawQu3L xDrawQu3C] : List Value)) = some (ty_impl_Queue, ([.int .i64 xDrawQu, .int .i64 xDrawQu1, .int .i64 xDrawQu2, .slice xDrawQu3O xDrawQu3L xDrawQu3C] : List Value))) ∧
    (∀ wr62, ExtX [b, b20, b30, b31] wv32 wr62 → (∀ bq ∈ ([b, b20, b30, b31, b32, b34] : List Nat), bq < wr62.heap.size) → 
    Calls Try.prog fn_impl_QueueDo #[.agg #[.int .i64 xDrawQu, .int .i64 xDrawQu1, .int .i64 xDrawQu2, .slice xDrawQu3O xDrawQu3L xDrawQu3C], .agg #[.int .i64 x06, .int .i64 x16, .int .i64 x26]] wr62 fun e34 wv34 =>
    (∃ (xQueueD65 : Int) (xQueueD66 : Int) (xQueueD67 : Int) (xQueueD68O : Option Addr) (xQueueD68L : Nat) (xQueueD68C : Nat) (xQueueD69 : Bool),
    e34 = .returned (.tuple #[.agg #[.int .i64 xQueueD65, .int .i64 xQueueD66, .int .i64 xQueueD67, .slice xQueueD68O xQueueD68L xQueueD68C], .bool xQueueD69]) ∧ Kept [b, b20, b30, b31, b32, b34] wr62 wv34 ∧
    (∃ (stQueu20 : Bool),
    (xQueueD69 = false → PureX [b, b20, b30, b31, b32, b34] Try.prog fn_laws_stQueue #[.agg #[.int .i64 xDrawQu, .int .i64 xDrawQu1, .int .i64 xDrawQu2, .slice xDrawQu3O xDrawQu3L xDrawQu3C], .agg #[.int .i64 xQueueD65, .int .i64 xQueueD66, .int .i64 xQueueD67, .slice xQueueD68O xQueueD68L xQueueD68C]] wv34 (.bool stQueu20)) ∧
    (∀ wr63, ExtX [b, b20, b30, b31, b32, b34] wv34 wr63 → R (.bool (xQueueD69 || stQueu20)) wr63)))))))))))))))))) ∧
    ((∀ b35, wv30.heap.size ≤ b35 →
    (some (ty_impl_Queue, ([.int .i64 xQueueP85, .int .i64 xQueueP86, .int .i64 xQueueP87, .slice xQueueP88O xQueueP88L xQueueP88C] : List Value)) = some (ty_impl_Queue, ([.int .i64 xQueueP85, .int .i64 xQueueP86, .int .i64 xQueueP87, .slice xQueueP88O xQueueP88L xQueueP88C] : List Value))) ∧
    (∀ wr64, ExtX [b, b20, b30] wv30 wr64 → (∀ bq ∈ ([b, b20, b30, b35] : List Nat), bq < wr64.heap.size) → 
    Calls Try.prog fn_impl_QueuePlay #[.agg #[.int .i64 xQueueP85, .int .i64 xQueueP86, .int .i64 xQueueP87, .slice xQueueP88O xQueueP88L xQueueP88C], .slice (if xDrawQu4C = Int.toNat 0 then xDrawQu4O else xDrawQu4O.map (·.add (Int.toNat 0 * 3))) (Int.toNat ((xDrawQu4L : Nat) : Int) - Int.toNat 0) (xDrawQu4C - Int.toNat 0)] wr64 fun e35 wv35 =>
    (∃ (xQueueP100 : Int) (xQueueP101 : Int) (xQueueP102 : Int) (xQueueP103O : Option Addr) (xQueueP103L : Nat) (xQueueP103C : Nat) (xQueueP104 : Int),
    e35 = .returned (.tuple #[.agg #[.int .i64 xQueueP100, .int .i64 xQueueP101, .int .i64 xQueueP102, .slice xQueueP103O xQueueP103L xQueueP103C], .int .i64 xQueueP104]) ∧ Kept [b, b20, b30, b35] wr64 wv35 ∧
    (∀ wr65, ExtX [b, b20, b30, b35] wv35 wr65 → (∀ bq ∈ ([b, b20, b30, b35] : List Nat), bq < wr65.heap.size) → 
    Calls Try.prog fn_spec_QueuePlay #[.agg #[.int .i64 xDrawQu, .int .i64 xDrawQu1, .int .i64 xDrawQu2, .slice xDrawQu3O xDrawQu3L xDrawQu3C], .slice xDrawQu4O xDrawQu4L xDrawQu4C] wr65 fun e36 wv36 =>
    (∃ (xQueueP105 : Int) (xQueueP106 : Int) (xQueueP107 : Int) (xQueueP108O : Option Addr) (xQueueP108L : Nat) (xQueueP108C : Nat) (xQueueP109 : Int),
    e36 = .returned (.tuple #[.agg #[.int .i64 xQueueP105, .int .i64 xQueueP106, .int .i64 xQueueP107, .slice xQueueP108O xQueueP108L xQueueP108C], .int .i64 xQueueP109]) ∧ Kept [b, b20, b30, b35] wr65 wv36 ∧
    (∀ b36, wv36.heap.size ≤ b36 →
    ((xQueueP59 != xQueueP109) = false → InR .i64 (xQueueP89 + xQueueP104)) ∧
    (∃ (stQueu21 : Bool),
    (((xQueueP59 != xQueueP109) || (xQueueP59 != (xQueueP89 + xQueueP104))) = false → PureX [b, b20, b30, b35] Try.prog fn_laws_stQueue #[.agg #[.int .i64 xQueueP55, .int .i64 xQueueP56, .int .i64 xQueueP57, .slice xQueueP58O xQueueP58L xQueueP58C], .agg #[.int .i64 xQueueP100, .int .i64 xQueueP101, .int .i64 xQueueP102, .slice xQueueP103O xQueueP103L xQueueP103C]] wv36 (.bool stQueu21)) ∧
    ((((xQueueP59 != xQueueP109) || (xQueueP59 != (xQueueP89 + xQueueP104))) || (!stQueu21)) = true →
    (∀ wr66, ExtX [b, b20, b30, b35] wv36 wr66 → R (.bool false) wr66)) ∧
    ((((xQueueP59 != xQueueP109) || (xQueueP59 != (xQueueP89 + xQueueP104))) || (!stQueu21)) = false →
    (∃ (xQueueO7 : Bool),
    ((((xDrawQu4L : Nat) : Int) == 0) = false → PureX [b, b20, b30, b35] Try.prog fn_spec_QueueOk #[.agg #[.int .i64 xDrawQu, .int .i64 xDrawQu1, .int .i64 xDrawQu2, .slice xDrawQu3O xDrawQu3L xDrawQu3C]] wv36 (.bool xQueueO7)) ∧
    (((((xDrawQu4L : Nat) : Int) == 0) || (!xQueueO7)) = true →
    (∀ wr67, ExtX [b, b20, b30, b35] wv36 wr67 → R (.bool true) wr67)) ∧
    (((((xDrawQu4L : Nat) : Int) == 0) || (!xQueueO7)) = false →
    Ix xDrawQu4O xDrawQu4L 0 ∧
    (∃ (x07 : Int) (x17 : Int) (x27 : Int),
    CellsX [b, b20, b30, b35] wv36 xDrawQu4O (Int.toNat 0 * 3) [.int .i64 x07, .int .i64 x17, .int .i64 x27] ∧
    ((∀ wr68, ExtX [b, b20, b30, b35] wv36 wr68 → (∀ bq ∈ ([b, b20, b30, b35, b36] : List Nat), bq < wr68.heap.size) → 
    Calls Try.prog fn_impl_QueueDo #[.agg #[.int .i64 xDrawQu, .int .i64 xDrawQu1, .int .i64 xDrawQu2, .slice xDrawQu3O xDrawQu3L xDrawQu3C], .agg #[.int .i64 x07, .int .i64 x17, .int .i64 x27]] wr68 fun e37 wv37 =>
    (∃ (xQueueD70 : Int) (xQueueD71 : Int) (xQueueD72 : Int) (xQueueD73O : Option Addr) (xQueueD73L : Nat) (xQueueD73C : Nat) (xQueueD74 : Bool),
    e37 = .returned (.tuple #[.agg #[.int .i64 xQueueD70, .int .i64 xQueueD71, .int .i64 xQueueD72, .slice xQueueD73O xQueueD73L xQueueD73C], .bool xQueueD74]) ∧ Kept [b, b20, b30, b35, b36] wr68 wv37 ∧
    (∀ b37, wv37.heap.size ≤ b37 →
    CellsX [b, b20, b30, b35, b36] wv37 xDrawQu4O (Int.toNat 0 * 3) [.int .i64 x07, .int .i64 x17, .int .i64 x27] ∧
    (some (ty_impl_Queue, ([.int .i64 xDrawQu, .int .i64 xDrawQu1, .int .i64 xDrawQu2, .slice xDrawQu3O xDrawQu3L xDrawQu3C] : List Value)) = some (ty_impl_Queue, ([.int .i64 xDrawQu, .int .i64 xDrawQu1, .int .i64 xDrawQu2, .slice xDrawQu3O xDrawQu3L xDrawQu3C] : List Value))) ∧
    (∃ (stQueu22 : Bool),
    (xQueueD74 = false → PureX [b, b20, b30, b35, b36] Try.prog fn_laws_stQueue #[.agg #[.int .i64 xDrawQu, .int .i64 xDrawQu1, .int .i64 xDrawQu2, .slice xDrawQu3O xDrawQu3L xDrawQu3C], .agg #[.int .i64 xQueueD70, .int .i64 xQueueD71, .int .i64 xQueueD72, .slice xQueueD73O xQueueD73L xQueueD73C]] wv37 (.bool stQueu22)) ∧
    (∀ wr69, ExtX [b, b20, b30, b35, b36] wv37 wr69 → R (.bool (xQueueD74 || stQueu22)) wr69)))))) ∧
    ((∀ b38, wv36.heap.size ≤ b38 →
    CellsX [b, b20, b30, b35] wv36 xDrawQu4O (Int.toNat 0 * 3) [.int .i64 x07, .int .i64 x17, .int .i64 x27] ∧
    (some (ty_impl_Queue, ([.int .i64 xDrawQu, .int .i64 xDrawQu1, .int .i64 xDrawQu2, .slice xDrawQu3O xDrawQu3L xDrawQu3C] : List Value)) = some (ty_impl_Queue, ([.int .i64 xDrawQu, .int .i64 xDrawQu1, .int .i64 xDrawQu2, .slice xDrawQu3O xDrawQu3L xDrawQu3C] : List Value))) ∧
    (∀ wr70, ExtX [b, b20, b30, b35] wv36 wr70 → (∀ bq ∈ ([b, b20, b30, b35, b36, b38] : List Nat), bq < wr70.heap.size) → 
    Calls Try.prog fn_impl_QueueDo #[.agg #[.int .i64 xDrawQu, .int .i64 xDrawQu1, .int .i64 xDrawQu2, .slice xDrawQu3O xDrawQu3L xDrawQu3C], .agg #[.int .i64 x07, .int .i64 x17, .int .i64 x27]] wr70 fun e38 wv38 =>
    (∃ (xQueueD75 : Int) (xQueueD76 : Int) (xQueueD77 : Int) (xQueueD78O : Option Addr) (xQueueD78L : Nat) (xQueueD78C : Nat) (xQueueD79 : Bool),
    e38 = .returned (.tuple #[.agg #[.int .i64 xQueueD75, .int .i64 xQueueD76, .int .i64 xQueueD77, .slice xQueueD78O xQueueD78L xQueueD78C], .bool xQueueD79]) ∧ Kept [b, b20, b30, b35, b36, b38] wr70 wv38 ∧
    (∃ (stQueu23 : Bool),
    (xQueueD79 = false → PureX [b, b20, b30, b35, b36, b38] Try.prog fn_laws_stQueue #[.agg #[.int .i64 xDrawQu, .int .i64 xDrawQu1, .int .i64 xDrawQu2, .slice xDrawQu3O xDrawQu3L xDrawQu3C], .agg #[.int .i64 xQueueD75, .int .i64 xQueueD76, .int .i64 xQueueD77, .slice xQueueD78O xQueueD78L xQueueD78C]] wv38 (.bool stQueu23)) ∧
    (∀ wr71, ExtX [b, b20, b30, b35, b36, b38] wv38 wr71 → R (.bool (xQueueD79 || stQueu23)) wr71))))))))))))))))))))))))))))))
theorem v_laws_FnQueuePlay (codeO : Option Addr) (codeL : Nat) (codeC : Nat) (moreO : Option Addr) (moreL : Nat) (moreC : Nat) (w : World) (R : Value → World → Prop) : evFn c_laws_FnQueuePlay s_laws_FnQueuePlay [.slice codeO codeL codeC, .slice moreO moreL moreC] (bodyOf Try.f7) Try.f7.results.toList w R = V_laws_FnQueuePlay codeO codeL codeC moreO moreL moreC w R := by kernel_rfl
theorem e_laws_FnQueuePlay (codeO : Option Addr) (codeL : Nat) (codeC : Nat) (moreO : Option Addr) (moreL : Nat) (moreC : Nat) {w : World} {R : Value → World → Prop} (hvc : V_laws_FnQueuePlay codeO codeL codeC moreO moreL moreC w R) : Calls Try.prog fn_laws_FnQueuePlay #[.slice codeO codeL codeC, .slice moreO moreL moreC] w fun e0 wr0 => ∃ v0, e0 = .returned v0 ∧ R v0 wr0 :=
  eff_of_ev (C := c_laws_FnQueuePlay) (sps := s_laws_FnQueuePlay) (body := bodyOf Try.f7) (env _ _ _) Try.func7 rfl rfl (of_decide_eq_true (by kernel_rfl)) (of_decide_eq_true (by kernel_rfl)) rfl ((v_laws_FnQueuePlay codeO codeL codeC moreO moreL moreC w _).mpr hvc)
noncomputable def c_laws_szQueueOpS : Cfg := { P := Try.prog, T := tblGet tbl, pf := pfT, ef := efT, tt := ttT, vis := [], n := 12, pm := true }
noncomputable def s_laws_szQueueOpS : List (Nat × LSpec) := []
def V_laws_szQueueOpS (aO : Option Addr) (aL : Nat) (aC : Nat) (leftv : Int) (w : World) (R : Value → World → Prop) : Prop :=
    InR .i64 (leftv - ((aL : Nat) : Int)) ∧
    ((decide (leftv - ((aL : Nat) : Int) < 0)) = true →
    R (.int .i64 (-1)) w) ∧
    ((decide (leftv - ((aL : Nat) : Int) < 0)) = false →
    R (.int .i64 (leftv - ((aL : Nat) : Int))) w)
theorem v_laws_szQueueOpS (aO : Option Addr) (aL : Nat) (aC : Nat) (leftv : Int) (w : World) (R : Value → World → Prop) : evFn c_laws_szQueueOpS s_laws_szQueueOpS [.slice aO aL aC, .int .i64 leftv] (bodyOf Try.f33) Try.f33.results.toList w R = V_laws_szQueueOpS aO aL aC leftv w R := by kernel_rfl
theorem p_laws_szQueueOpS (aO : Option Addr) (aL : Nat) (aC : Nat) (leftv : Int) {w : World} {bs : List Nat} {ret : Value} (hvc : ∀ wr0, ExtX bs w wr0 → V_laws_szQueueOpS aO aL aC leftv wr0 fun v0 _ => v0 = ret) : PureX bs Try.prog fn_laws_szQueueOpS #[.slice aO aL aC, .int .i64 leftv] w ret :=
  pure_of_ev (C := c_laws_szQueueOpS) (sps := s_laws_szQueueOpS) (body := bodyOf Try.f33) (env _ _ _) Try.func33 rfl rfl (of_decide_eq_true (by kernel_rfl)) (of_decide_eq_true (by kernel_rfl)) rfl fun wr0 hx0 => (v_laws_szQueueOpS aO aL aC leftv wr0 _).mpr (hvc wr0 hx0)
noncomputable def c_laws_toQueueOpS : Cfg := { P := Try.prog, T := tblGet tbl, pf := pfT, ef := efT, tt := ttT, vis := [], n := 23, pm := false }
noncomputable def s_laws_toQueueOpS : List (Nat × LSpec) := [(3, { chg := [(4, .int .i64)], chgL := [], keep := [0, 3] })]
def V_laws_toQueueOpS (aO : Option Addr) (aL : Nat) (aC : Nat) (w : World) (R : Value → World → Prop) : Prop :=
    (∀ wr, ExtX [] w wr → (∀ bq ∈ ([] : List Nat), bq < wr.heap.size) →
    (∃ (mkO : Option Addr) (mkL : Nat) (mkC : Nat),
    ∃ wv, ((Instr.makeSlice ty_sl_impl_QueueOp (.int .i64 ((aL : Nat) : Int)) (.int .i64 ((aL : Nat) : Int))) : Sem Value).run Try.prog wr = .ok (.slice mkO mkL mkC) wv ∧ Kept [] wr wv ∧
    (∃ (xInv : List Value → World → Prop) (mu : List Value → World → Nat), (∀ wr1, ExtX [] wv wr1 → (∀ bq ∈ ([] : List Nat), bq < wr1.heap.size) → xInv [.int .i64 0] wr1) ∧
    ∀ (i : Int) wv1, (∀ bq ∈ ([] : List Nat), bq < wv1.heap.size) → xInv [.int .i64 i] wv1 →
    ((decide (i < ((aL : Nat) : Int))) = true →
    Ix aO aL i ∧
    (∃ (x0 : Int) (x1 : Int) (x2 : Int),
    CellsX [] wv1 aO (Int.toNat i * 3) [.int .i64 x0, .int .i64 x1, .int .i64 x2] ∧
    (∃ (toQueu : Int) (toQueu1 : Int) (toQueu2 : Int),
    PureX [] Try.prog fn_laws_toQueueOp #[.agg #[.int .i64 x0, .int .i64 x1, .int .i64 x2]] wv1 (.agg #[.int .i64 toQueu, .int .i64 toQueu1, .int .i64 toQueu2]) ∧
    Ix mkO mkL i ∧
    WrX [] wv1 mkO (Int.toNat i * 3) 3 ∧
    InR .i64 (i + 1) ∧
    (∀ wr2, ExtX [] (sto wv1 mkO (Int.toNat i * 3) [.int .i64 toQueu, .int .i64 toQueu1, .int .i64 toQueu2]) wr2 → (∀ bq ∈ ([] : List Nat), bq < wr2.heap.size) → xInv [.int .i64 (i + 1)] wr2 ∧ mu [.int .i64 (i + 1)] wr2 < mu [.int .i64 i] wv1)))) ∧
    ((decide (i < ((aL : Nat) : Int))) = false →
    (∀ wr3, ExtX [] wv1 wr3 → R (.slice mkO mkL mkC) wr3)))))
theorem v_laws_toQueueOpS (aO : Option Addr) (aL : Nat) (aC : Nat) (w : World) (R : Value → World → Prop) : evFn c_laws_toQueueOpS s_laws_toQueueOpS [.slice aO aL aC] (bodyOf Try.f34) Try.f34.results.toList w R = V_laws_toQueueOpS aO aL aC w R := by kernel_rfl
theorem e_laws_toQueueOpS (aO : Option Addr) (aL : Nat) (aC : Nat) {w : World} {R : Value → World → Prop} (hvc : V_laws_toQueueOpS aO aL aC w R) : Calls Try.prog fn_laws_toQueueOpS #[.slice aO aL aC] w fun e0 wr0 => ∃ v0, e0 = .returned v0 ∧ R v0 wr0 :=
  eff_of_ev (C := c_laws_toQueueOpS) (sps := s_laws_toQueueOpS) (body := bodyOf Try.f34) (env _ _ _) Try.func34 rfl rfl (of_decide_eq_true (by kernel_rfl)) (of_decide_eq_true (by kernel_rfl)) rfl ((v_laws_toQueueOpS aO aL aC w _).mpr hvc)
noncomputable def c_laws_eqQueueOp : Cfg := { P := Try.prog, T := tblGet tbl, pf := pfT, ef := efT, tt := ttT, vis := [], n := 20, pm := true }
noncomputable def s_laws_eqQueueOp : List (Nat × LSpec) := []
def V_laws_eqQueueOp (a0 : Int) (a1 : Int) (a2 : Int) (b0 : Int) (b1 : Int) (b2 : Int) (w : World) (R : Value → World → Prop) : Prop :=
    (∀ b, w.heap.size ≤ b →
    (∀ b3, w.heap.size ≤ b3 →
    ((a0 != b0) = true →
    R (.bool false) w) ∧
    ((a0 != b0) = false →
    ((a1 != b1) = true →
    R (.bool false) w) ∧
    ((a1 != b1) = false →
    ((a2 != b2) = true →
    R (.bool false) w) ∧
    ((a2 != b2) = false →
    R (.bool true) w)))))
theorem v_laws_eqQueueOp (a0 : Int) (a1 : Int) (a2 : Int) (b0 : Int) (b1 : Int) (b2 : Int) (w : World) (R : Value → World → Prop) : evFn c_laws_eqQueueOp s_laws_eqQueueOp [.agg #[.int .i64 a0, .int .i64 a1, .int .i64 a2], .agg #[.int .i64 b0, .int .i64 b1, .int .i64 b2]] (bodyOf Try.f81) Try.f81.results.toList w R = V_laws_eqQueueOp a0 a1 a2 b0 b1 b2 w R := by kernel_rfl
theorem p_laws_eqQueueOp (a0 : Int) (a1 : Int) (a2 : Int) (b0 : Int) (b1 : Int) (b2 : Int) {w : World} {bs : List Nat} {ret : Value} (hvc : ∀ wr0, ExtX bs w wr0 → V_laws_eqQueueOp a0 a1 a2 b0 b1 b2 wr0 fun v0 _ => v0 = ret) : PureX bs Try.prog fn_laws_eqQueueOp #[.agg #[.int .i64 a0, .int .i64 a1, .int .i64 a2], .agg #[.int .i64 b0, .int .i64 b1, .int .i64 b2]] w ret :=
  pure_of_ev (C := c_laws_eqQueueOp) (sps := s_laws_eqQueueOp) (body := bodyOf Try.f81) (env _ _ _) Try.func81 rfl rfl (of_decide_eq_true (by kernel_rfl)) (of_decide_eq_true (by kernel_rfl)) rfl fun wr0 hx0 => (v_laws_eqQueueOp a0 a1 a2 b0 b1 b2 wr0 _).mpr (hvc wr0 hx0)
noncomputable def c_laws_eqQueueOpS : Cfg := { P := Try.prog, T := tblGet tbl, pf := pfT, ef := efT, tt := ttT, vis := [], n := 27, pm := true }
noncomputable def s_laws_eqQueueOpS : List (Nat × LSpec) := [(4, { chg := [(5, .int .i64)], chgL := [], keep := [0, 1] })]
def V_laws_eqQueueOpS (aO : Option Addr) (aL : Nat) (aC : Nat) (bO : Option Addr) (bL : Nat) (bC : Nat) (w : World) (R : Value → World → Prop) : Prop :=
    ((((aL : Nat) : Int) != ((bL : Nat) : Int)) = true →
    R (.bool false) w) ∧
    ((((aL : Nat) : Int) != ((bL : Nat) : Int)) = false →
    (∃ (xInv : List Value → Prop) (mu : List Value → Nat), xInv [.int .i64 0] ∧
    ∀ (i : Int), xInv [.int .i64 i] →
    ((decide (i < ((aL : Nat) : Int))) = true →
    Ix aO aL i ∧
    (∃ (x0 : Int) (x1 : Int) (x2 : Int),
    CellsX [] w aO (Int.toNat i * 3) [.int .i64 x0, .int .i64 x1, .int .i64 x2] ∧
    Ix bO bL i ∧
    (∃ (x01 : Int) (x11 : Int) (x21 : Int),
    CellsX [] w bO (Int.toNat i * 3) [.int .i64 x01, .int .i64 x11, .int .i64 x21] ∧
    (∃ (eqQueu : Bool),
    PureX [] Try.prog fn_laws_eqQueueOp #[.agg #[.int .i64 x0, .int .i64 x1, .int .i64 x2], .agg #[.int .i64 x01, .int .i64 x11, .int .i64 x21]] w (.bool eqQueu) ∧
    ((!eqQueu) = true →
    R (.bool false) w) ∧
    ((!eqQueu) = false →
    InR .i64 (i + 1) ∧
    xInv [.int .i64 (i + 1)] ∧ mu [.int .i64 (i + 1)] < mu [.int .i64 i]))))) ∧
    ((decide (i < ((aL : Nat) : Int))) = false →
    R (.bool true) w)))
theorem v_laws_eqQueueOpS (aO : Option Addr) (aL : Nat) (aC : Nat) (bO : Option Addr) (bL : Nat) (bC : Nat) (w : World) (R : Value → World → Prop) : evFn c_laws_eqQueueOpS s_laws_eqQueueOpS [.slice aO aL aC, .slice bO bL bC] (bodyOf Try.f35) Try.f35.results.toList w R = V_laws_eqQueueOpS aO aL aC bO bL bC w R := by kernel_rfl
theorem p_laws_eqQueueOpS (aO : Option Addr) (aL : Nat) (aC : Nat) (bO : Option Addr) (bL : Nat) (bC : Nat) {w : World} {bs : List Nat} {ret : Value} (hvc : ∀ wr0, ExtX bs w wr0 → V_laws_eqQueueOpS aO aL aC bO bL bC wr0 fun v0 _ => v0 = ret) : PureX bs Try.prog fn_laws_eqQueueOpS #[.slice aO aL aC, .slice bO bL bC] w ret :=
  pure_of_ev (C := c_laws_eqQueueOpS) (sps := s_laws_eqQueueOpS) (body := bodyOf Try.f35) (env _ _ _) Try.func35 rfl rfl (of_decide_eq_true (by kernel_rfl)) (of_decide_eq_true (by kernel_rfl)) rfl fun wr0 hx0 => (v_laws_eqQueueOpS aO aL aC bO bL bC wr0 _).mpr (hvc wr0 hx0)
noncomputable def c_laws_markQueueOpS : Cfg := { P := Try.prog, T := tblGet tbl, pf := pfT, ef := efT, tt := ttT, vis := [], n := 34, pm := false }
noncomputable def s_laws_markQueueOpS : List (Nat × LSpec) := [(2, { chg := [(1, .int .i64), (5, .int .i64)], chgL := [], keep := [0] })]
def V_laws_markQueueOpS (aO : Option Addr) (aL : Nat) (aC : Nat) (k : Int) (w : World) (R : Value → World → Prop) : Prop :=
    (∃ (xInv : List Value → World → Prop) (mu : List Value → World → Nat), (∀ wr, ExtX [] w wr → (∀ bq ∈ ([] : List Nat), bq < wr.heap.size) → xInv [.int .i64 k, .int .i64 0] wr) ∧
    ∀ (k1 : Int) (i : Int) wv, (∀ bq ∈ ([] : List Nat), bq < wv.heap.size) → xInv [.int .i64 k1, .int .i64 i] wv →
    ((decide (i < ((aL : Nat) : Int))) = true →
    Ix aO aL i ∧
    WrX [] wv aO (Int.toNat i * 3 + 0) 1 ∧
    InR .i64 (k1 + 1) ∧
    Ix aO aL i ∧
    WrX [] (sto wv aO (Int.toNat i * 3 + 0) [.int .i64 k1]) aO (Int.toNat i * 3 + 1) 1 ∧
    InR .i64 ((k1 + 1) + 1) ∧
    Ix aO aL i ∧
    WrX [] (sto (sto wv aO (Int.toNat i * 3 + 0) [.int .i64 k1]) aO (Int.toNat i * 3 + 1) [.int .i64 (k1 + 1)]) aO (Int.toNat i * 3 + 2) 1 ∧
    InR .i64 (((k1 + 1) + 1) + 1) ∧
    InR .i64 (i + 1) ∧
    (∀ wr1, ExtX [] (sto (sto (sto wv aO (Int.toNat i * 3 + 0) [.int .i64 k1]) aO (Int.toNat i * 3 + 1) [.int .i64 (k1 + 1)]) aO (Int.toNat i * 3 + 2) [.int .i64 ((k1 + 1) + 1)]) wr1 → (∀ bq ∈ ([] : List Nat), bq < wr1.heap.size) → xInv [.int .i64 (((k1 + 1) + 1) + 1), .int .i64 (i + 1)] wr1 ∧ mu [.int .i64 (((k1 + 1) + 1) + 1), .int .i64 (i + 1)] wr1 < mu [.int .i64 k1, .int .i64 i] wv)) ∧
    ((decide (i < ((aL : Nat) : Int))) = false →
    (∀ wr2, ExtX [] wv wr2 → R (.int .i64 k1) wr2)))
theorem v_laws_markQueueOpS (aO : Option Addr) (aL : Nat) (aC : Nat) (k : Int) (w : World) (R : Value → World → Prop) : evFn c_laws_markQueueOpS s_laws_markQueueOpS [.slice aO aL aC, .int .i64 k] (bodyOf Try.f36) Try.f36.results.toList w R = V_laws_markQueueOpS aO aL aC k w R := by kernel_rfl
theorem e_laws_markQueueOpS (aO : Option Addr) (aL : Nat) (aC : Nat) (k : Int) {w : World} {R : Value → World → Prop} (hvc : V_laws_markQueueOpS aO aL aC k w R) : Calls Try.prog fn_laws_markQueueOpS #[.slice aO aL aC, .int .i64 k] w fun e0 wr0 => ∃ v0, e0 = .returned v0 ∧ R v0 wr0 :=
  eff_of_ev (C := c_laws_markQueueOpS) (sps := s_laws_markQueueOpS) (body := bodyOf Try.f36) (env _ _ _) Try.func36 rfl rfl (of_decide_eq_true (by kernel_rfl)) (of_decide_eq_true (by kernel_rfl)) rfl ((v_laws_markQueueOpS aO aL aC k w _).mpr hvc)
noncomputable def c_laws_FnExactQueuePlay : Cfg := { P := Try.prog, T := tblGet tbl, pf := pfT, ef := efT, tt := ttT, vis := [], n := 119, pm := false }
noncomputable def s_laws_FnExactQueuePlay : List (Nat × LSpec) := []
def V_laws_FnExactQueuePlay (aQ0 : Int) (aQ1 : Int) (aQ2 : Int) (aQ3O : Option Addr) (aQ3L : Nat) (aQ3C : Nat) (aOpsO : Option Addr) (aOpsL : Nat) (aOpsC : Nat) (w : World) (R : Value → World → Prop) : Prop :=
    (∀ b, w.heap.size ≤ b →
    (∃ (szQueu : Int),
    PureX [] Try.prog fn_laws_szQueue #[.agg #[.int .i64 aQ0, .int .i64 aQ1, .int .i64 aQ2, .slice aQ3O aQ3L aQ3C], .int .i64 1048576] w (.int .i64 szQueu) ∧
    ((decide (szQueu < 0)) = true →
    (∀ wr, ExtX [] w wr → R (.bool true) wr)) ∧
    ((decide (szQueu < 0)) = false →
    (∃ (szQueu1 : Int),
    PureX [] Try.prog fn_laws_szQueueOpS #[.slice aOpsO aOpsL aOpsC, .int .i64 szQueu] w (.int .i64 szQueu1) ∧
    ((decide (szQueu1 < 0)) = true →
    (∀ wr1, ExtX [] w wr1 → R (.bool true) wr1)) ∧
    ((decide (szQueu1 < 0)) = false →
    (∀ wr2, ExtX [] w wr2 → (∀ bq ∈ ([b] : List Nat), bq < wr2.heap.size) → 
    Calls Try.prog fn_laws_toQueue #[.agg #[.int .i64 aQ0, .int .i64 aQ1, .int .i64 aQ2, .slice aQ3O aQ3L aQ3C]] wr2 fun e wv =>
    (∃ (toQueu : Int) (toQueu1 : Int) (toQueu2 : Int) (toQueu3O : Option Addr) (toQueu3L : Nat) (toQueu3C : Nat),
    e = .returned (.agg #[.int .i64 toQueu, .int .i64 toQueu1, .int .i64 toQueu2, .slice toQueu3O toQueu3L toQueu3C]) ∧ Kept [b] wr2 wv ∧
    (∀ wr3, ExtX [b] wv wr3 → (∀ bq ∈ ([b] : List Nat), bq < wr3.heap.size) → 
    Calls Try.prog fn_laws_toQueueOpS #[.slice aOpsO aOpsL aOpsC] wr3 fun e1 wv1 =>
    (∃ (toQueu4O : Option Addr) (toQueu4L : Nat) (toQueu4C : Nat),
    e1 = .returned (.slice toQueu4O toQueu4L toQueu4C) ∧ Kept [b] wr3 wv1 ∧
    (∀ wr4, ExtX [b] wv1 wr4 → (∀ bq ∈ ([b] : List Nat), bq < wr4.heap.size) → 
    Calls Try.prog fn_spec_QueuePlay #[.agg #[.int .i64 toQueu, .int .i64 toQueu1, .int .i64 toQueu2, .slice toQueu3O toQueu3L toQueu3C], .slice toQueu4O toQueu4L toQueu4C] wr4 fun e2 wv2 =>
    (∃ (xQueueP : Int) (xQueueP1 : Int) (xQueueP2 : Int) (xQueueP3O : Option Addr) (xQueueP3L : Nat) (xQueueP3C : Nat) (xQueueP4 : Int),
    e2 = .returned (.tuple #[.agg #[.int .i64 xQueueP, .int .i64 xQueueP1, .int .i64 xQueueP2, .slice xQueueP3O xQueueP3L xQueueP3C], .int .i64 xQueueP4]) ∧ Kept [b] wr4 wv2 ∧
    (∀ b1, wv2.heap.size ≤ b1 →
    (∀ wr5, ExtX [b] wv2 wr5 → (∀ bq ∈ ([b, b1] : List Nat), bq < wr5.heap.size) → 
    Calls Try.prog fn_laws_toQueue #[.agg #[.int .i64 aQ0, .int .i64 aQ1, .int .i64 aQ2, .slice aQ3O aQ3L aQ3C]] wr5 fun e3 wv3 =>
    (∃ (toQueu5 : Int) (toQueu6 : Int) (toQueu7 : Int) (toQueu8O : Option Addr) (toQueu8L : Nat) (toQueu8C : Nat),
    e3 = .returned (.agg #[.int .i64 toQueu5, .int .i64 toQueu6, .int .i64 toQueu7, .slice toQueu8O toQueu8L toQueu8C]) ∧ Kept [b, b1] wr5 wv3 ∧
    (∀ b2, wv3.heap.size ≤ b2 →
    (∀ wr6, ExtX [b, b1] wv3 wr6 → (∀ bq ∈ ([b, b1, b2] : List Nat), bq < wr6.heap.size) → 
    Calls Try.prog fn_laws_toQueueOpS #[.slice aOpsO aOpsL aOpsC] wr6 fun e4 wv4 =>
    (∃ (toQueu9O : Option Addr) (toQueu9L : Nat) (toQueu9C : Nat),
    e4 = .returned (.slice toQueu9O toQueu9L toQueu9C) ∧ Kept [b, b1, b2] wr6 wv4 ∧
    (∀ wr7, ExtX [b, b1, b2] wv4 wr7 → (∀ bq ∈ ([b, b1, b2] : List Nat), bq < wr7.heap.size) → 
    Calls Try.prog fn_impl_QueuePlay #[.agg #[.int .i64 toQueu5, .int .i64 toQueu6, .int .i64 toQueu7, .slice toQueu8O toQueu8L toQueu8C], .slice toQueu9O toQueu9L toQueu9C] wr7 fun e5 wv5 =>
    (∃ (xQueueP5 : Int) (xQueueP6 : Int) (xQueueP7 : Int) (xQueueP8O : Option Addr) (xQueueP8L : Nat) (xQueueP8C : Nat) (xQueueP9 : Int),
    e5 = .returned (.tuple #[.agg #[.int .i64 xQueueP5, .int .i64 xQueueP6, .int .i64 xQueueP7, .slice xQueueP8O xQueueP8L xQueueP8C], .int .i64 xQueueP9]) ∧ Kept [b, b1, b2] wr7 wv5 ∧
    (∀ b3, wv5.heap.size ≤ b3 →
    (∃ (eqQueu : Bool),
    PureX [b, b1, b2] Try.prog fn_laws_eqQueue #[.agg #[.int .i64 xQueueP5, .int .i64 xQueueP6, .int .i64 xQueueP7, .slice xQueueP8O xQueueP8L xQueueP8C], .agg #[.int .i64 xQueueP, .int .i64 xQueueP1, .int .i64 xQueueP2, .slice xQueueP3O xQueueP3L xQueueP3C]] wv5 (.bool eqQueu) ∧
    (((!eqQueu) || (xQueueP9 != xQueueP4)) = true →
    (∀ wr8, ExtX [b, b1, b2] wv5 wr8 → R (.bool false) wr8)) ∧
    (((!eqQueu) || (xQueueP9 != xQueueP4)) = false →
    (∀ wr9, ExtX [b, b1, b2] wv5 wr9 → (∀ bq ∈ ([b, b1, b2, b3] : List Nat), bq < wr9.heap.size) → 
    Calls Try.prog fn_laws_toQueue #[.agg #[.int .i64 aQ0, .int .i64 aQ1, .int .i64 aQ2, .slice aQ3O aQ3L aQ3C]] wr9 fun e6 wv6 =>
    (∃ (toQueu10 : Int) (toQueu11 : Int) (toQueu12 : Int) (toQueu13O : Option Addr) (toQueu13L : Nat) (toQueu13C : Nat),
    e6 = .returned (.agg #[.int .i64 toQueu10, .int .i64 toQueu11, .int .i64 toQueu12, .slice toQueu13O toQueu13L toQueu13C]) ∧ Kept [b, b1, b2, b3] wr9 wv6 ∧
    (some (ty_impl_Queue, ([.int .i64 toQueu5, .int .i64 toQueu6, .int .i64 toQueu7, .slice toQueu8O toQueu8L toQueu8C] : List Value)) = some (ty_impl_Queue, ([.int .i64 toQueu5, .int .i64 toQueu6, .int .i64 toQueu7, .slice toQueu8O toQueu8L toQueu8C] : List Value))) ∧
    (∃ (eqQueu1 : Bool),
    PureX [b, b1, b2, b3] Try.prog fn_laws_eqQueue #[.agg #[.int .i64 toQueu5, .int .i64 toQueu6, .int .i64 toQueu7, .slice toQueu8O toQueu8L toQueu8C], .agg #[.int .i64 toQueu10, .int .i64 toQueu11, .int .i64 toQueu12, .slice toQueu13O toQueu13L toQueu13C]] wv6 (.bool eqQueu1) ∧
    ((!eqQueu1) = true →
    (∀ wr10, ExtX [b, b1, b2, b3] wv6 wr10 → R (.bool false) wr10)) ∧
    ((!eqQueu1) = false →
    (∀ wr11, ExtX [b, b1, b2, b3] wv6 wr11 → (∀ bq ∈ ([b, b1, b2, b3] : List Nat), bq < wr11.heap.size) → 
    Calls Try.prog fn_laws_toQueueOpS #[.slice aOpsO aOpsL aOpsC] wr11 fun e7 wv7 =>
    (∃ (toQueu14O : Option Addr) (toQueu14L : Nat) (toQueu14C : Nat),
    e7 = .returned (.slice toQueu14O toQueu14L toQueu14C) ∧ Kept [b, b1, b2, b3] wr11 wv7 ∧
    (∃ (eqQueu2 : Bool),
    PureX [b, b1, b2, b3] Try.prog fn_laws_eqQueueOpS #[.slice toQueu9O toQueu9L toQueu9C, .slice toQueu14O toQueu14L toQueu14C] wv7 (.bool eqQueu2) ∧
    ((!eqQueu2) = true →
    (∀ wr12, ExtX [b, b1, b2, b3] wv7 wr12 → R (.bool false) wr12)) ∧
    ((!eqQueu2) = false →
    (∀ wr13, ExtX [b, b1, b2, b3] wv7 wr13 → (∀ bq ∈ ([b, b1, b2, b3] : List Nat), bq < wr13.heap.size) → 
    Calls Try.prog fn_laws_markQueue #[.agg #[.int .i64 toQueu5, .int .i64 toQueu6, .int .i64 toQueu7, .slice toQueu8O toQueu8L toQueu8C], .int .i64 1] wr13 fun e8 wv8 =>
    (∃ (markQu : Int),
    e8 = .returned (.int .i64 markQu) ∧ Kept [b, b1, b2, b3] wr13 wv8 ∧
    (∀ wr14, ExtX [b, b1, b2, b3] wv8 wr14 → (∀ bq ∈ ([b, b1, b2, b3] : List Nat), bq < wr14.heap.size) → 
    Calls Try.prog fn_laws_markQueueOpS #[.slice toQueu9O toQueu9L toQueu9C, .int .i64 markQu] wr14 fun e9 wv9 =>
    (∃ (markQu1 : Int),
    e9 = .returned (.int .i64 markQu1) ∧ Kept [b, b1, b2, b3] wr14 wv9 ∧
    (∃ (eqQueu3 : Bool),
    ((decide (markQu1 < 0)) = false → PureX [b, b1, b2, b3] Try.prog fn_laws_eqQueue #[.agg #[.int .i64 xQueueP5, .int .i64 xQueueP6, .int .i64 xQueueP7, .slice xQueueP8O xQueueP8L xQueueP8C], .agg #[.int .i64 xQueueP, .int .i64 xQueueP1, .int .i64 xQueueP2, .slice xQueueP3O xQueueP3L xQueueP3C]] wv9 (.bool eqQueu3)) ∧
    ((((decide (markQu1 < 0)) || (!eqQueu3)) || (xQueueP9 != xQueueP4)) = true →
    (∀ wr15, ExtX [b, b1, b2, b3] wv9 wr15 → R (.bool false) wr15)) ∧
    ((((decide (markQu1 < 0)) || (!eqQueu3)) || (xQueueP9 != xQueueP4)) = false →
    (∀ wr16, ExtX [b, b1, b2, b3] wv9 wr16 → (∀ bq ∈ ([b, b1, b2, b3] : List Nat), bq < wr16.heap.size) → 
    Calls Try.prog fn_laws_markQueue #[.agg #[.int .i64 xQueueP5, .int .i64 xQueueP6, .int .i64 xQueueP7, .slice xQueueP8O xQueueP8L xQueueP8C], .int .i64 1] wr16 fun e10 wv10 =>
    (∃ (markQu2 : Int),
    e10 = .returned (.int .i64 markQu2) ∧ Kept [b, b1, b2, b3] wr16 wv10 ∧
    (∃ (heldQu : Int),
    PureX [b, b1, b2, b3] Try.prog fn_laws_heldQueue #[.agg #[.int .i64 xQueueP5, .int .i64 xQueueP6, .int .i64 xQueueP7, .slice xQueueP8O xQueueP8L xQueueP8C], .int .i64 1] wv10 (.int .i64 heldQu) ∧
    ((decide (heldQu < 0)) = true →
    (∀ wr17, ExtX [b, b1, b2, b3] wv10 wr17 → R (.bool false) wr17)) ∧
    ((decide (heldQu < 0)) = false →
    ((heldQu != markQu2) = true →
    (∀ wr18, ExtX [b, b1, b2, b3] wv10 wr18 → R (.bool false) wr18)) ∧
    ((heldQu != markQu2) = false →
    (∀ wr19, ExtX [b, b1, b2, b3] wv10 wr19 → (∀ bq ∈ ([b, b1, b2, b3] : List Nat), bq < wr19.heap.size) → 
    Calls Try.prog fn_laws_toQueue #[.agg #[.int .i64 aQ0, .int .i64 aQ1, .int .i64 aQ2, .slice aQ3O aQ3L aQ3C]] wr19 fun e11 wv11 =>
    (∃ (toQueu15 : Int) (toQueu16 : Int) (toQueu17 : Int) (toQueu18O : Option Addr) (toQueu18L : Nat) (toQueu18C : Nat),
    e11 = .returned (.agg #[.int .i64 toQueu15, .int .i64 toQueu16, .int .i64 toQueu17, .slice toQueu18O toQueu18L toQueu18C]) ∧ Kept [b, b1, b2, b3] wr19 wv11 ∧
    (∀ wr20, ExtX [b, b1, b2, b3] wv11 wr20 → (∀ bq ∈ ([b, b1, b2, b3] : List Nat), bq < wr20.heap.size) → 
    Calls Try.prog fn_laws_toQueueOpS #[.slice aOpsO aOpsL aOpsC] wr20 fun e12 wv12 =>
    (∃ (toQueu19O : Option Addr) (toQueu19L : Nat) (toQueu19C : Nat),
    e12 = .returned (.slice toQueu19O toQueu19L toQueu19C) ∧ Kept [b, b1, b2, b3] wr20 wv12 ∧
    (∀ wr21, ExtX [b, b1, b2, b3] wv12 wr21 → (∀ bq ∈ ([b, b1, b2, b3] : List Nat), bq < wr21.heap.size) → 
    Calls Try.prog fn_impl_QueuePlay #[.agg #[.int .i64 toQueu15, .int .i64 toQueu16, .int .i64 toQueu17, .slice toQueu18O toQueu18L toQueu18C], .slice toQueu19O toQueu19L toQueu19C] wr21 fun e13 wv13 =>
    (∃ (xQueueP10 : Int) (xQueueP11 : Int) (xQueueP12 : Int) (xQueueP13O : Option Addr) (xQueueP13L : Nat) (xQueueP13C : Nat) (xQueueP14 : Int),
    e13 = .returned (.tuple #[.agg #[.int .i64 xQueueP10, .int .i64 xQueueP11, .int .i64 xQueueP12, .slice xQueueP13O xQueueP13L xQueueP13C], .int .i64 xQueueP14]) ∧ Kept [b, b1, b2, b3] wr21 wv13 ∧
    (∀ b4, wv13.heap.size ≤ b4 →
    (∃ (eqQueu4 : Bool),
    PureX [b, b1, b2, b3] Try.prog fn_laws_eqQueue #[.agg #[.int .i64 xQueueP10, .int .i64 xQueueP11, .int .i64 xQueueP12, .slice xQueueP13O xQueueP13L xQueueP13C], .agg #[.int .i64 xQueueP, .int .i64 xQueueP1, .int .i64 xQueueP2, .slice xQueueP3O xQueueP3L xQueueP3C]] wv13 (.bool eqQueu4) ∧
    (((!eqQueu4) || (xQueueP14 != xQueueP4)) = true →
    (∀ wr22, ExtX [b, b1, b2, b3] wv13 wr22 → R (.bool false) wr22)) ∧
    (((!eqQueu4) || (xQueueP14 != xQueueP4)) = false →
    (∃ (heldQu1 : Int),
    PureX [b, b1, b2, b3] Try.prog fn_laws_heldQueue #[.agg #[.int .i64 xQueueP5, .int .i64 xQueueP6, .int .i64 xQueueP7, .slice xQueueP8O xQueueP8L xQueueP8C], .int .i64 1] wv13 (.int .i64 heldQu1) ∧
    ((decide (heldQu1 < 0)) = true →
    (∀ wr23, ExtX [b, b1, b2, b3] wv13 wr23 → R (.bool false) wr23)) ∧
    ((decide (heldQu1 < 0)) = false →
    ((heldQu1 != markQu2) = true →
    (∀ wr24, ExtX [b, b1, b2, b3] wv13 wr24 → R (.bool false) wr24)) ∧
    ((heldQu1 != markQu2) = false →
    (∀ wr25, ExtX [b, b1, b2, b3] wv13 wr25 → R (.bool true) wr25))))))))))))))))))))))))))))))))))))))))))))))))))))))
theorem v_laws_FnExactQueuePlay (aQ0 : Int) (aQ1 : Int) (aQ2 : Int) (aQ3O : Option Addr) (aQ3L : Nat) (aQ3C : Nat) (aOpsO : Option Addr) (aOpsL : Nat) (aOpsC : Nat) (w : World) (R : Value → World → Prop) : evFn c_laws_FnExactQueuePlay s_laws_FnExactQueuePlay [.agg #[.int .i64 aQ0, .int .i64 aQ1, .int .i64 aQ2, .slice aQ3O aQ3L aQ3C], .slice aOpsO aOpsL aOpsC] (bodyOf Try.f8) Try.f8.results.toList w R = V_laws_FnExactQueuePlay aQ0 aQ1 aQ2 aQ3O aQ3L aQ3C aOpsO aOpsL aOpsC w R := by kernel_rfl
theorem e_laws_FnExactQueuePlay (aQ0 : Int) (aQ1 : Int) (aQ2 : Int) (aQ3O : Option Addr) (aQ3L : Nat) (aQ3C : Nat) (aOpsO : Option Addr) (aOpsL : Nat) (aOpsC : Nat) {w : World} {R : Value → World → Prop} (hvc : V_laws_FnExactQueuePlay aQ0 aQ1 aQ2 aQ3O aQ3L aQ3C aOpsO aOpsL aOpsC w R) : Calls Try.prog fn_laws_FnExactQueuePlay #[.agg #[.int .i64 aQ0, .int .i64 aQ1, .int .i64 aQ2, .slice aQ3O aQ3L aQ3C], .slice aOpsO aOpsL aOpsC] w fun e0 wr0 => ∃ v0, e0 = .returned v0 ∧ R v0 wr0 :=
  eff_of_ev (C := c_laws_FnExactQueuePlay) (sps := s_laws_FnExactQueuePlay) (body := bodyOf Try.f8) (env _ _ _) Try.func8 rfl rfl (of_decide_eq_true (by kernel_rfl)) (of_decide_eq_true (by kernel_rfl)) rfl ((v_laws_FnExactQueuePlay aQ0 aQ1 aQ2 aQ3O aQ3L aQ3C aOpsO aOpsL aOpsC w _).mpr hvc)
noncomputable def c_impl_queueFirst_1 : Cfg := { P := Try.prog, T := tblGet tbl, pf := pfT, ef := efT, tt := ttT, vis := [], n := 33, pm := true }
noncomputable def s_impl_queueFirst_1 : List (Nat × LSpec) := []
def V_impl_queueFirst_1 (a : Int) (b : Int) (cap : Option Addr) (w : World) (R : Value → World → Prop) : Prop :=
    cap.isSome = true ∧
    (∃ (entriesO : Option Addr) (entriesL : Nat) (entriesC : Nat),
    CellsX [] w cap 3 [.slice entriesO entriesL entriesC] ∧
    Ix entriesO entriesL a ∧
    (∃ (v : Int),
    CellsX [] w entriesO (Int.toNat a * 4 + 1) [.int .i64 v] ∧
    cap.isSome = true ∧
    (∃ (entries1O : Option Addr) (entries1L : Nat) (entries1C : Nat),
    CellsX [] w cap 3 [.slice entries1O entries1L entries1C] ∧
    Ix entries1O entries1L b ∧
    (∃ (v1 : Int),
    CellsX [] w entries1O (Int.toNat b * 4 + 1) [.int .i64 v1] ∧
    R (.bool ((decide (v < v1)) || ((v == v1) && (decide (a < b))))) w))))
theorem v_impl_queueFirst_1 (a : Int) (b : Int) (cap : Option Addr) (w : World) (R : Value → World → Prop) : evFn c_impl_queueFirst_1 s_impl_queueFirst_1 [.int .i64 a, .int .i64 b, .pointer cap] (bodyOf Try.f120) Try.f120.results.toList w R = V_impl_queueFirst_1 a b cap w R := by kernel_rfl
theorem p_impl_queueFirst_1 (a : Int) (b : Int) (cap : Option Addr) {w : World} {bs : List Nat} {ret : Value} (hvc : ∀ wr0, ExtX bs w wr0 → V_impl_queueFirst_1 a b cap wr0 fun v0 _ => v0 = ret) : PureX bs Try.prog fn_impl_queueFirst_1 #[.int .i64 a, .int .i64 b, .pointer cap] w ret :=
  pure_of_ev (C := c_impl_queueFirst_1) (sps := s_impl_queueFirst_1) (body := bodyOf Try.f120) (env _ _ _) Try.func120 rfl rfl (of_decide_eq_true (by kernel_rfl)) (of_decide_eq_true (by kernel_rfl)) rfl fun wr0 hx0 => (v_impl_queueFirst_1 a b cap wr0 _).mpr (hvc wr0 hx0)
end Go.Proofs.Ythihcdljmddgfaa
