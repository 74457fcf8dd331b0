/- Printed by wip/tools/vc.py: what a function's text asks for. -/
import Derived.Test.YthihcdljmddgfaaTab
namespace Go.Proofs.Ythihcdljmddgfaa
open Go.RowKit
set_option maxRecDepth 100000
noncomputable def c_laws_FnExactQueueDo : Cfg := { P := Try.prog, T := tblGet tbl, pf := pfT, ef := efT, tt := ttT, vis := [], n := 104, pm := false }
noncomputable def s_laws_FnExactQueueDo : List (Nat × LSpec) := []
def V_laws_FnExactQueueDo (aQ0 : Int) (aQ1 : Int) (aQ2 : Int) (aQ3O : Option Addr) (aQ3L : Nat) (aQ3C : Nat) (aOp0 : Int) (aOp1 : Int) (aOp2 : Int) (w : World) (R : Value → World → Prop) : Prop :=
    (∀ b, w.heap.size ≤ b →
    (∀ b1, w.heap.size ≤ b1 →
    (∃ (szQueu : Int),
    PureX [] Try.prog fn_laws_szQueue #[.agg #[.int .i64 aQ0, .int .i64 aQ1, .int .i64 aQ2, .slice aQ3O aQ3L aQ3C], .int .i64 1048576] w (.int .i64 szQueu) ∧
    ((decide (szQueu < 0)) = true →
    (∀ wr, ExtX [] w wr → R (.bool true) wr)) ∧
    ((decide (szQueu < 0)) = false →
    ((∀ wr1, ExtX [] w wr1 → (∀ bq ∈ ([b, b1] : List Nat), bq < wr1.heap.size) → 
    Calls Try.prog fn_laws_toQueue #[.agg #[.int .i64 aQ0, .int .i64 aQ1, .int .i64 aQ2, .slice aQ3O aQ3L aQ3C]] wr1 fun e wv =>
    (∃ (toQueu : Int) (toQueu1 : Int) (toQueu2 : Int) (toQueu3O : Option Addr) (toQueu3L : Nat) (toQueu3C : Nat),
    e = .returned (.agg #[.int .i64 toQueu, .int .i64 toQueu1, .int .i64 toQueu2, .slice toQueu3O toQueu3L toQueu3C]) ∧ Kept [b, b1] wr1 wv ∧
    (some (ty_laws_QueueOp, ([.int .i64 aOp0, .int .i64 aOp1, .int .i64 aOp2] : List Value)) = some (ty_laws_QueueOp, ([.int .i64 aOp0, .int .i64 aOp1, .int .i64 aOp2] : List Value))) ∧
    (∃ (toQueu4 : Int) (toQueu5 : Int) (toQueu6 : Int),
    PureX [b, b1] Try.prog fn_laws_toQueueOp #[.agg #[.int .i64 aOp0, .int .i64 aOp1, .int .i64 aOp2]] wv (.agg #[.int .i64 toQueu4, .int .i64 toQueu5, .int .i64 toQueu6]) ∧
    ((∀ wr2, ExtX [b, b1] wv wr2 → (∀ bq ∈ ([b, b1] : List Nat), bq < wr2.heap.size) → 
    Calls Try.prog fn_spec_QueueDo #[.agg #[.int .i64 toQueu, .int .i64 toQueu1, .int .i64 toQueu2, .slice toQueu3O toQueu3L toQueu3C], .agg #[.int .i64 toQueu4, .int .i64 toQueu5, .int .i64 toQueu6]] wr2 fun e1 wv1 =>
    (∃ (xQueueD : Int) (xQueueD1 : Int) (xQueueD2 : Int) (xQueueD3O : Option Addr) (xQueueD3L : Nat) (xQueueD3C : Nat) (xQueueD4 : Bool),
    e1 = .returned (.tuple #[.agg #[.int .i64 xQueueD, .int .i64 xQueueD1, .int .i64 xQueueD2, .slice xQueueD3O xQueueD3L xQueueD3C], .bool xQueueD4]) ∧ Kept [b, b1] wr2 wv1 ∧
    (∀ b2, wv1.heap.size ≤ b2 →
    PureX [b, b1] Try.prog fn_laws_toQueueOp #[.agg #[.int .i64 aOp0, .int .i64 aOp1, .int .i64 aOp2]] wv1 (.agg #[.int .i64 toQueu4, .int .i64 toQueu5, .int .i64 toQueu6]) ∧
    (some (ty_laws_QueueOp, ([.int .i64 aOp0, .int .i64 aOp1, .int .i64 aOp2] : List Value)) = some (ty_laws_QueueOp, ([.int .i64 aOp0, .int .i64 aOp1, .int .i64 aOp2] : List Value))) ∧
    (some (ty_laws_Queue, ([.int .i64 aQ0, .int .i64 aQ1, .int .i64 aQ2, .slice aQ3O aQ3L aQ3C] : List Value)) = some (ty_laws_Queue, ([.int .i64 aQ0, .int .i64 aQ1, .int .i64 aQ2, .slice aQ3O aQ3L aQ3C] : List Value))) ∧
    (∀ wr3, ExtX [b, b1] wv1 wr3 → (∀ bq ∈ ([b, b1, b2] : List Nat), bq < wr3.heap.size) → 
    Calls Try.prog fn_laws_toQueue #[.agg #[.int .i64 aQ0, .int .i64 aQ1, .int .i64 aQ2, .slice aQ3O aQ3L aQ3C]] wr3 fun e2 wv2 =>
    (∃ (toQueu7 : Int) (toQueu8 : Int) (toQueu9 : Int) (toQueu10O : Option Addr) (toQueu10L : Nat) (toQueu10C : Nat),
    e2 = .returned (.agg #[.int .i64 toQueu7, .int .i64 toQueu8, .int .i64 toQueu9, .slice toQueu10O toQueu10L toQueu10C]) ∧ Kept [b, b1, b2] wr3 wv2 ∧
    (∀ b3, wv2.heap.size ≤ b3 →
    (∃ (toQueu11 : Int) (toQueu12 : Int) (toQueu13 : Int),
    PureX [b, b1, b2] Try.prog fn_laws_toQueueOp #[.agg #[.int .i64 aOp0, .int .i64 aOp1, .int .i64 aOp2]] wv2 (.agg #[.int .i64 toQueu11, .int .i64 toQueu12, .int .i64 toQueu13]) ∧
    ((∀ wr4, ExtX [b, b1, b2] wv2 wr4 → (∀ bq ∈ ([b, b1, b2, b3] : List Nat), bq < wr4.heap.size) → 
    Calls Try.prog fn_impl_QueueDo #[.agg #[.int .i64 toQueu7, .int .i64 toQueu8, .int .i64 toQueu9, .slice toQueu10O toQueu10L toQueu10C], .agg #[.int .i64 toQueu11, .int .i64 toQueu12, .int .i64 toQueu13]] wr4 fun e3 wv3 =>
    (∃ (xQueueD5 : Int) (xQueueD6 : Int) (xQueueD7 : Int) (xQueueD8O : Option Addr) (xQueueD8L : Nat) (xQueueD8C : Nat) (xQueueD9 : Bool),
    e3 = .returned (.tuple #[.agg #[.int .i64 xQueueD5, .int .i64 xQueueD6, .int .i64 xQueueD7, .slice xQueueD8O xQueueD8L xQueueD8C], .bool xQueueD9]) ∧ Kept [b, b1, b2, b3] wr4 wv3 ∧
    (∀ b4, wv3.heap.size ≤ b4 →
    PureX [b, b1, b2, b3] Try.prog fn_laws_toQueueOp #[.agg #[.int .i64 aOp0, .int .i64 aOp1, .int .i64 aOp2]] wv3 (.agg #[.int .i64 toQueu11, .int .i64 toQueu12, .int .i64 toQueu13]) ∧
    (some (ty_laws_QueueOp, ([.int .i64 aOp0, .int .i64 aOp1, .int .i64 aOp2] : List Value)) = some (ty_laws_QueueOp, ([.int .i64 aOp0, .int .i64 aOp1, .int .i64 aOp2] : List Value))) ∧
    (some (ty_impl_Queue, ([.int .i64 toQueu7, .int .i64 toQueu8, .int .i64 toQueu9, .slice toQueu10O toQueu10L toQueu10C] : List Value)) = some (ty_impl_Queue, ([.int .i64 toQueu7, .int .i64 toQueu8, .int .i64 toQueu9, .slice toQueu10O toQueu10L toQueu10C] : List Value))) ∧
    (∃ (eqQueu : Bool),
    PureX [b, b1, b2, b3] Try.prog fn_laws_eqQueue #[.agg #[.int .i64 xQueueD5, .int .i64 xQueueD6, .int .i64 xQueueD7, .slice xQueueD8O xQueueD8L xQueueD8C], .agg #[.int .i64 xQueueD, .int .i64 xQueueD1, .int .i64 xQueueD2, .slice xQueueD3O xQueueD3L xQueueD3C]] wv3 (.bool eqQueu) ∧
    (((!eqQueu) || (!(xQueueD9 == xQueueD4))) = true →
    (∀ wr5, ExtX [b, b1, b2, b3] wv3 wr5 → R (.bool false) wr5)) ∧
    (((!eqQueu) || (!(xQueueD9 == xQueueD4))) = false →
    (∀ wr6, ExtX [b, b1, b2, b3] wv3 wr6 → (∀ bq ∈ ([b, b1, b2, b3, b4] : List Nat), bq < wr6.heap.size) → 
    Calls Try.prog fn_laws_toQueue #[.agg #[.int .i64 aQ0, .int .i64 aQ1, .int .i64 aQ2, .slice aQ3O aQ3L aQ3C]] wr6 fun e4 wv4 =>
    (∃ (toQueu14 : Int) (toQueu15 : Int) (toQueu16 : Int) (toQueu17O : Option Addr) (toQueu17L : Nat) (toQueu17C : Nat),
    e4 = .returned (.agg #[.int .i64 toQueu14, .int .i64 toQueu15, .int .i64 toQueu16, .slice toQueu17O toQueu17L toQueu17C]) ∧ Kept [b, b1, b2, b3, b4] wr6 wv4 ∧
    (some (ty_impl_Queue, ([.int .i64 toQueu7, .int .i64 toQueu8, .int .i64 toQueu9, .slice toQueu10O toQueu10L toQueu10C] : List Value)) = some (ty_impl_Queue, ([.int .i64 toQueu7, .int .i64 toQueu8, .int .i64 toQueu9, .slice toQueu10O toQueu10L toQueu10C] : List Value))) ∧
    (∃ (eqQueu1 : Bool),
    PureX [b, b1, b2, b3, b4] Try.prog fn_laws_eqQueue #[.agg #[.int .i64 toQueu7, .int .i64 toQueu8, .int .i64 toQueu9, .slice toQueu10O toQueu10L toQueu10C], .agg #[.int .i64 toQueu14, .int .i64 toQueu15, .int .i64 toQueu16, .slice toQueu17O toQueu17L toQueu17C]] wv4 (.bool eqQueu1) ∧
    ((!eqQueu1) = true →
    (∀ wr7, ExtX [b, b1, b2, b3, b4] wv4 wr7 → R (.bool false) wr7)) ∧
    ((!eqQueu1) = false →
    (∀ wr8, ExtX [b, b1, b2, b3, b4] wv4 wr8 → (∀ bq ∈ ([b, b1, b2, b3, b4] : List Nat), bq < wr8.heap.size) → 
    Calls Try.prog fn_laws_markQueue #[.agg #[.int .i64 toQueu7, .int .i64 toQueu8, .int .i64 toQueu9, .slice toQueu10O toQueu10L toQueu10C], .int .i64 1] wr8 fun e5 wv5 =>
    (∃ (markQu : Int),
    e5 = .returned (.int .i64 markQu) ∧ Kept [b, b1, b2, b3, b4] wr8 wv5 ∧
    (∃ (eqQueu2 : Bool),
    ((decide (markQu < 0)) = false → PureX [b, b1, b2, b3, b4] Try.prog fn_laws_eqQueue #[.agg #[.int .i64 xQueueD5, .int .i64 xQueueD6, .int .i64 xQueueD7, .slice xQueueD8O xQueueD8L xQueueD8C], .agg #[.int .i64 xQueueD, .int .i64 xQueueD1, .int .i64 xQueueD2, .slice xQueueD3O xQueueD3L xQueueD3C]] wv5 (.bool eqQueu2)) ∧
    ((((decide (markQu < 0)) || (!eqQueu2)) || (!(xQueueD9 == xQueueD4))) = true →
    (∀ wr9, ExtX [b, b1, b2, b3, b4] wv5 wr9 → R (.bool false) wr9)) ∧
    ((((decide (markQu < 0)) || (!eqQueu2)) || (!(xQueueD9 == xQueueD4))) = false →
    (∀ wr10, ExtX [b, b1, b2, b3, b4] wv5 wr10 → (∀ bq ∈ ([b, b1, b2, b3, b4] : List Nat), bq < wr10.heap.size) → 
    Calls Try.prog fn_laws_markQueue #[.agg #[.int .i64 xQueueD5, .int .i64 xQueueD6, .int .i64 xQueueD7, .slice xQueueD8O xQueueD8L xQueueD8C], .int .i64 1] wr10 fun e6 wv6 =>
    (∃ (markQu1 : Int),
    e6 = .returned (.int .i64 markQu1) ∧ Kept [b, b1, b2, b3, b4] wr10 wv6 ∧
    (∃ (heldQu : Int),
    PureX [b, b1, b2, b3, b4] Try.prog fn_laws_heldQueue #[.agg #[.int .i64 xQueueD5, .int .i64 xQueueD6, .int .i64 xQueueD7, .slice xQueueD8O xQueueD8L xQueueD8C], .int .i64 1] wv6 (.int .i64 heldQu) ∧
    ((decide (heldQu < 0)) = true →
    (∀ wr11, ExtX [b, b1, b2, b3, b4] wv6 wr11 → R (.bool false) wr11)) ∧
    ((decide (heldQu < 0)) = false →
    ((heldQu != markQu1) = true →
    (∀ wr12, ExtX [b, b1, b2, b3, b4] wv6 wr12 → R (.bool false) wr12)) ∧
    ((heldQu != markQu1) = false →
    ((∀ wr13, ExtX [b, b1, b2, b3, b4] wv6 wr13 → (∀ bq ∈ ([b, b1, b2, b3, b4] : List Nat), bq < wr13.heap.size) → 
    Calls Try.prog fn_laws_toQueue #[.agg #[.int .i64 aQ0, .int .i64 aQ1, .int .i64 aQ2, .slice aQ3O aQ3L aQ3C]] wr13 fun e7 wv7 =>
    (∃ (toQueu18 : Int) (toQueu19 : Int) (toQueu20 : Int) (toQueu21O : Option Addr) (toQueu21L : Nat) (toQueu21C : Nat),
    e7 = .returned (.agg #[.int .i64 toQueu18, .int .i64 toQueu19, .int .i64 toQueu20, .slice toQueu21O toQueu21L toQueu21C]) ∧ Kept [b, b1, b2, b3, b4] wr13 wv7 ∧
    (some (ty_laws_QueueOp, ([.int .i64 aOp0, .int .i64 aOp1, .int .i64 aOp2] : List Value)) = some (ty_laws_QueueOp, ([.int .i64 aOp0, .int .i64 aOp1, .int .i64 aOp2] : List Value))) ∧
    (∃ (toQueu22 : Int) (toQueu23 : Int) (toQueu24 : Int),
    PureX [b, b1, b2, b3, b4] Try.prog fn_laws_toQueueOp #[.agg #[.int .i64 aOp0, .int .i64 aOp1, .int .i64 aOp2]] wv7 (.agg #[.int .i64 toQueu22, .int .i64 toQueu23, .int .i64 toQueu24]) ∧
    ((∀ wr14, ExtX [b, b1, b2, b3, b4] wv7 wr14 → (∀ bq ∈ ([b, b1, b2, b3, b4] : List Nat), bq < wr14.heap.size) → 
    Calls Try.prog fn_impl_QueueDo #[.agg #[.int .i64 toQueu18, .int .i64 toQueu19, .int .i64 toQueu20, .slice toQueu21O toQueu21L toQueu21C], .agg #[.int .i64 toQueu22, .int .i64 toQueu23, .int .i64 toQueu24]] wr14 fun e8 wv8 =>
    (∃ (xQueueD10 : Int) (xQueueD11 : Int) (xQueueD12 : Int) (xQueueD13O : Option Addr) (xQueueD13L : Nat) (xQueueD13C : Nat) (xQueueD14 : Bool),
    e8 = .returned (.tuple #[.agg #[.int .i64 xQueueD10, .int .i64 xQueueD11, .int .i64 xQueueD12, .slice xQueueD13O xQueueD13L xQueueD13C], .bool xQueueD14]) ∧ Kept [b, b1, b2, b3, b4] wr14 wv8 ∧
    (∀ b5, wv8.heap.size ≤ b5 →
    PureX [b, b1, b2, b3, b4] Try.prog fn_laws_toQueueOp #[.agg #[.int .i64 aOp0, .int .i64 aOp1, .int .i64 aOp2]] wv8 (.agg #[.int .i64 toQueu22, .int .i64 toQueu23, .int .i64 toQueu24]) ∧
    (some (ty_laws_QueueOp, ([.int .i64 aOp0, .int .i64 aOp1, .int .i64 aOp2] : List Value)) = some (ty_laws_QueueOp, ([.int .i64 aOp0, .int .i64 aOp1, .int .i64 aOp2] : List Value))) ∧
    (some (ty_laws_Queue, ([.int .i64 aQ0, .int .i64 aQ1, .int .i64 aQ2, .slice aQ3O aQ3L aQ3C] : List Value)) = some (ty_laws_Queue, ([.int .i64 aQ0, .int .i64 aQ1, .int .i64 aQ2, .slice aQ3O aQ3L aQ3C] : List Value))) ∧
    (∃ (eqQueu3 : Bool),
    PureX [b, b1, b2, b3, b4] Try.prog fn_laws_eqQueue #[.agg #[.int .i64 xQueueD10, .int .i64 xQueueD11, .int .i64 xQueueD12, .slice xQueueD13O xQueueD13L xQueueD13C], .agg #[.int .i64 xQueueD, .int .i64 xQueueD1, .int .i64 xQueueD2, .slice xQueueD3O xQueueD3L xQueueD3C]] wv8 (.bool eqQueu3) ∧
    (((!eqQueu3) || (!(xQueueD14 == xQueueD4))) = true →
    (∀ wr15, ExtX [b, b1, b2, b3, b4] wv8 wr15 → R (.bool false) wr15)) ∧
    (((!eqQueu3) || (!(xQueueD14 == xQueueD4))) = false →
    (∃ (heldQu1 : Int),
    PureX [b, b1, b2, b3, b4] Try.prog fn_laws_heldQueue #[.agg #[.int .i64 xQueueD5, .int .i64 xQueueD6, .int .i64 xQueueD7, .slice xQueueD8O xQueueD8L xQueueD8C], .int .i64 1] wv8 (.int .i64 heldQu1) ∧
    ((decide (heldQu1 < 0)) = true →
    (∀ wr16, ExtX [b, b1, b2, b3, b4] wv8 wr16 → R (.bool false) wr16)) ∧
    ((decide (heldQu1 < 0)) = false →
    ((heldQu1 != markQu1) = true →
    (∀ wr17, ExtX [b, b1, b2, b3, b4] wv8 wr17 → R (.bool false) wr17)) ∧
    ((heldQu1 != markQu1) = false →
    (∀ wr18, ExtX [b, b1, b2, b3, b4] wv8 wr18 → R (.bool true) wr18)))))))))) ∧
    ((∀ b6, wv7.heap.size ≤ b6 →
    PureX [b, b1, b2, b3, b4] Try.prog fn_laws_toQueueOp #[.agg #[.int .i64 aOp0, .int .i64 aOp1, .int .i64 aOp2]] wv7 (.agg #[.int .i64 toQueu22, .int .i64 toQueu23, .int .i64 toQueu24]) ∧
    (some (ty_laws_QueueOp, ([.int .i64 aOp0, .int .i64 aOp1, .int .i64 aOp2] : List Value)) = some (ty_laws_QueueOp, ([.int .i64 aOp0, .int .i64 aOp1, .int .i64 aOp2] : List Value))) ∧
    (some (ty_laws_Queue, ([.int .i64 aQ0, .int .i64 aQ1, .int .i64 aQ2, .slice aQ3O aQ3L aQ3C] : List Value)) = some (ty_laws_Queue, ([.int .i64 aQ0, .int .i64 aQ1, .int .i64 aQ2, .slice aQ3O aQ3L aQ3C] : List Value))) ∧
    (∀ wr19, ExtX [b, b1, b2, b3, b4] wv7 wr19 → (∀ bq ∈ ([b, b1, b2, b3, b4, b6] : List Nat), bq < wr19.heap.size) → 
    Calls Try.prog fn_impl_QueueDo #[.agg #[.int .i64 toQueu18, .int .i64 toQueu19, .int .i64 toQueu20, .slice toQueu21O toQueu21L toQueu21C], .agg #[.int .i64 toQueu22, .int .i64 toQueu23, .int .i64 toQueu24]] wr19 fun e9 wv9 =>
    (∃ (xQueueD15 : Int) (xQueueD16 : Int) (xQueueD17 : Int) (xQueueD18O : Option Addr) (xQueueD18L : Nat) (xQueueD18C : Nat) (xQueueD19 : Bool),
    e9 = .returned (.tuple #[.agg #[.int .i64 xQueueD15, .int .i64 xQueueD16, .int .i64 xQueueD17, .slice xQueueD18O xQueueD18L xQueueD18C], .bool xQueueD19]) ∧ Kept [b, b1, b2, b3, b4, b6] wr19 wv9 ∧
    (∃ (eqQueu4 : Bool),
    PureX [b, b1, b2, b3, b4, b6] Try.prog fn_laws_eqQueue #[.agg #[.int .i64 xQueueD15, .int .i64 xQueueD16, .int .i64 xQueueD17, .slice xQueueD18O xQueueD18L xQueueD18C], .agg #[.int .i64 xQueueD, .int .i64 xQueueD1, .int .i64 xQueueD2, .slice xQueueD3O xQueueD3L xQueueD3C]] wv9 (.bool eqQueu4) ∧
    (((!eqQueu4) || (!(xQueueD19 == xQueueD4))) = true →
    (∀ wr20, ExtX [b, b1, b2, b3, b4, b6] wv9 wr20 → R (.bool false) wr20)) ∧
    (((!eqQueu4) || (!(xQueueD19 == xQueueD4))) = false →
    (∃ (heldQu2 : Int),
    PureX [b, b1, b2, b3, b4, b6] Try.prog fn_laws_heldQueue #[.agg #[.int .i64 xQueueD5, .int .i64 xQueueD6, .int .i64 xQueueD7, .slice xQueueD8O xQueueD8L xQueueD8C], .int .i64 1] wv9 (.int .i64 heldQu2) ∧
    ((decide (heldQu2 < 0)) = true →
    (∀ wr21, ExtX [b, b1, b2, b3, b4, b6] wv9 wr21 → R (.bool false) wr21)) ∧
    ((decide (heldQu2 < 0)) = false →
    ((heldQu2 != markQu1) = true →
    (∀ wr22, ExtX [b, b1, b2, b3, b4, b6] wv9 wr22 → R (.bool false) wr22)) ∧
    ((heldQu2 != markQu1) = false →
    (∀ wr23, ExtX [b, b1, b2, b3, b4, b6] wv9 wr23 → R (.bool true) wr23)))))))))))))) ∧
    ((∀ b7, wv6.heap.size ≤ b7 →
    (some (ty_laws_QueueOp, ([.int .i64 aOp0, .int .i64 aOp1, .int .i64 aOp2] : List Value)) = some (ty_laws_QueueOp, ([.int .i64 aOp0, .int .i64 aOp1, .int .i64 aOp2] : List Value))) ∧
    (some (ty_laws_Queue, ([.int .i64 aQ0, .int .i64 aQ1, .int .i64 aQ2, .slice aQ3O aQ3L aQ3C] : List Value)) = some (ty_laws_Queue, ([.int .i64 aQ0, .int .i64 aQ1, .int .i64 aQ2, .slice aQ3O aQ3L aQ3C] : List Value))) ∧
    (∀ wr24, ExtX [b, b1, b2, b3, b4] wv6 wr24 → (∀ bq ∈ ([b, b1, b2, b3, b4, b7] : List Nat), bq < wr24.heap.size) → 
    Calls Try.prog fn_laws_toQueue #[.agg #[.int .i64 aQ0, .int .i64 aQ1, .int .i64 aQ2, .slice aQ3O aQ3L aQ3C]] wr24 fun e10 wv10 =>
    (∃ (toQueu25 : Int) (toQueu26 : Int) (toQueu27 : Int) (toQueu28O : Option Addr) (toQueu28L : Nat) (toQueu28C : Nat),
    e10 = .returned (.agg #[.int .i64 toQueu25, .int .i64 toQueu26, .int .i64 toQueu27, .slice toQueu28O toQueu28L toQueu28C]) ∧ Kept [b, b1, b2, b3, b4, b7] wr24 wv10 ∧
    (some (ty_laws_QueueOp, ([.int .i64 aOp0, .int .i64 aOp1, .int .i64 aOp2] : List Value)) = some (ty_laws_QueueOp, ([.int .i64 aOp0, .int .i64 aOp1, .int .i64 aOp2] : List Value))) ∧
    (∃ (toQueu29 : Int) (toQueu30 : Int) (toQueu31 : Int),
    PureX [b, b1, b2, b3, b4, b7] Try.prog fn_laws_toQueueOp #[.agg #[.int .i64 aOp0, .int .i64 aOp1, .int .i64 aOp2]] wv10 (.agg #[.int .i64 toQueu29, .int .i64 toQueu30, .int .i64 toQueu31]) ∧
    (∀ wr25, ExtX [b, b1, b2, b3, b4, b7] wv10 wr25 → (∀ bq ∈ ([b, b1, b2, b3, b4, b7] : List Nat), bq < wr25.heap.size) → 
    Calls Try.prog fn_impl_QueueDo #[.agg #[.int .i64 toQueu25, .int .i64 toQueu26, .int .i64 toQueu27, .slice toQueu28O toQueu28L toQueu28C], .agg #[.int .i64 toQueu29, .int .i64 toQueu30, .int .i64 toQueu31]] wr25 fun e11 wv11 =>
    (∃ (xQueueD20 : Int) (xQueueD21 : Int) (xQueueD22 : Int) (xQueueD23O : Option Addr) (xQueueD23L : Nat) (xQueueD23C : Nat) (xQueueD24 : Bool),
    e11 = .returned (.tuple #[.agg #[.int .i64 xQueueD20, .int .i64 xQueueD21, .int .i64 xQueueD22, .slice xQueueD23O xQueueD23L xQueueD23C], .bool xQueueD24]) ∧ Kept [b, b1, b2, b3, b4, b7] wr25 wv11 ∧
    (∃ (eqQueu5 : Bool),
    PureX [b, b1, b2, b3, b4, b7] Try.prog fn_laws_eqQueue #[.agg #[.int .i64 xQueueD20, .int .i64 xQueueD21, .int .i64 xQueueD22, .slice xQueueD23O xQueueD23L xQueueD23C], .agg #[.int .i64 xQueueD, .int .i64 xQueueD1, .int .i64 xQueueD2, .slice xQueueD3O xQueueD3L xQueueD3C]] wv11 (.bool eqQueu5) ∧
    (((!eqQueu5) || (!(xQueueD24 == xQueueD4))) = true →
    (∀ wr26, ExtX [b, b1, b2, b3, b4, b7] wv11 wr26 → R (.bool false) wr26)) ∧
    (((!eqQueu5) || (!(xQueueD24 == xQueueD4))) = false →
    (∃ (heldQu3 : Int),
    PureX [b, b1, b2, b3, b4, b7] Try.prog fn_laws_heldQueue #[.agg #[.int .i64 xQueueD5, .int .i64 xQueueD6, .int .i64 xQueueD7, .slice xQueueD8O xQueueD8L xQueueD8C], .int .i64 1] wv11 (.int .i64 heldQu3) ∧
    ((decide (heldQu3 < 0)) = true →
    (∀ wr27, ExtX [b, b1, b2, b3, b4, b7] wv11 wr27 → R (.bool false) wr27)) ∧
    ((decide (heldQu3 < 0)) = false →
    ((heldQu3 != markQu1) = true →
    (∀ wr28, ExtX [b, b1, b2, b3, b4, b7] wv11 wr28 → R (.bool false) wr28)) ∧
    ((heldQu3 != markQu1) = false →
    (∀ wr29, ExtX [b, b1, b2, b3, b4, b7] wv11 wr29 → R (.bool true) wr29)))))))))))))))))))))))))))))))) ∧
    ((∀ b8, wv2.heap.size ≤ b8 →
    PureX [b, b1, b2] Try.prog fn_laws_toQueueOp #[.agg #[.int .i64 aOp0, .int .i64 aOp1, .int .i64 aOp2]] wv2 (.agg #[.int .i64 toQueu11, .int .i64 toQueu12, .int .i64 toQueu13]) ∧
    (some (ty_laws_QueueOp, ([.int .i64 aOp0, .int .i64 aOp1, .int .i64 aOp2] : List Value)) = some (ty_laws_QueueOp, ([.int .i64 aOp0, .int .i64 aOp1, .int .i64 aOp2] : List Value))) ∧
    (some (ty_impl_Queue, ([.int .i64 toQueu7, .int .i64 toQueu8, .int .i64 toQueu9, .slice toQueu10O toQueu10L toQueu10C] : List Value)) = some (ty_impl_Queue, ([.int .i64 toQueu7, .int .i64 toQueu8, .int .i64 toQueu9, .slice toQueu10O toQueu10L toQueu10C] : List Value))) ∧
    (∀ wr30, ExtX [b, b1, b2] wv2 wr30 → (∀ bq ∈ ([b, b1, b2, b3, b8] : List Nat), bq < wr30.heap.size) → 
    Calls Try.prog fn_impl_QueueDo #[.agg #[.int .i64 toQueu7, .int .i64 toQueu8, .int .i64 toQueu9, .slice toQueu10O toQueu10L toQueu10C], .agg #[.int .i64 toQueu11, .int .i64 toQueu12, .int .i64 toQueu13]] wr30 fun e12 wv12 =>
    (∃ (xQueueD25 : Int) (xQueueD26 : Int) (xQueueD27 : Int) (xQueueD28O : Option Addr) (xQueueD28L : Nat) (xQueueD28C : Nat) (xQueueD29 : Bool),
    e12 = .returned (.tuple #[.agg #[.int .i64 xQueueD25, .int .i64 xQueueD26, .int .i64 xQueueD27, .slice xQueueD28O xQueueD28L xQueueD28C], .bool xQueueD29]) ∧ Kept [b, b1, b2, b3, b8] wr30 wv12 ∧
    (∃ (eqQueu6 : Bool),
    PureX [b, b1, b2, b3, b8] Try.prog fn_laws_eqQueue #[.agg #[.int .i64 xQueueD25, .int .i64 xQueueD26, .int .i64 xQueueD27, .slice xQueueD28O xQueueD28L xQueueD28C], .agg #[.int .i64 xQueueD, .int .i64 xQueueD1, .int .i64 xQueueD2, .slice xQueueD3O xQueueD3L xQueueD3C]] wv12 (.bool eqQueu6) ∧
    (((!eqQueu6) || (!(xQueueD29 == xQueueD4))) = true →
    (∀ wr31, ExtX [b, b1, b2, b3, b8] wv12 wr31 → R (.bool false) wr31)) ∧
    (((!eqQueu6) || (!(xQueueD29 == xQueueD4))) = false →
    (∀ wr32, ExtX [b, b1, b2, b3, b8] wv12 wr32 → (∀ bq ∈ ([b, b1, b2, b3, b8] : List Nat), bq < wr32.heap.size) → 
    Calls Try.prog fn_laws_toQueue #[.agg #[.int .i64 aQ0, .int .i64 aQ1, .int .i64 aQ2, .slice aQ3O aQ3L aQ3C]] wr32 fun e13 wv13 =>
    (∃ (toQueu32 : Int) (toQueu33 : Int) (toQueu34 : Int) (toQueu35O : Option Addr) (toQueu35L : Nat) (toQueu35C : Nat),
    e13 = .returned (.agg #[.int .i64 toQueu32, .int .i64 toQueu33, .int .i64 toQueu34, .slice toQueu35O toQueu35L toQueu35C]) ∧ Kept [b, b1, b2, b3, b8] wr32 wv13 ∧
    (some (ty_impl_Queue, ([.int .i64 toQueu7, .int .i64 toQueu8, .int .i64 toQueu9, .slice toQueu10O toQueu10L toQueu10C] : List Value)) = some (ty_impl_Queue, ([.int .i64 toQueu7, .int .i64 toQueu8, .int .i64 toQueu9, .slice toQueu10O toQueu10L toQueu10C] : List Value))) ∧
    (∃ (eqQueu7 : Bool),
    PureX [b, b1, b2, b3, b8] Try.prog fn_laws_eqQueue #[.agg #[.int .i64 toQueu7, .int .i64 toQueu8, .int .i64 toQueu9, .slice toQueu10O toQueu10L toQueu10C], .agg #[.int .i64 toQueu32, .int .i64 toQueu33, .int .i64 toQueu34, .slice toQueu35O toQueu35L toQueu35C]] wv13 (.bool eqQueu7) ∧
    ((!eqQueu7) = true →
    (∀ wr33, ExtX [b, b1, b2, b3, b8] wv13 wr33 → R (.bool false) wr33)) ∧
    ((!eqQueu7) = false →
    (∀ wr34, ExtX [b, b1, b2, b3, b8] wv13 wr34 → (∀ bq ∈ ([b, b1, b2, b3, b8] : List Nat), bq < wr34.heap.size) → 
    Calls Try.prog fn_laws_markQueue #[.agg #[.int .i64 toQueu7, .int .i64 toQueu8, .int .i64 toQueu9, .slice toQueu10O toQueu10L toQueu10C], .int .i64 1] wr34 fun e14 wv14 =>
    (∃ (markQu2 : Int),
    e14 = .returned (.int .i64 markQu2) ∧ Kept [b, b1, b2, b3, b8] wr34 wv14 ∧
    (∃ (eqQueu8 : Bool),
    ((decide (markQu2 < 0)) = false → PureX [b, b1, b2, b3, b8] Try.prog fn_laws_eqQueue #[.agg #[.int .i64 xQueueD25, .int .i64 xQueueD26, .int .i64 xQueueD27, .slice xQueueD28O xQueueD28L xQueueD28C], .agg #[.int .i64 xQueueD, .int .i64 xQueueD1, .int .i64 xQueueD2, .slice xQueueD3O xQueueD3L xQueueD3C]] wv14 (.bool eqQueu8)) ∧
    ((((decide (markQu2 < 0)) || (!eqQueu8)) || (!(xQueueD29 == xQueueD4))) = true →
    (∀ wr35, ExtX [b, b1, b2, b3, b8] wv14 wr35 → R (.bool false) wr35)) ∧
    ((((decide (markQu2 < 0)) || (!eqQueu8)) || (!(xQueueD29 == xQueueD4))) = false →
    (∀ wr36, ExtX [b, b1, b2, b3, b8] wv14 wr36 → (∀ bq ∈ ([b, b1, b2, b3, b8] : List Nat), bq < wr36.heap.size) → 
    Calls Try.prog fn_laws_markQueue #[.agg #[.int .i64 xQueueD25, .int .i64 xQueueD26, .int .i64 xQueueD27, .slice xQueueD28O xQueueD28L xQueueD28C], .int .i64 1] wr36 fun e15 wv15 =>
    (∃ (markQu3 : Int),
    e15 = .returned (.int .i64 markQu3) ∧ Kept [b, b1, b2, b3, b8] wr36 wv15 ∧
    (∃ (heldQu4 : Int),
    PureX [b, b1, b2, b3, b8] Try.prog fn_laws_heldQueue #[.agg #[.int .i64 xQueueD25, .int .i64 xQueueD26, .int .i64 xQueueD27, .slice xQueueD28O xQueueD28L xQueueD28C], .int .i64 1] wv15 (.int .i64 heldQu4) ∧
    ((decide (heldQu4 < 0)) = true →
    (∀ wr37, ExtX [b, b1, b2, b3, b8] wv15 wr37 → R (.bool false) wr37)) ∧
    ((decide (heldQu4 < 0)) = false →
    ((heldQu4 != markQu3) = true →
    (∀ wr38, ExtX [b, b1, b2, b3, b8] wv15 wr38 → R (.bool false) wr38)) ∧
    ((heldQu4 != markQu3) = false →
    ((∀ wr39, ExtX [b, b1, b2, b3, b8] wv15 wr39 → (∀ bq ∈ ([b, b1, b2, b3, b8] : List Nat), bq < wr39.heap.size) → 
    Calls Try.prog fn_laws_toQueue #[.agg #[.int .i64 aQ0, .int .i64 aQ1, .int .i64 aQ2, .slice aQ3O aQ3L aQ3C]] wr39 fun e16 wv16 =>
    (∃ (toQueu36 : Int) (toQueu37 : Int) (toQueu38 : Int) (toQueu39O : Option Addr) (toQueu39L : Nat) (toQueu39C : Nat),
    e16 = .returned (.agg #[.int .i64 toQueu36, .int .i64 toQueu37, .int .i64 toQueu38, .slice toQueu39O toQueu39L toQueu39C]) ∧ Kept [b, b1, b2, b3, b8] wr39 wv16 ∧
    (some (ty_laws_QueueOp, ([.int .i64 aOp0, .int .i64 aOp1, .int .i64 aOp2] : List Value)) = some (ty_laws_QueueOp, ([.int .i64 aOp0, .int .i64 aOp1, .int .i64 aOp2] : List Value))) ∧
    (∃ (toQueu40 : Int) (toQueu41 : Int) (toQueu42 : Int),
    PureX [b, b1, b2, b3, b8] Try.prog fn_laws_toQueueOp #[.agg #[.int .i64 aOp0, .int .i64 aOp1, .int .i64 aOp2]] wv16 (.agg #[.int .i64 toQueu40, .int .i64 toQueu41, .int .i64 toQueu42]) ∧
    ((∀ wr40, ExtX [b, b1, b2, b3, b8] wv16 wr40 → (∀ bq ∈ ([b, b1, b2, b3, b8] : List Nat), bq < wr40.heap.size) → 
    Calls Try.prog fn_impl_QueueDo #[.agg #[.int .i64 toQueu36, .int .i64 toQueu37, .int .i64 toQueu38, .slice toQueu39O toQueu39L toQueu39C], .agg #[.int .i64 toQueu40, .int .i64 toQueu41, .int .i64 toQueu42]] wr40 fun e17 wv17 =>
    (∃ (xQueueD30 : Int) (xQueueD31 : Int) (xQueueD32 : Int) (xQueueD33O : Option Addr) (xQueueD33L : Nat) (xQueueD33C : Nat) (xQueueD34 : Bool),
    e17 = .returned (.tuple #[.agg #[.int .i64 xQueueD30, .int .i64 xQueueD31, .int .i64 xQueueD32, .slice xQueueD33O xQueueD33L xQueueD33C], .bool xQueueD34]) ∧ Kept [b, b1, b2, b3, b8] wr40 wv17 ∧
    (∀ b9, wv17.heap.size ≤ b9 →
    PureX [b, b1, b2, b3, b8] Try.prog fn_laws_toQueueOp #[.agg #[.int .i64 aOp0, .int .i64 aOp1, .int .i64 aOp2]] wv17 (.agg #[.int .i64 toQueu40, .int .i64 toQueu41, .int .i64 toQueu42]) ∧
    (some (ty_laws_QueueOp, ([.int .i64 aOp0, .int .i64 aOp1, .int .i64 aOp2] : List Value)) = some (ty_laws_QueueOp, ([.int .i64 aOp0, .int .i64 aOp1, .int .i64 aOp2] : List Value))) ∧
    (some (ty_laws_Queue, ([.int .i64 aQ0, .int .i64 aQ1, .int .i64 aQ2, .slice aQ3O aQ3L aQ3C] : List Value)) = some (ty_laws_Queue, ([.int .i64 aQ0, .int .i64 aQ1, .int .i64 aQ2, .slice aQ3O aQ3L aQ3C] : List Value))) ∧
    (∃ (eqQueu9 : Bool),
    PureX [b, b1, b2, b3, b8] Try.prog fn_laws_eqQueue #[.agg #[.int .i64 xQueueD30, .int .i64 xQueueD31, .int .i64 xQueueD32, .slice xQueueD33O xQueueD33L xQueueD33C], .agg #[.int .i64 xQueueD, .int .i64 xQueueD1, .int .i64 xQueueD2, .slice xQueueD3O xQueueD3L xQueueD3C]] wv17 (.bool eqQueu9) ∧
    (((!eqQueu9) || (!(xQueueD34 == xQueueD4))) = true →
    (∀ wr41, ExtX [b, b1, b2, b3, b8] wv17 wr41 → R (.bool false) wr41)) ∧
    (((!eqQueu9) || (!(xQueueD34 == xQueueD4))) = false →
    (∃ (heldQu5 : Int),
    PureX [b, b1, b2, b3, b8] Try.prog fn_laws_heldQueue #[.agg #[.int .i64 xQueueD25, .int .i64 xQueueD26, .int .i64 xQueueD27, .slice xQueueD28O xQueueD28L xQueueD28C], .int .i64 1] wv17 (.int .i64 heldQu5) ∧
    ((decide (heldQu5 < 0)) = true →
    (∀ wr42, ExtX [b, b1, b2, b3, b8] wv17 wr42 → R (.bool false) wr42)) ∧
    ((decide (heldQu5 < 0)) = false →
    ((heldQu5 != markQu3) = true →
    (∀ wr43, ExtX [b, b1, b2, b3, b8] wv17 wr43 → R (.bool false) wr43)) ∧
    ((heldQu5 != markQu3) = false →
    (∀ wr44, ExtX [b, b1, b2, b3, b8] wv17 wr44 → R (.bool true) wr44)))))))))) ∧
    ((∀ b10, wv16.heap.size ≤ b10 →
    PureX [b, b1, b2, b3, b8] Try.prog fn_laws_toQueueOp #[.agg #[.int .i64 aOp0, .int .i64 aOp1, .int .i64 aOp2]] wv16 (.agg #[.int .i64 toQueu40, .int .i64 toQueu41, .int .i64 toQueu42]) ∧
    (some (ty_laws_QueueOp, ([.int .i64 aOp0, .int .i64 aOp1, .int .i64 aOp2] : List Value)) = some (ty_laws_QueueOp, ([.int .i64 aOp0, .int .i64 aOp1, .int .i64 aOp2] : List Value))) ∧
    (some (ty_laws_Queue, ([.int .i64 aQ0, .int .i64 aQ1, .int .i64 aQ2, .slice aQ3O aQ3L aQ3C] : List Value)) = some (ty_laws_Queue, ([.int .i64 aQ0, .int .i64 aQ1, .int .i64 aQ2, .slice aQ3O aQ3L aQ3C] : List Value))) ∧
    (∀ wr45, ExtX [b, b1, b2, b3, b8] wv16 wr45 → (∀ bq ∈ ([b, b1, b2, b3, b8, b10] : List Nat), bq < wr45.heap.size) → 
    Calls Try.prog fn_impl_QueueDo #[.agg #[.int .i64 toQueu36, .int .i64 toQueu37, .int .i64 toQueu38, .slice toQueu39O toQueu39L toQueu39C], .agg #[.int .i64 toQueu40, .int .i64 toQueu41, .int .i64 toQueu42]] wr45 fun e18 wv18 =>
    (∃ (xQueueD35 : Int) (xQueueD36 : Int) (xQueueD37 : Int) (xQueueD38O : Option Addr) (xQueueD38L : Nat) (xQueueD38C : Nat) (xQueueD39 : Bool),
    e18 = .returned (.tuple #[.agg #[.int .i64 xQueueD35, .int .i64 xQueueD36, .int .i64 xQueueD37, .slice xQueueD38O xQueueD38L xQueueD38C], .bool xQueueD39]) ∧ Kept [b, b1, b2, b3, b8, b10] wr45 wv18 ∧
    (∃ (eqQueu10 : Bool),
    PureX [b, b1, b2, b3, b8, b10] Try.prog fn_laws_eqQueue #[.agg #[.int .i64 xQueueD35, .int .i64 xQueueD36, .int .i64 xQueueD37, .slice xQueueD38O xQueueD38L xQueueD38C], .agg #[.int .i64 xQueueD, .int .i64 xQueueD1, .int .i64 xQueueD2, .slice xQueueD3O xQueueD3L xQueueD3C]] wv18 (.bool eqQueu10) ∧
    (((!eqQueu10) || (!(xQueueD39 == xQueueD4))) = true →
    (∀ wr46, ExtX [b, b1, b2, b3, b8, b10] wv18 wr46 → R (.bool false) wr46)) ∧
    (((!eqQueu10) || (!(xQueueD39 == xQueueD4))) = false →
    (∃ (heldQu6 : Int),
    PureX [b, b1, b2, b3, b8, b10] Try.prog fn_laws_heldQueue #[.agg #[.int .i64 xQueueD25, .int .i64 xQueueD26, .int .i64 xQueueD27, .slice xQueueD28O xQueueD28L xQueueD28C], .int .i64 1] wv18 (.int .i64 heldQu6) ∧
    ((decide (heldQu6 < 0)) = true →
    (∀ wr47, ExtX [b, b1, b2, b3, b8, b10] wv18 wr47 → R (.bool false) wr47)) ∧
    ((decide (heldQu6 < 0)) = false →
    ((heldQu6 != markQu3) = true →
    (∀ wr48, ExtX [b, b1, b2, b3, b8, b10] wv18 wr48 → R (.bool false) wr48)) ∧
    ((heldQu6 != markQu3) = false →
    (∀ wr49, ExtX [b, b1, b2, b3, b8, b10] wv18 wr49 → R (.bool true) wr49)))))))))))))) ∧
    ((∀ b11, wv15.heap.size ≤ b11 →
    (some (ty_laws_QueueOp, ([.int .i64 aOp0, .int .i64 aOp1, .int .i64 aOp2] : List Value)) = some (ty_laws_QueueOp, ([.int .i64 aOp0, .int .i64 aOp1, .int .i64 aOp2] : List Value))) ∧
    (some (ty_laws_Queue, ([.int .i64 aQ0, .int .i64 aQ1, .int .i64 aQ2, .slice aQ3O aQ3L aQ3C] : List Value)) = some (ty_laws_Queue, ([.int .i64 aQ0, .int .i64 aQ1, .int .i64 aQ2, .slice aQ3O aQ3L aQ3C] : List Value))) ∧
    (∀ wr50, ExtX [b, b1, b2, b3, b8] wv15 wr50 → (∀ bq ∈ ([b, b1, b2, b3, b8, b11] : List Nat), bq < wr50.heap.size) → 
    Calls Try.prog fn_laws_toQueue #[.agg #[.int .i64 aQ0, .int .i64 aQ1, .int .i64 aQ2, .slice aQ3O aQ3L aQ3C]] wr50 fun e19 wv19 =>
    (∃ (toQueu43 : Int) (toQueu44 : Int) (toQueu45 : Int) (toQueu46O : Option Addr) (toQueu46L : Nat) (toQueu46C : Nat),
    e19 = .returned (.agg #[.int .i64 toQueu43, .int .i64 toQueu44, .int .i64 toQueu45, .slice toQueu46O toQueu46L toQueu46C]) ∧ Kept [b, b1, b2, b3, b8, b11] wr50 wv19 ∧
    (some (ty_laws_QueueOp, ([.int .i64 aOp0, .int .i64 aOp1, .int .i64 aOp2] : List Value)) = some (ty_laws_QueueOp, ([.int .i64 aOp0, .int .i64 aOp1, .int .i64 aOp2] : List Value))) ∧
    (∃ (toQueu47 : Int) (toQueu48 : Int) (toQueu49 : Int),
    PureX [b, b1, b2, b3, b8, b11] Try.prog fn_laws_toQueueOp #[.agg #[.int .i64 aOp0, .int .i64 aOp1, .int .i64 aOp2]] wv19 (.agg #[.int .i64 toQueu47, .int .i64 toQueu48, .int .i64 toQueu49]) ∧
    (∀ wr51, ExtX [b, b1, b2, b3, b8, b11] wv19 wr51 → (∀ bq ∈ ([b, b1, b2, b3, b8, b11] : List Nat), bq < wr51.heap.size) → 
    Calls Try.prog fn_impl_QueueDo #[.agg #[.int .i64 toQueu43, .int .i64 toQueu44, .int .i64 toQueu45, .slice toQueu46O toQueu46L toQueu46C], .agg #[.int .i64 toQueu47, .int .i64 toQueu48, .int .i64 toQueu49]] wr51 fun e20 wv20 =>
    (∃ (xQueueD40 : Int) (xQueueD41 : Int) (xQueueD42 : Int) (xQueueD43O : Option Addr) (xQueueD43L : Nat) (xQueueD43C : Nat) (xQueueD44 : Bool),
    e20 = .returned (.tuple #[.agg #[.int .i64 xQueueD40, .int .i64 xQueueD41, .int .i64 xQueueD42, .slice xQueueD43O xQueueD43L xQueueD43C], .bool xQueueD44]) ∧ Kept [b, b1, b2, b3, b8, b11] wr51 wv20 ∧
    (∃ (eqQueu11 : Bool),
    PureX [b, b1, b2, b3, b8, b11] Try.prog fn_laws_eqQueue #[.agg #[.int .i64 xQueueD40, .int .i64 xQueueD41, .int .i64 xQueueD42, .slice xQueueD43O xQueueD43L xQueueD43C], .agg #[.int .i64 xQueueD, .int .i64 xQueueD1, .int .i64 xQueueD2, .slice xQueueD3O xQueueD3L xQueueD3C]] wv20 (.bool eqQueu11) ∧
    (((!eqQueu11) || (!(xQueueD44 == xQueueD4))) = true →
    (∀ wr52, ExtX [b, b1, b2, b3, b8, b11] wv20 wr52 → R (.bool false) wr52)) ∧
    (((!eqQueu11) || (!(xQueueD44 == xQueueD4))) = false →
    (∃ (heldQu7 : Int),
    PureX [b, b1, b2, b3, b8, b11] Try.prog fn_laws_heldQueue #[.agg #[.int .i64 xQueueD25, .int .i64 xQueueD26, .int .i64 xQueueD27, .slice xQueueD28O xQueueD28L xQueueD28C], .int .i64 1] wv20 (.int .i64 heldQu7) ∧
    ((decide (heldQu7 < 0)) = true →
    (∀ wr53, ExtX [b, b1, b2, b3, b8, b11] wv20 wr53 → R (.bool false) wr53)) ∧
    ((decide (heldQu7 < 0)) = false →
    ((heldQu7 != markQu3) = true →
    (∀ wr54, ExtX [b, b1, b2, b3, b8, b11] wv20 wr54 → R (.bool false) wr54)) ∧
    ((heldQu7 != markQu3) = false →
    (∀ wr55, ExtX [b, b1, b2, b3, b8, b11] wv20 wr55 → R (.bool true) wr55)))))))))))))))))))))))))))))))))))))))) ∧
    ((∀ b12, wv.heap.size ≤ b12 →
    PureX [b, b1] Try.prog fn_laws_toQueueOp #[.agg #[.int .i64 aOp0, .int .i64 aOp1, .int .i64 aOp2]] wv (.agg #[.int .i64 toQueu4, .int .i64 toQueu5, .int .i64 toQueu6]) ∧
    (some (ty_laws_QueueOp, ([.int .i64 aOp0, .int .i64 aOp1, .int .i64 aOp2] : List Value)) = some (ty_laws_QueueOp, ([.int .i64 aOp0, .int .i64 aOp1, .int .i64 aOp2] : List Value))) ∧
    (some (ty_laws_Queue, ([.int .i64 aQ0, .int .i64 aQ1, .int .i64 aQ2, .slice aQ3O aQ3L aQ3C] : List Value)) = some (ty_laws_Queue, ([.int .i64 aQ0, .int .i64 aQ1, .int .i64 aQ2, .slice aQ3O aQ3L aQ3C] : List Value))) ∧
    (∀ wr56, ExtX [b, b1] wv wr56 → (∀ bq ∈ ([b, b1, b12] : List Nat), bq < wr56.heap.size) → 
    Calls Try.prog fn_spec_QueueDo #[.agg #[.int .i64 toQueu, .int .i64 toQueu1, .int .i64 toQueu2, .slice toQueu3O toQueu3L toQueu3C], .agg #[.int .i64 toQueu4, .int .i64 toQueu5, .int .i64 toQueu6]] wr56 fun e21 wv21 =>
    (∃ (xQueueD45 : Int) (xQueueD46 : Int) (xQueueD47 : Int) (xQueueD48O : Option Addr) (xQueueD48L : Nat) (xQueueD48C : Nat) (xQueueD49 : Bool),
    e21 = .returned (.tuple #[.agg #[.int .i64 xQueueD45, .int .i64 xQueueD46, .int .i64 xQueueD47, .slice xQueueD48O xQueueD48L xQueueD48C], .bool xQueueD49]) ∧ Kept [b, b1, b12] wr56 wv21 ∧
    (∀ wr57, ExtX [b, b1, b12] wv21 wr57 → (∀ bq ∈ ([b, b1, b12] : List Nat), bq < wr57.heap.size) → 
    Calls Try.prog fn_laws_toQueue #[.agg #[.int .i64 aQ0, .int .i64 aQ1, .int .i64 aQ2, .slice aQ3O aQ3L aQ3C]] wr57 fun e22 wv22 =>
    (∃ (toQueu50 : Int) (toQueu51 : Int) (toQueu52 : Int) (toQueu53O : Option Addr) (toQueu53L : Nat) (toQueu53C : Nat),
    e22 = .returned (.agg #[.int .i64 toQueu50, .int .i64 toQueu51, .int .i64 toQueu52, .slice toQueu53O toQueu53L toQueu53C]) ∧ Kept [b, b1, b12] wr57 wv22 ∧
    (∀ b13, wv22.heap.size ≤ b13 →
    (∃ (toQueu54 : Int) (toQueu55 : Int) (toQueu56 : Int),
    PureX [b, b1, b12] Try.prog fn_laws_toQueueOp #[.agg #[.int .i64 aOp0, .int .i64 aOp1, .int .i64 aOp2]] wv22 (.agg #[.int .i64 toQueu54, .int .i64 toQueu55, .int .i64 toQueu56]) ∧
    ((∀ wr58, ExtX [b, b1, b12] wv22 wr58 → (∀ bq ∈ ([b, b1, b12, b13] : List Nat), bq < wr58.heap.size) → 
    Calls Try.prog fn_impl_QueueDo #[.agg #[.int .i64 toQueu50, .int .i64 toQueu51, .int .i64 toQueu52, .slice toQueu53O toQueu53L toQueu53C], .agg #[.int .i64 toQueu54, .int .i64 toQueu55, .int .i64 toQueu56]] wr58 fun e23 wv23 =>
    (∃ (xQueueD50 : Int) (xQueueD51 : Int) (xQueueD52 : Int) (xQueueD53O : Option Addr) (xQueueD53L : Nat) (xQueueD53C : Nat) (xQueueD54 : Bool),
    e23 = .returned (.tuple #[.agg #[.int .i64 xQueueD50, .int .i64 xQueueD51, .int .i64 xQueueD52, .slice xQueueD53O xQueueD53L xQueueD53C], .bool xQueueD54]) ∧ Kept [b, b1, b12, b13] wr58 wv23 ∧
    (∀ b14, wv23.heap.size ≤ b14 →
    PureX [b, b1, b12, b13] Try.prog fn_laws_toQueueOp #[.agg #[.int .i64 aOp0, .int .i64 aOp1, .int .i64 aOp2]] wv23 (.agg #[.int .i64 toQueu54, .int .i64 toQueu55, .int .i64 toQueu56]) ∧
    (some (ty_laws_QueueOp, ([.int .i64 aOp0, .int .i64 aOp1, .int .i64 aOp2] : List Value)) = some (ty_laws_QueueOp, ([.int .i64 aOp0, .int .i64 aOp1, .int .i64 aOp2] : List Value))) ∧
    (some (ty_impl_Queue, ([.int .i64 toQueu50, .int .i64 toQueu51, .int .i64 toQueu52, .slice toQueu53O toQueu53L toQueu53C] : List Value)) = some (ty_impl_Queue, ([.int .i64 toQueu50, .int .i64 toQueu51, .int .i64 toQueu52, .slice toQueu53O toQueu53L toQueu53C] : List Value))) ∧
    (∃ (eqQueu12 : Bool),
    PureX [b, b1, b12, b13] Try.prog fn_laws_eqQueue #[.agg #[.int .i64 xQueueD50, .int .i64 xQueueD51, .int .i64 xQueueD52, .slice xQueueD53O xQueueD53L xQueueD53C], .agg #[.int .i64 xQueueD45, .int .i64 xQueueD46, .int .i64 xQueueD47, .slice xQueueD48O xQueueD48L xQueueD48C]] wv23 (.bool eqQueu12) ∧
    (((!eqQueu12) || (!(xQueueD54 == xQueueD49))) = true →
    (∀ wr59, ExtX [b, b1, b12, b13] wv23 wr59 → R (.bool false) wr59)) ∧
    (((!eqQueu12) || (!(xQueueD54 == xQueueD49))) = false →
    (∀ wr60, ExtX [b, b1, b12, b13] wv23 wr60 → (∀ bq ∈ ([b, b1, b12, b13, b14] : List Nat), bq < wr60.heap.size) → 
    Calls Try.prog fn_laws_toQueue #[.agg #[.int .i64 aQ0, .int .i64 aQ1, .int .i64 aQ2, .slice aQ3O aQ3L aQ3C]] wr60 fun e24 wv24 =>
    (∃ (toQueu57 : Int) (toQueu58 : Int) (toQueu59 : Int) (toQueu60O : Option Addr) (toQueu60L : Nat) (toQueu60C : Nat),
    e24 = .returned (.agg #[.int .i64 toQueu57, .int .i64 toQueu58, .int .i64 toQueu59, .slice toQueu60O toQueu60L toQueu60C]) ∧ Kept [b, b1, b12, b13, b14] wr60 wv24 ∧
    (some (ty_impl_Queue, ([.int .i64 toQueu50, .int .i64 toQueu51, .int .i64 toQueu52, .slice toQueu53O toQueu53L toQueu53C] : List Value)) = some (ty_impl_Queue, ([.int .i64 toQueu50, .int .i64 toQueu51, .int .i64 toQueu52, .slice toQueu53O toQueu53L toQueu53C] : List Value))) ∧
    (∃ (eqQueu13 : Bool),
    PureX [b, b1, b12, b13, b14] Try.prog fn_laws_eqQueue #[.agg #[.int .i64 toQueu50, .int .i64 toQueu51, .int .i64 toQueu52, .slice toQueu53O toQueu53L toQueu53C], .agg #[.int .i64 toQueu57, .int .i64 toQueu58, .int .i64 toQueu59, .slice toQueu60O toQueu60L toQueu60C]] wv24 (.bool eqQueu13) ∧
    ((!eqQueu13) = true →
    (∀ wr61, ExtX [b, b1, b12, b13, b14] wv24 wr61 → R (.bool false) wr61)) ∧
    ((!eqQueu13) = false →
    (∀ wr62, ExtX [b, b1, b12, b13, b14] wv24 wr62 → (∀ bq ∈ ([b, b1, b12, b13, b14] : List Nat), bq < wr62.heap.size) → 
    Calls Try.prog fn_laws_markQueue #[.agg #[.int .i64 toQueu50, .int .i64 toQueu51, .int .i64 toQueu52, .slice toQueu53O toQueu53L toQueu53C], .int .i64 1] wr62 fun e25 wv25 =>
    (∃ (markQu4 : Int),
    e25 = .returned (.int .i64 markQu4) ∧ Kept [b, b1, b12, b13, b14] wr62 wv25 ∧
    (∃ (eqQueu14 : Bool),
    ((decide (markQu4 < 0)) = false → PureX [b, b1, b12, b13, b14] Try.prog fn_laws_eqQueue #[.agg #[.int .i64 xQueueD50, .int .i64 xQueueD51, .int .i64 xQueueD52, .slice xQueueD53O xQueueD53L xQueueD53C], .agg #[.int .i64 xQueueD45, .int .i64 xQueueD46, .int .i64 xQueueD47, .slice xQueueD48O xQueueD48L xQueueD48C]] wv25 (.bool eqQueu14)) ∧
    ((((decide (markQu4 < 0)) || (!eqQueu14)) || (!(xQueueD54 == xQueueD49))) = true →
    (∀ wr63, ExtX [b, b1, b12, b13, b14] wv25 wr63 → R (.bool false) wr63)) ∧
    ((((decide (markQu4 < 0)) || (!eqQueu14)) || (!(xQueueD54 == xQueueD49))) = false →
    (∀ wr64, ExtX [b, b1, b12, b13, b14] wv25 wr64 → (∀ bq ∈ ([b, b1, b12, b13, b14] : List Nat), bq < wr64.heap.size) → 
    Calls Try.prog fn_laws_markQueue #[.agg #[.int .i64 xQueueD50, .int .i64 xQueueD51, .int .i64 xQueueD52, .slice xQueueD53O xQueueD53L xQueueD53C], .int .i64 1] wr64 fun e26 wv26 =>
    (∃ (markQu5 : Int),
    e26 = .returned (.int .i64 markQu5) ∧ Kept [b, b1, b12, b13, b14] wr64 wv26 ∧
    (∃ (heldQu8 : Int),
    PureX [b, b1, b12, b13, b14] Try.prog fn_laws_heldQueue #[.agg #[.int .i64 xQueueD50, .int .i64 xQueueD51, .int .i64 xQueueD52, .slice xQueueD53O xQueueD53L xQueueD53C], .int .i64 1] wv26 (.int .i64 heldQu8) ∧
    ((decide (heldQu8 < 0)) = true →
    (∀ wr65, ExtX [b, b1, b12, b13, b14] wv26 wr65 → R (.bool false) wr65)) ∧
    ((decide (heldQu8 < 0)) = false →
    ((heldQu8 != markQu5) = true →
    (∀ wr66, ExtX [b, b1, b12, b13, b14] wv26 wr66 → R (.bool false) wr66)) ∧
    ((heldQu8 != markQu5) = false →
    ((∀ wr67, ExtX [b, b1, b12, b13, b14] wv26 wr67 → (∀ bq ∈ ([b, b1, b12, b13, b14] : List Nat), bq < wr67.heap.size) → 
    Calls Try.prog fn_laws_toQueue #[.agg #[.int .i64 aQ0, .int .i64 aQ1, .int .i64 aQ2, .slice aQ3O aQ3L aQ3C]] wr67 fun e27 wv27 =>
    (∃ (toQueu61 : Int) (toQueu62 : Int) (toQueu63 : Int) (toQueu64O : Option Addr) (toQueu64L : Nat) (toQueu64C : Nat),
    e27 = .returned (.agg #[.int .i64 toQueu61, .int .i64 toQueu62, .int .i64 toQueu63, .slice toQueu64O toQueu64L toQueu64C]) ∧ Kept [b, b1, b12, b13, b14] wr67 wv27 ∧
    (some (ty_laws_QueueOp, ([.int .i64 aOp0, .int .i64 aOp1, .int .i64 aOp2] : List Value)) = some (ty_laws_QueueOp, ([.int .i64 aOp0, .int .i64 aOp1, .int .i64 aOp2] : List Value))) ∧
    (∃ (toQueu65 : Int) (toQueu66 : Int) (toQueu67 : Int),
    PureX [b, b1, b12, b13, b14] Try.prog fn_laws_toQueueOp #[.agg #[.int .i64 aOp0, .int .i64 aOp1, .int .i64 aOp2]] wv27 (.agg #[.int .i64 toQueu65, .int .i64 toQueu66, .int .i64 toQueu67]) ∧
    ((∀ wr68, ExtX [b, b1, b12, b13, b14] wv27 wr68 → (∀ bq ∈ ([b, b1, b12, b13, b14] : List Nat), bq < wr68.heap.size) → 
    Calls Try.prog fn_impl_QueueDo #[.agg #[.int .i64 toQueu61, .int .i64 toQueu62, .int .i64 toQueu63, .slice toQueu64O toQueu64L toQueu64C], .agg #[.int .i64 toQueu65, .int .i64 toQueu66, .int .i64 toQueu67]] wr68 fun e28 wv28 =>
    (∃ (xQueueD55 : Int) (xQueueD56 : Int) (xQueueD57 : Int) (xQueueD58O : Option Addr) (xQueueD58L : Nat) (xQueueD58C : Nat) (xQueueD59 : Bool),
    e28 = .returned (.tuple #[.agg #[.int .i64 xQueueD55, .int .i64 xQueueD56, .int .i64 xQueueD57, .slice xQueueD58O xQueueD58L xQueueD58C], .bool xQueueD59]) ∧ Kept [b, b1, b12, b13, b14] wr68 wv28 ∧
    (∀ b15, wv28.heap.size ≤ b15 →
    PureX [b, b1, b12, b13, b14] Try.prog fn_laws_toQueueOp #[.agg #[.int .i64 aOp0, .int .i64 aOp1, .int .i64 aOp2]] wv28 (.agg #[.int .i64 toQueu65, .int .i64 toQueu66, .int .i64 toQueu67]) ∧
    (some (ty_laws_QueueOp, ([.int .i64 aOp0, .int .i64 aOp1, .int .i64 aOp2] : List Value)) = some (ty_laws_QueueOp, ([.int .i64 aOp0, .int .i64 aOp1, .int .i64 aOp2] : List Value))) ∧
    (some (ty_laws_Queue, ([.int .i64 aQ0, .int .i64 aQ1, .int .i64 aQ2, .slice aQ3O aQ3L aQ3C] : List Value)) = some (ty_laws_Queue, ([.int .i64 aQ0, .int .i64 aQ1, .int .i64 aQ2, .slice aQ3O aQ3L aQ3C] : List Value))) ∧
    (∃ (eqQueu15 : Bool),
    PureX [b, b1, b12, b13, b14] Try.prog fn_laws_eqQueue #[.agg #[.int .i64 xQueueD55, .int .i64 xQueueD56, .int .i64 xQueueD57, .slice xQueueD58O xQueueD58L xQueueD58C], .agg #[.int .i64 xQueueD45, .int .i64 xQueueD46, .int .i64 xQueueD47, .slice xQueueD48O xQueueD48L xQueueD48C]] wv28 (.bool eqQueu15) ∧
    (((!eqQueu15) || (!(xQueueD59 == xQueueD49))) = true →
    (∀ wr69, ExtX [b, b1, b12, b13, b14] wv28 wr69 → R (.bool false) wr69)) ∧
    (((!eqQueu15) || (!(xQueueD59 == xQueueD49))) = false →
    (∃ (heldQu9 : Int),
    PureX [b, b1, b12, b13, b14] Try.prog fn_laws_heldQueue #[.agg #[.int .i64 xQueueD50, .int .i64 xQueueD51, .int .i64 xQueueD52, .slice xQueueD53O xQueueD53L xQueueD53C], .int .i64 1] wv28 (.int .i64 heldQu9) ∧
    ((decide (heldQu9 < 0)) = true →
    (∀ wr70, ExtX [b, b1, b12, b13, b14] wv28 wr70 → R (.bool false) wr70)) ∧
    ((decide (heldQu9 < 0)) = false →
    ((heldQu9 != markQu5) = true →
    (∀ wr71, ExtX [b, b1, b12, b13, b14] wv28 wr71 → R (.bool false) wr71)) ∧
    ((heldQu9 != markQu5) = false →
    (∀ wr72, ExtX [b, b1, b12, b13, b14] wv28 wr72 → R (.bool true) wr72)))))))))) ∧
    ((∀ b16, wv27.heap.size ≤ b16 →
    PureX [b, b1, b12, b13, b14] Try.prog fn_laws_toQueueOp #[.agg #[.int .i64 aOp0, .int .i64 aOp1, .int .i64 aOp2]] wv27 (.agg #[.int .i64 toQueu65, .int .i64 toQueu66, .int .i64 toQueu67]) ∧
    (some (ty_laws_QueueOp, ([.int .i64 aOp0, .int .i64 aOp1, .int .i64 aOp2] : List Value)) = some (ty_laws_QueueOp, ([.int .i64 aOp0, .int .i64 aOp1, .int .i64 aOp2] : List Value))) ∧
    (some (ty_laws_Queue, ([.int .i64 aQ0, .int .i64 aQ1, .int .i64 aQ2, .slice aQ3O aQ3L aQ3C] : List Value)) = some (ty_laws_Queue, ([.int .i64 aQ0, .int .i64 aQ1, .int .i64 aQ2, .slice aQ3O aQ3L aQ3C] : List Value))) ∧
    (∀ wr73, ExtX [b, b1, b12, b13, b14] wv27 wr73 → (∀ bq ∈ ([b, b1, b12, b13, b14, b16] : List Nat), bq < wr73.heap.size) → 
    Calls Try.prog fn_impl_QueueDo #[.agg #[.int .i64 toQueu61, .int .i64 toQueu62, .int .i64 toQueu63, .slice toQueu64O toQueu64L toQueu64C], .agg #[.int .i64 toQueu65, .int .i64 toQueu66, .int .i64 toQueu67]] wr73 fun e29 wv29 =>
    (∃ (xQueueD60 : Int) (xQueueD61 : Int) (xQueueD62 : Int) (xQueueD63O : Option Addr) (xQueueD63L : Nat) (xQueueD63C : Nat) (xQueueD64 : Bool),
    e29 = .returned (.tuple #[.agg #[.int .i64 xQueueD60, .int .i64 xQueueD61, .int .i64 xQueueD62, .slice xQueueD63O xQueueD63L xQueueD63C], .bool xQueueD64]) ∧ Kept [b, b1, b12, b13, b14, b16] wr73 wv29 ∧
    (∃ (eqQueu16 : Bool),
    PureX [b, b1, b12, b13, b14, b16] Try.prog fn_laws_eqQueue #[.agg #[.int .i64 xQueueD60, .int .i64 xQueueD61, .int .i64 xQueueD62, .slice xQueueD63O xQueueD63L xQueueD63C], .agg #[.int .i64 xQueueD45, .int .i64 xQueueD46, .int .i64 xQueueD47, .slice xQueueD48O xQueueD48L xQueueD48C]] wv29 (.bool eqQueu16) ∧
    (((!eqQueu16) || (!(xQueueD64 == xQueueD49))) = true →
    (∀ wr74, ExtX [b, b1, b12, b13, b14, b16] wv29 wr74 → R (.bool false) wr74)) ∧
    (((!eqQueu16) || (!(xQueueD64 == xQueueD49))) = false →
    (∃ (heldQu10 : Int),
    PureX [b, b1, b12, b13, b14, b16] Try.prog fn_laws_heldQueue #[.agg #[.int .i64 xQueueD50, .int .i64 xQueueD51, .int .i64 xQueueD52, .slice xQueueD53O xQueueD53L xQueueD53C], .int .i64 1] wv29 (.int .i64 heldQu10) ∧
    ((decide (heldQu10 < 0)) = true →
    (∀ wr75, ExtX [b, b1, b12, b13, b14, b16] wv29 wr75 → R (.bool false) wr75)) ∧
    ((decide (heldQu10 < 0)) = false →
    ((heldQu10 != markQu5) = true →
    (∀ wr76, ExtX [b, b1, b12, b13, b14, b16] wv29 wr76 → R (.bool false) wr76)) ∧
    ((heldQu10 != markQu5) = false →
    (∀ wr77, ExtX [b, b1, b12, b13, b14, b16] wv29 wr77 → R (.bool true) wr77)))))))))))))) ∧
    ((∀ b17, wv26.heap.size ≤ b17 →
    (some (ty_laws_QueueOp, ([.int .i64 aOp0, .int .i64 aOp1, .int .i64 aOp2] : List Value)) = some (ty_laws_QueueOp, ([.int .i64 aOp0, .int .i64 aOp1, .int .i64 aOp2] : List Value))) ∧
    (some (ty_laws_Queue, ([.int .i64 aQ0, .int .i64 aQ1, .int .i64 aQ2, .slice aQ3O aQ3L aQ3C] : List Value)) = some (ty_laws_Queue, ([.int .i64 aQ0, .int .i64 aQ1, .int .i64 aQ2, .slice aQ3O aQ3L aQ3C] : List Value))) ∧
    (∀ wr78, ExtX [b, b1, b12, b13, b14] wv26 wr78 → (∀ bq ∈ ([b, b1, b12, b13, b14, b17] : List Nat), bq < wr78.heap.size) → 
    Calls Try.prog fn_laws_toQueue #[.agg #[.int .i64 aQ0, .int .i64 aQ1, .int .i64 aQ2, .slice aQ3O aQ3L aQ3C]] wr78 fun e30 wv30 =>
    (∃ (toQueu68 : Int) (toQueu69 : Int) (toQueu70 : Int) (toQueu71O : Option Addr) (toQueu71L : Nat) (toQueu71C : Nat),
    e30 = .returned (.agg #[.int .i64 toQueu68, .int .i64 toQueu69, .int .i64 toQueu70, .slice toQueu71O toQueu71L toQueu71C]) ∧ Kept [b, b1, b12, b13, b14, b17] wr78 wv30 ∧
    (some (ty_laws_QueueOp, ([.int .i64 aOp0, .int .i64 aOp1, .int .i64 aOp2] : List Value)) = some (ty_laws_QueueOp, ([.int .i64 aOp0, .int .i64 aOp1, .int .i64 aOp2] : List Value))) ∧
    (∃ (toQueu72 : Int) (toQueu73 : Int) (toQueu74 : Int),
    PureX [b, b1, b12, b13, b14, b17] Try.prog fn_laws_toQueueOp #[.agg #[.int .i64 aOp0, .int .i64 aOp1, .int .i64 aOp2]] wv30 (.agg #[.int .i64 toQueu72, .int .i64 toQueu73, .int .i64 toQueu74]) ∧
    (∀ wr79, ExtX [b, b1, b12, b13, b14, b17] wv30 wr79 → (∀ bq ∈ ([b, b1, b12, b13, b14, b17] : List Nat), bq < wr79.heap.size) → 
    Calls Try.prog fn_impl_QueueDo #[.agg #[.int .i64 toQueu68, .int .i64 toQueu69, .int .i64 toQueu70, .slice toQueu71O toQueu71L toQueu71C], .agg #[.int .i64 toQueu72, .int .i64 toQueu73, .int .i64 toQueu74]] wr79 fun e31 wv31 =>
    (∃ (xQueueD65 : Int) (xQueueD66 : Int) (xQueueD67 : Int) (xQueueD68O : Option Addr) (xQueueD68L : Nat) (xQueueD68C : Nat) (xQueueD69 : Bool),
    e31 = .returned (.tuple #[.agg #[.int .i64 xQueueD65, .int .i64 xQueueD66, .int .i64 xQueueD67, .slice xQueueD68O xQueueD68L xQueueD68C], .bool xQueueD69]) ∧ Kept [b, b1, b12, b13, b14, b17] wr79 wv31 ∧
    (∃ (eqQueu17 : Bool),
    PureX [b, b1, b12, b13, b14, b17] Try.prog fn_laws_eqQueue #[.agg #[.int .i64 xQueueD65, .int .i64 xQueueD66, .int .i64 xQueueD67, .slice xQueueD68O xQueueD68L xQueueD68C], .agg #[.int .i64 xQueueD45, .int .i64 xQueueD46, .int .i64 xQueueD47, .slice xQueueD48O xQueueD48L xQueueD48C]] wv31 (.bool eqQueu17) ∧
    (((!eqQueu17) || (!(xQueueD69 == xQueueD49))) = true →
    (∀ wr80, ExtX [b, b1, b12, b13, b14, b17] wv31 wr80 → R (.bool false) wr80)) ∧
    (((!eqQueu17) || (!(xQueueD69 == xQueueD49))) = false →
    (∃ (heldQu11 : Int),
    PureX [b, b1, b12, b13, b14, b17] Try.prog fn_laws_heldQueue #[.agg #[.int .i64 xQueueD50, .int .i64 xQueueD51, .int .i64 xQueueD52, .slice xQueueD53O xQueueD53L xQueueD53C], .int .i64 1] wv31 (.int .i64 heldQu11) ∧
    ((decide (heldQu11 < 0)) = true →
    (∀ wr81, ExtX [b, b1, b12, b13, b14, b17] wv31 wr81 → R (.bool false) wr81)) ∧
    ((decide (heldQu11 < 0)) = false →
    ((heldQu11 != markQu5) = true →
    (∀ wr82, ExtX [b, b1, b12, b13, b14, b17] wv31 wr82 → R (.bool false) wr82)) ∧
    ((heldQu11 != markQu5) = false →
    (∀ wr83, ExtX [b, b1, b12, b13, b14, b17] wv31 wr83 → R (.bool true) wr83)))))))))))))))))))))))))))))))) ∧
    ((∀ b18, wv22.heap.size ≤ b18 →
    PureX [b, b1, b12] Try.prog fn_laws_toQueueOp #[.agg #[.int .i64 aOp0, .int .i64 aOp1, .int .i64 aOp2]] wv22 (.agg #[.int .i64 toQueu54, .int .i64 toQueu55, .int .i64 toQueu56]) ∧
    (some (ty_laws_QueueOp, ([.int .i64 aOp0, .int .i64 aOp1, .int .i64 aOp2] : List Value)) = some (ty_laws_QueueOp, ([.int .i64 aOp0, .int .i64 aOp1, .int .i64 aOp2] : List Value))) ∧
    (some (ty_impl_Queue, ([.int .i64 toQueu50, .int .i64 toQueu51, .int .i64 toQueu52, .slice toQueu53O toQueu53L toQueu53C] : List Value)) = some (ty_impl_Queue, ([.int .i64 toQueu50, .int .i64 toQueu51, .int .i64 toQueu52, .slice toQueu53O toQueu53L toQueu53C] : List Value))) ∧
    (∀ wr84, ExtX [b, b1, b12] wv22 wr84 → (∀ bq ∈ ([b, b1, b12, b13, b18] : List Nat), bq < wr84.heap.size) → 
    Calls Try.prog fn_impl_QueueDo #[.agg #[.int .i64 toQueu50, .int .i64 toQueu51, .int .i64 toQueu52, .slice toQueu53O toQueu53L toQueu53C], .agg #[.int .i64 toQueu54, .int .i64 toQueu55, .int .i64 toQueu56]] wr84 fun e32 wv32 =>
    (∃ (xQueueD70 : Int) (xQueueD71 : Int) (xQueueD72 : Int) (xQueueD73O : Option Addr) (xQueueD73L : Nat) (xQueueD73C : Nat) (xQueueD74 : Bool),
    e32 = .returned (.tuple #[.agg #[.int .i64 xQueueD70, .int .i64 xQueueD71, .int .i64 xQueueD72, .slice xQueueD73O xQueueD73L xQueueD73C], .bool xQueueD74]) ∧ Kept [b, b1, b12, b13, b18] wr84 wv32 ∧
    (∃ (eqQueu18 : Bool),
    PureX [b, b1, b12, b13, b18] Try.prog fn_laws_eqQueue #[.agg #[.int .i64 xQueueD70, .int .i64 xQueueD71, .int .i64 xQueueD72, .slice xQueueD73O xQueueD73L xQueueD73C], .agg #[.int .i64 xQueueD45, .int .i64 xQueueD46, .int .i64 xQueueD47, .slice xQueueD48O xQueueD48L xQueueD48C]] wv32 (.bool eqQueu18) ∧
    (((!eqQueu18) || (!(xQueueD74 == xQueueD49))) = true →
    (∀ wr85, ExtX [b, b1, b12, b13, b18] wv32 wr85 → R (.bool false) wr85)) ∧
    (((!eqQueu18) || (!(xQueueD74 == xQueueD49))) = false →
    (∀ wr86, ExtX [b, b1, b12, b13, b18] wv32 wr86 → (∀ bq ∈ ([b, b1, b12, b13, b18] : List Nat), bq < wr86.heap.size) → 
    Calls Try.prog fn_laws_toQueue #[.agg #[.int .i64 aQ0, .int .i64 aQ1, .int .i64 aQ2, .slice aQ3O aQ3L aQ3C]] wr86 fun e33 wv33 =>
    (∃ (toQueu75 : Int) (toQueu76 : Int) (toQueu77 : Int) (toQueu78O : Option Addr) (toQueu78L : Nat) (toQueu78C : Nat),
    e33 = .returned (.agg #[.int .i64 toQueu75, .int .i64 toQueu76, .int .i64 toQueu77, .slice toQueu78O toQueu78L toQueu78C]) ∧ Kept [b, b1, b12, b13, b18] wr86 wv33 ∧
    (some (ty_impl_Queue, ([.int .i64 toQueu50, .int .i64 toQueu51, .int .i64 toQueu52, .slice toQueu53O toQueu53L toQueu53C] : List Value)) = some (ty_impl_Queue, ([.int .i64 toQueu50, .int .i64 toQueu51, .int .i64 toQueu52, .slice toQueu53O toQueu53L toQueu53C] : List Value))) ∧
    (∃ (eqQueu19 : Bool),
    PureX [b, b1, b12, b13, b18] Try.prog fn_laws_eqQueue #[.agg #[.int .i64 toQueu50, .int .i64 toQueu51, .int .i64 toQueu52, .slice toQueu53O toQueu53L toQueu53C], .agg #[.int .i64 toQueu75, .int .i64 toQueu76, .int .i64 toQueu77, .slice toQueu78O toQueu78L toQueu78C]] wv33 (.bool eqQueu19) ∧
    ((!eqQueu19) = true →
    (∀ wr87, ExtX [b, b1, b12, b13, b18] wv33 wr87 → R (.bool false) wr87)) ∧
    ((!eqQueu19) = false →
    (∀ wr88, ExtX [b, b1, b12, b13, b18] wv33 wr88 → (∀ bq ∈ ([b, b1, b12, b13, b18] : List Nat), bq < wr88.heap.size) → 
    Calls Try.prog fn_laws_markQueue #[.agg #[.int .i64 toQueu50, .int .i64 toQueu51, .int .i64 toQueu52, .slice toQueu53O toQueu53L toQueu53C], .int .i64 1] wr88 fun e34 wv34 =>
    (∃ (markQu6 : Int),
    e34 = .returned (.int .i64 markQu6) ∧ Kept [b, b1, b12, b13, b18] wr88 wv34 ∧
    (∃ (eqQueu20 : Bool),
    ((decide (markQu6 < 0)) = false → PureX [b, b1, b12, b13, b18] Try.prog fn_laws_eqQueue #[.agg #[.int .i64 xQueueD70, .int .i64 xQueueD71, .int .i64 xQueueD72, .slice xQueueD73O xQueueD73L xQueueD73C], .agg #[.int .i64 xQueueD45, .int .i64 xQueueD46, .int .i64 xQueueD47, .slice xQueueD48O xQueueD48L xQueueD48C]] wv34 (.bool eqQueu20)) ∧
    ((((decide (markQu6 < 0)) || (!eqQueu20)) || (!(xQueueD74 == xQueueD49))) = true →
    (∀ wr89, ExtX [b, b1, b12, b13, b18] wv34 wr89 → R (.bool false) wr89)) ∧
    ((((decide (markQu6 < 0)) || (!eqQueu20)) || (!(xQueueD74 == xQueueD49))) = false →
    (∀ wr90, ExtX [b, b1, b12, b13, b18] wv34 wr90 → (∀ bq ∈ ([b, b1, b12, b13, b18] : List Nat), bq < wr90.heap.size) → 
    Calls Try.prog fn_laws_markQueue #[.agg #[.int .i64 xQueueD70, .int .i64 xQueueD71, .int .i64 xQueueD72, .slice xQueueD73O xQueueD73L xQueueD73C], .int .i64 1] wr90 fun e35 wv35 =>
    (∃ (markQu7 : Int),
    e35 = .returned (.int .i64 markQu7) ∧ Kept [b, b1, b12, b13, b18] wr90 wv35 ∧
    (∃ (heldQu12 : Int),
    PureX [b, b1, b12, b13, b18] Try.prog fn_laws_heldQueue #[.agg #[.int .i64 xQueueD70, .int .i64 xQueueD71, .int .i64 xQueueD72, .slice xQueueD73O xQueueD73L xQueueD73C], .int .i64 1] wv35 (.int .i64 heldQu12) ∧
    ((decide (heldQu12 < 0)) = true →
    (∀ wr91, ExtX [b, b1, b12, b13, b18] wv35 wr91 → R (.bool false) wr91)) ∧
    ((decide (heldQu12 < 0)) = false →
    ((heldQu12 != markQu7) = true →
    (∀ wr92, ExtX [b, b1, b12, b13, b18] wv35 wr92 → R (.bool false) wr92)) ∧
    ((heldQu12 != markQu7) = false →
    ((∀ wr93, ExtX [b, b1, b12, b13, b18] wv35 wr93 → (∀ bq ∈ ([b, b1, b12, b13, b18] : List Nat), bq < wr93.heap.size) → 
    Calls Try.prog fn_laws_toQueue #[.agg #[.int .i64 aQ0, .int .i64 aQ1, .int .i64 aQ2, .slice aQ3O aQ3L aQ3C]] wr93 fun e36 wv36 =>
    (∃ (toQueu79 : Int) (toQueu80 : Int) (toQueu81 : Int) (toQueu82O : Option Addr) (toQueu82L : Nat) (toQueu82C : Nat),
    e36 = .returned (.agg #[.int .i64 toQueu79, .int .i64 toQueu80, .int .i64 toQueu81, .slice toQueu82O toQueu82L toQueu82C]) ∧ Kept [b, b1, b12, b13, b18] wr93 wv36 ∧
    (some (ty_laws_QueueOp, ([.int .i64 aOp0, .int .i64 aOp1, .int .i64 aOp2] : List Value)) = some (ty_laws_QueueOp, ([.int .i64 aOp0, .int .i64 aOp1, .int .i64 aOp2] : List Value))) ∧
    (∃ (toQueu83 : Int) (toQueu84 : Int) (toQueu85 : Int),
    PureX [b, b1, b12, b13, b18] Try.prog fn_laws_toQueueOp #[.agg #[.int .i64 aOp0, .int .i64 aOp1, .int .i64 aOp2]] wv36 (.agg #[.int .i64 toQueu83, .int .i64 toQueu84, .int .i64 toQueu85]) ∧
    ((∀ wr94, ExtX [b, b1, b12, b13, b18] wv36 wr94 → (∀ bq ∈ ([b, b1, b12, b13, b18] : List Nat), bq < wr94.heap.size) → 
    Calls Try.prog fn_impl_QueueDo #[.agg #[.int .i64 toQueu79, .int .i64 toQueu80, .int .i64 toQueu81, .slice toQueu82O toQueu82L toQueu82C], .agg #[.int .i64 toQueu83, .int .i64 toQueu84, .int .i64 toQueu85]] wr94 fun e37 wv37 =>
    (∃ (xQueueD75 : Int) (xQueueD76 : Int) (xQueueD77 : Int) (xQueueD78O : Option Addr) (xQueueD78L : Nat) (xQueueD78C : Nat) (xQueueD79 : Bool),
    e37 = .returned (.tuple #[.agg #[.int .i64 xQueueD75, .int .i64 xQueueD76, .int .i64 xQueueD77, .slice xQueueD78O xQueueD78L xQueueD78C], .bool xQueueD79]) ∧ Kept [b, b1, b12, b13, b18] wr94 wv37 ∧
    (∀ b19, wv37.heap.size ≤ b19 →
    PureX [b, b1, b12, b13, b18] Try.prog fn_laws_toQueueOp #[.agg #[.int .i64 aOp0, .int .i64 aOp1, .int .i64 aOp2]] wv37 (.agg #[.int .i64 toQueu83, .int .i64 toQueu84, .int .i64 toQueu85]) ∧
    (some (ty_laws_QueueOp, ([.int .i64 aOp0, .int .i64 aOp1, .int .i64 aOp2] : List Value)) = some (ty_laws_QueueOp, ([.int .i64 aOp0, .int .i64 aOp1, .int .i64 aOp2] : List Value))) ∧
    (some (ty_laws_Queue, ([.int .i64 aQ0, .int .i64 aQ1, .int .i64 aQ2, .slice aQ3O aQ3L aQ3C] : List Value)) = some (ty_laws_Queue, ([.int .i64 aQ0, .int .i64 aQ1, .int .i64 aQ2, .slice aQ3O aQ3L aQ3C] : List Value))) ∧
    (∃ (eqQueu21 : Bool),
    PureX [b, b1, b12, b13, b18] Try.prog fn_laws_eqQueue #[.agg #[.int .i64 xQueueD75, .int .i64 xQueueD76, .int .i64 xQueueD77, .slice xQueueD78O xQueueD78L xQueueD78C], .agg #[.int .i64 xQueueD45, .int .i64 xQueueD46, .int .i64 xQueueD47, .slice xQueueD48O xQueueD48L xQueueD48C]] wv37 (.bool eqQueu21) ∧
    (((!eqQueu21) || (!(xQueueD79 == xQueueD49))) = true →
    (∀ wr95, ExtX [b, b1, b12, b13, b18] wv37 wr95 → R (.bool false) wr95)) ∧
    (((!eqQueu21) || (!(xQueueD79 == xQueueD49))) = false →
    (∃ (heldQu13 : Int),
    PureX [b, b1, b12, b13, b18] Try.prog fn_laws_heldQueue #[.agg #[.int .i64 xQueueD70, .int .i64 xQueueD71, .int .i64 xQueueD72, .slice xQueueD73O xQueueD73L xQueueD73C], .int .i64 1] wv37 (.int .i64 heldQu13) ∧
    ((decide (heldQu13 < 0)) = true →
    (∀ wr96, ExtX [b, b1, b12, b13, b18] wv37 wr96 → R (.bool false) wr96)) ∧
    ((decide (heldQu13 < 0)) = false →
    ((heldQu13 != markQu7) = true →
    (∀ wr97, ExtX [b, b1, b12, b13, b18] wv37 wr97 → R (.bool false) wr97)) ∧
    ((heldQu13 != markQu7) = false →
    (∀ wr98, ExtX [b, b1, b12, b13, b18] wv37 wr98 → R (.bool true) wr98)))))))))) ∧
    ((∀ b20, wv36.heap.size ≤ b20 →
    PureX [b, b1, b12, b13, b18] Try.prog fn_laws_toQueueOp #[.agg #[.int .i64 aOp0, .int .i64 aOp1, .int .i64 aOp2]] wv36 (.agg #[.int .i64 toQueu83, .int .i64 toQueu84, .int .i64 toQueu85]) ∧
    (some (ty_laws_QueueOp, ([.int .i64 aOp0, .int .i64 aOp1, .int .i64 aOp2] : List Value)) = some (ty_laws_QueueOp, ([.int .i64 aOp0, .int .i64 aOp1, .int .i64 aOp2] : List Value))) ∧
    (some (ty_laws_Queue, ([.int .i64 aQ0, .int .i64 aQ1, .int .i64 aQ2, .slice aQ3O aQ3L aQ3C] : List Value)) = some (ty_laws_Queue, ([.int .i64 aQ0, .int .i64 aQ1, .int .i64 aQ2, .slice aQ3O aQ3L aQ3C] : List Value))) ∧
    (∀ wr99, ExtX [b, b1, b12, b13, b18] wv36 wr99 → (∀ bq ∈ ([b, b1, b12, b13, b18, b20] : List Nat), bq < wr99.heap.size) → 
    Calls Try.prog fn_impl_QueueDo #[.agg #[.int .i64 toQueu79, .int .i64 toQueu80, .int .i64 toQueu81, .slice toQueu82O toQueu82L toQueu82C], .agg #[.int .i64 toQueu83, .int .i64 toQueu84, .int .i64 toQueu85]] wr99 fun e38 wv38 =>
    (∃ (xQueueD80 : Int) (xQueueD81 : Int) (xQueueD82 : Int) (xQueueD83O : Option Addr) (xQueueD83L : Nat) (xQueueD83C : Nat) (xQueueD84 : Bool),
    e38 = .returned (.tuple #[.agg #[.int .i64 xQueueD80, .int .i64 xQueueD81, .int .i64 xQueueD82, .slice xQueueD83O xQueueD83L xQueueD83C], .bool xQueueD84]) ∧ Kept [b, b1, b12, b13, b18, b20] wr99 wv38 ∧
    (∃ (eqQueu22 : Bool),
    PureX [b, b1, b12, b13, b18, b20] Try.prog fn_laws_eqQueue #[.agg #[.int .i64 xQueueD80, .int .i64 xQueueD81, .int .i64 xQueueD82, .slice xQueueD83O xQueueD83L xQueueD83C], .agg #[.int .i64 xQueueD45, .int .i64 xQueueD46, .int .i64 xQueueD47, .slice xQueueD48O xQueueD48L xQueueD48C]] wv38 (.bool eqQueu22) ∧
    (((!eqQueu22) || (!(xQueueD84 == xQueueD49))) = true →
    (∀ wr100, ExtX [b, b1, b12, b13, b18, b20] wv38 wr100 → R (.bool false) wr100)) ∧
    (((!eqQueu22) || (!(xQueueD84 == xQueueD49))) = false →
    (∃ (heldQu14 : Int),
    PureX [b, b1, b12, b13, b18, b20] Try.prog fn_laws_heldQueue #[.agg #[.int .i64 xQueueD70, .int .i64 xQueueD71, .int .i64 xQueueD72, .slice xQueueD73O xQueueD73L xQueueD73C], .int .i64 1] wv38 (.int .i64 heldQu14) ∧
    ((decide (heldQu14 < 0)) = true →
    (∀ wr101, ExtX [b, b1, b12, b13, b18, b20] wv38 wr101 → R (.bool false) wr101)) ∧
    ((decide (heldQu14 < 0)) = false →
    ((heldQu14 != markQu7) = true →
    (∀ wr102, ExtX [b, b1, b12, b13, b18, b20] wv38 wr102 → R (.bool false) wr102)) ∧
    ((heldQu14 != markQu7) = false →
    (∀ wr103, ExtX [b, b1, b12, b13, b18, b20] wv38 wr103 → R (.bool true) wr103)))))))))))))) ∧
    ((∀ b21, wv35.heap.size ≤ b21 →
    (some (ty_laws_QueueOp, ([.int .i64 aOp0, .int .i64 aOp1, .int .i64 aOp2] : List Value)) = some (ty_laws_QueueOp, ([.int .i64 aOp0, .int .i64 aOp1, .int .i64 aOp2] : List Value))) ∧
    (some (ty_laws_Queue, ([.int .i64 aQ0, .int .i64 aQ1, .int .i64 aQ2, .slice aQ3O aQ3L aQ3C] : List Value)) = some (ty_laws_Queue, ([.int .i64 aQ0, .int .i64 aQ1, .int .i64 aQ2, .slice aQ3O aQ3L aQ3C] : List Value))) ∧
    (∀ wr104, ExtX [b, b1, b12, b13, b18] wv35 wr104 → (∀ bq ∈ ([b, b1, b12, b13, b18, b21] : List Nat), bq < wr104.heap.size) → 
    Calls Try.prog fn_laws_toQueue #[.agg #[.int .i64 aQ0, .int .i64 aQ1, .int .i64 aQ2, .slice aQ3O aQ3L aQ3C]] wr104 fun e39 wv39 =>
    (∃ (toQueu86 : Int) (toQueu87 : Int) (toQueu88 : Int) (toQueu89O : Option Addr) (toQueu89L : Nat) (toQueu89C : Nat),
    e39 = .returned (.agg #[.int .i64 toQueu86, .int .i64 toQueu87, .int .i64 toQueu88, .slice toQueu89O toQueu89L toQueu89C]) ∧ Kept [b, b1, b12, b13, b18, b21] wr104 wv39 ∧
    (some (ty_laws_QueueOp, ([.int .i64 aOp0, .int .i64 aOp1, .int .i64 aOp2] : List Value)) = some (ty_laws_QueueOp, ([.int .i64 aOp0, .int .i64 aOp1, .int .i64 aOp2] : List Value))) ∧
    (∃ (toQueu90 : Int) (toQueu91 : Int) (toQueu92 : Int),
    PureX [b, b1, b12, b13, b18, b21] Try.prog fn_laws_toQueueOp #[.agg #[.int .i64 aOp0, .int .i64 aOp1, .int .i64 aOp2]] wv39 (.agg #[.int .i64 toQueu90, .int .i64 toQueu91, .int .i64 toQueu92]) ∧
    (∀ wr105, ExtX [b, b1, b12, b13, b18, b21] wv39 wr105 → (∀ bq ∈ ([b, b1, b12, b13, b18, b21] : List Nat), bq < wr105.heap.size) → 
    Calls Try.prog fn_impl_QueueDo #[.agg #[.int .i64 toQueu86, .int .i64 toQueu87, .int .i64 toQueu88, .slice toQueu89O toQueu89L toQueu89C], .agg #[.int .i64 toQueu90, .int .i64 toQueu91, .int .i64 toQueu92]] wr105 fun e40 wv40 =>
    (∃ (xQueueD85 : Int) (xQueueD86 : Int) (xQueueD87 : Int) (xQueueD88O : Option Addr) (xQueueD88L : Nat) (xQueueD88C : Nat) (xQueueD89 : Bool),
    e40 = .returned (.tuple #[.agg #[.int .i64 xQueueD85, .int .i64 xQueueD86, .int .i64 xQueueD87, .slice xQueueD88O xQueueD88L xQueueD88C], .bool xQueueD89]) ∧ Kept [b, b1, b12, b13, b18, b21] wr105 wv40 ∧
    (∃ (eqQueu23 : Bool),
    PureX [b, b1, b12, b13, b18, b21] Try.prog fn_laws_eqQueue #[.agg #[.int .i64 xQueueD85, .int .i64 xQueueD86, .int .i64 xQueueD87, .slice xQueueD88O xQueueD88L xQueueD88C], .agg #[.int .i64 xQueueD45, .int .i64 xQueueD46, .int .i64 xQueueD47, .slice xQueueD48O xQueueD48L xQueueD48C]] wv40 (.bool eqQueu23) ∧
    (((!eqQueu23) || (!(xQueueD89 == xQueueD49))) = true →
    (∀ wr106, ExtX [b, b1, b12, b13, b18, b21] wv40 wr106 → R (.bool false) wr106)) ∧
    (((!eqQueu23) || (!(xQueueD89 == xQueueD49))) = false →
    (∃ (heldQu15 : Int),
    PureX [b, b1, b12, b13, b18, b21] Try.prog fn_laws_heldQueue #[.agg #[.int .i64 xQueueD70, .int .i64 xQueueD71, .int .i64 xQueueD72, .slice xQueueD73O xQueueD73L xQueueD73C], .int .i64 1] wv40 (.int .i64 heldQu15) ∧
    ((decide (heldQu15 < 0)) = true →
    (∀ wr107, ExtX [b, b1, b12, b13, b18, b21] wv40 wr107 → R (.bool false) wr107)) ∧
    ((decide (heldQu15 < 0)) = false →
    ((heldQu15 != markQu7) = true →
    (∀ wr108, ExtX [b, b1, b12, b13, b18, b21] wv40 wr108 → R (.bool false) wr108)) ∧
    ((heldQu15 != markQu7) = false →
    (∀ wr109, ExtX [b, b1, b12, b13, b18, b21] wv40 wr109 → R (.bool true) wr109)))))))))))))))))))))))))))))))))))))))))))) ∧
    ((∀ b22, w.heap.size ≤ b22 →
    (some (ty_laws_QueueOp, ([.int .i64 aOp0, .int .i64 aOp1, .int .i64 aOp2] : List Value)) = some (ty_laws_QueueOp, ([.int .i64 aOp0, .int .i64 aOp1, .int .i64 aOp2] : List Value))) ∧
    (some (ty_laws_Queue, ([.int .i64 aQ0, .int .i64 aQ1, .int .i64 aQ2, .slice aQ3O aQ3L aQ3C] : List Value)) = some (ty_laws_Queue, ([.int .i64 aQ0, .int .i64 aQ1, .int .i64 aQ2, .slice aQ3O aQ3L aQ3C] : List Value))) ∧
    (∀ wr110, ExtX [] w wr110 → (∀ bq ∈ ([b, b1, b22] : List Nat), bq < wr110.heap.size) → 
    Calls Try.prog fn_laws_toQueue #[.agg #[.int .i64 aQ0, .int .i64 aQ1, .int .i64 aQ2, .slice aQ3O aQ3L aQ3C]] wr110 fun e41 wv41 =>
    (∃ (toQueu93 : Int) (toQueu94 : Int) (toQueu95 : Int) (toQueu96O : Option Addr) (toQueu96L : Nat) (toQueu96C : Nat),
    e41 = .returned (.agg #[.int .i64 toQueu93, .int .i64 toQueu94, .int .i64 toQueu95, .slice toQueu96O toQueu96L toQueu96C]) ∧ Kept [b, b1, b22] wr110 wv41 ∧
    (some (ty_laws_QueueOp, ([.int .i64 aOp0, .int .i64 aOp1, .int .i64 aOp2] : List Value)) = some (ty_laws_QueueOp, ([.int .i64 aOp0, .int .i64 aOp1, .int .i64 aOp2] : List Value))) ∧
    (∃ (toQueu97 : Int) (toQueu98 : Int) (toQueu99 : Int),
    PureX [b, b1, b22] Try.prog fn_laws_toQueueOp #[.agg #[.int .i64 aOp0, .int .i64 aOp1, .int .i64 aOp2]] wv41 (.agg #[.int .i64 toQueu97, .int .i64 toQueu98, .int .i64 toQueu99]) ∧
    (∀ wr111, ExtX [b, b1, b22] wv41 wr111 → (∀ bq ∈ ([b, b1, b22] : List Nat), bq < wr111.heap.size) → 
    Calls Try.prog fn_spec_QueueDo #[.agg #[.int .i64 toQueu93, .int .i64 toQueu94, .int .i64 toQueu95, .slice toQueu96O toQueu96L toQueu96C], .agg #[.int .i64 toQueu97, .int .i64 toQueu98, .int .i64 toQueu99]] wr111 fun e42 wv42 =>
    (∃ (xQueueD90 : Int) (xQueueD91 : Int) (xQueueD92 : Int) (xQueueD93O : Option Addr) (xQueueD93L : Nat) (xQueueD93C : Nat) (xQueueD94 : Bool),
    e42 = .returned (.tuple #[.agg #[.int .i64 xQueueD90, .int .i64 xQueueD91, .int .i64 xQueueD92, .slice xQueueD93O xQueueD93L xQueueD93C], .bool xQueueD94]) ∧ Kept [b, b1, b22] wr111 wv42 ∧
    (∀ wr112, ExtX [b, b1, b22] wv42 wr112 → (∀ bq ∈ ([b, b1, b22] : List Nat), bq < wr112.heap.size) → 
    Calls Try.prog fn_laws_toQueue #[.agg #[.int .i64 aQ0, .int .i64 aQ1, .int .i64 aQ2, .slice aQ3O aQ3L aQ3C]] wr112 fun e43 wv43 =>
    (∃ (toQueu100 : Int) (toQueu101 : Int) (toQueu102 : Int) (toQueu103O : Option Addr) (toQueu103L : Nat) (toQueu103C : Nat),
    e43 = .returned (.agg #[.int .i64 toQueu100, .int .i64 toQueu101, .int .i64 toQueu102, .slice toQueu103O toQueu103L toQueu103C]) ∧ Kept [b, b1, b22] wr112 wv43 ∧
    (∀ b23, wv43.heap.size ≤ b23 →
    (∃ (toQueu104 : Int) (toQueu105 : Int) (toQueu106 : Int),
    PureX [b, b1, b22] Try.prog fn_laws_toQueueOp #[.agg #[.int .i64 aOp0, .int .i64 aOp1, .int .i64 aOp2]] wv43 (.agg #[.int .i64 toQueu104, .int .i64 toQueu105, .int .i64 toQueu106]) ∧
    ((∀ wr113, ExtX [b, b1, b22] wv43 wr113 → (∀ bq ∈ ([b, b1, b22, b23] : List Nat), bq < wr113.heap.size) → 
    Calls Try.prog fn_impl_QueueDo #[.agg #[.int .i64 toQueu100, .int .i64 toQueu101, .int .i64 toQueu102, .slice toQueu103O toQueu103L toQueu103C], .agg #[.int .i64 toQueu104, .int .i64 toQueu105, .int .i64 toQueu106]] wr113 fun e44 wv44 =>
    (∃ (xQueueD95 : Int) (xQueueD96 : Int) (xQueueD97 : Int) (xQueueD98O : Option Addr) (xQueueD98L : Nat) (xQueueD98C : Nat) (xQueueD99 : Bool),
    e44 = .returned (.tuple #[.agg #[.int .i64 xQueueD95, .int .i64 xQueueD96, .int .i64 xQueueD97, .slice xQueueD98O xQueueD98L xQueueD98C], .bool xQueueD99]) ∧ Kept [b, b1, b22, b23] wr113 wv44 ∧
    (∀ b24, wv44.heap.size ≤ b24 →
    PureX [b, b1, b22, b23] Try.prog fn_laws_toQueueOp #[.agg #[.int .i64 aOp0, .int .i64 aOp1, .int .i64 aOp2]] wv44 (.agg #[.int .i64 toQueu104, .int .i64 toQueu105, .int .i64 toQueu106]) ∧
    (some (ty_laws_QueueOp, ([.int .i64 aOp0, .int .i64 aOp1, .int .i64 aOp2] : List Value)) = some (ty_laws_QueueOp, ([.int .i64 aOp0, .int .i64 aOp1, .int .i64 aOp2] : List Value))) ∧
    (some (ty_impl_Queue, ([.int .i64 toQueu100, .int .i64 toQueu101, .int .i64 toQueu102, .slice toQueu103O toQueu103L toQueu103C] : List Value)) = some (ty_impl_Queue, ([.int .i64 toQueu100, .int .i64 toQueu101, .int .i64 toQueu102, .slice toQueu103O toQueu103L toQueu103C] : List Value))) ∧
    (∃ (eqQueu24 : Bool),
    PureX [b, b1, b22, b23] Try.prog fn_laws_eqQueue #[.agg #[.int .i64 xQueueD95, .int .i64 xQueueD96, .int .i64 xQueueD97, .slice xQueueD98O xQueueD98L xQueueD98C], .agg #[.int .i64 xQueueD90, .int .i64 xQueueD91, .int .i64 xQueueD92, .slice xQueueD93O xQueueD93L xQueueD93C]] wv44 (.bool eqQueu24) ∧
    (((!eqQueu24) || (!(xQueueD99 == xQueueD94))) = true →
    (∀ wr114, ExtX [b, b1, b22, b23] wv44 wr114 → R (.bool false) wr114)) ∧
    (((!eqQueu24) || (!(xQueueD99 == xQueueD94))) = false →
    (∀ wr115, ExtX [b, b1, b22, b23] wv44 wr115 → (∀ bq ∈ ([b, b1, b22, b23, b24] : List Nat), bq < wr115.heap.size) → 
    Calls Try.prog fn_laws_toQueue #[.agg #[.int .i64 aQ0, .int .i64 aQ1, .int .i64 aQ2, .slice aQ3O aQ3L aQ3C]] wr115 fun e45 wv45 =>
    (∃ (toQueu107 : Int) (toQueu108 : Int) (toQueu109 : Int) (toQueu110O : Option Addr) (toQueu110L : Nat) (toQueu110C : Nat),
    e45 = .returned (.agg #[.int .i64 toQueu107, .int .i64 toQueu108, .int .i64 toQueu109, .slice toQueu110O toQueu110L toQueu110C]) ∧ Kept [b, b1, b22, b23, b24] wr115 wv45 ∧
    (some (ty_impl_Queue, ([.int .i64 toQueu100, .int .i64 toQueu101, .int .i64 toQueu102, .slice toQueu103O toQueu103L toQueu103C] : List Value)) = some (ty_impl_Queue, ([.int .i64 toQueu100, .int .i64 toQueu101, .int .i64 toQueu102, .slice toQueu103O toQueu103L toQueu103C] : List Value))) ∧
    (∃ (eqQueu25 : Bool),
    PureX [b, b1, b22, b23, b24] Try.prog fn_laws_eqQueue #[.agg #[.int .i64 toQueu100, .int .i64 toQueu101, .int .i64 toQueu102, .slice toQueu103O toQueu103L toQueu103C], .agg #[.int .i64 toQueu107, .int .i64 toQueu108, .int .i64 toQueu109, .slice toQueu110O toQueu110L toQueu110C]] wv45 (.bool eqQueu25) ∧
    ((!eqQueu25) = true →
    (∀ wr116, ExtX [b, b1, b22, b23, b24] wv45 wr116 → R (.bool false) wr116)) ∧
    ((!eqQueu25) = false →
    (∀ wr117, ExtX [b, b1, b22, b23, b24] wv45 wr117 → (∀ bq ∈ ([b, b1, b22, b23, b24] : List Nat), bq < wr117.heap.size) → 
    Calls Try.prog fn_laws_markQueue #[.agg #[.int .i64 toQueu100, .int .i64 toQueu101, .int .i64 toQueu102, .slice toQueu103O toQueu103L toQueu103C], .int .i64 1] wr117 fun e46 wv46 =>
    (∃ (markQu8 : Int),
    e46 = .returned (.int .i64 markQu8) ∧ Kept [b, b1, b22, b23, b24] wr117 wv46 ∧
    (∃ (eqQueu26 : Bool),
    ((decide (markQu8 < 0)) = false → PureX [b, b1, b22, b23, b24] Try.prog fn_laws_eqQueue #[.agg #[.int .i64 xQueueD95, .int .i64 xQueueD96, .int .i64 xQueueD97, .slice xQueueD98O xQueueD98L xQueueD98C], .agg #[.int .i64 xQueueD90, .int .i64 xQueueD91, .int .i64 xQueueD92, .slice xQueueD93O xQueueD93L xQueueD93C]] wv46 (.bool eqQueu26)) ∧
    ((((decide (markQu8 < 0)) || (!eqQueu26)) || (!(xQueueD99 == xQueueD94))) = true →
    (∀ wr118, ExtX [b, b1, b22, b23, b24] wv46 wr118 → R (.bool false) wr118)) ∧
    ((((decide (markQu8 < 0)) || (!eqQueu26)) || (!(xQueueD99 == xQueueD94))) = false →
    (∀ wr119, ExtX [b, b1, b22, b23, b24] wv46 wr119 → (∀ bq ∈ ([b, b1, b22, b23, b24] : List Nat), bq < wr119.heap.size) → 
    Calls Try.prog fn_laws_markQueue #[.agg #[.int .i64 xQueueD95, .int .i64 xQueueD96, .int .i64 xQueueD97, .slice xQueueD98O xQueueD98L xQueueD98C], .int .i64 1] wr119 fun e47 wv47 =>
    (∃ (markQu9 : Int),
    e47 = .returned (.int .i64 markQu9) ∧ Kept [b, b1, b22, b23, b24] wr119 wv47 ∧
    (∃ (heldQu16 : Int),
    PureX [b, b1, b22, b23, b24] Try.prog fn_laws_heldQueue #[.agg #[.int .i64 xQueueD95, .int .i64 xQueueD96, .int .i64 xQueueD97, .slice xQueueD98O xQueueD98L xQueueD98C], .int .i64 1] wv47 (.int .i64 heldQu16) ∧
    ((decide (heldQu16 < 0)) = true →
    (∀ wr120, ExtX [b, b1, b22, b23, b24] wv47 wr120 → R (.bool false) wr120)) ∧
    ((decide (heldQu16 < 0)) = false →
    ((heldQu16 != markQu9) = true →
    (∀ wr121, ExtX [b, b1, b22, b23, b24] wv47 wr121 → R (.bool false) wr121)) ∧
    ((heldQu16 != markQu9) = false →
    ((∀ wr122, ExtX [b, b1, b22, b23, b24] wv47 wr122 → (∀ bq ∈ ([b, b1, b22, b23, b24] : List Nat), bq < wr122.heap.size) → 
    Calls Try.prog fn_laws_toQueue #[.agg #[.int .i64 aQ0, .int .i64 aQ1, .int .i64 aQ2, .slice aQ3O aQ3L aQ3C]] wr122 fun e48 wv48 =>
    (∃ (toQueu111 : Int) (toQueu112 : Int) (toQueu113 : Int) (toQueu114O : Option Addr) (toQueu114L : Nat) (toQueu114C : Nat),
    e48 = .returned (.agg #[.int .i64 toQueu111, .int .i64 toQueu112, .int .i64 toQueu113, .slice toQueu114O toQueu114L toQueu114C]) ∧ Kept [b, b1, b22, b23, b24] wr122 wv48 ∧
    (some (ty_laws_QueueOp, ([.int .i64 aOp0, .int .i64 aOp1, .int .i64 aOp2] : List Value)) = some (ty_laws_QueueOp, ([.int .i64 aOp0, .int .i64 aOp1, .int .i64 aOp2] : List Value))) ∧
    (∃ (toQueu115 : Int) (toQueu116 : Int) (toQueu117 : Int),
    PureX [b, b1, b22, b23, b24] Try.prog fn_laws_toQueueOp #[.agg #[.int .i64 aOp0, .int .i64 aOp1, .int .i64 aOp2]] wv48 (.agg #[.int .i64 toQueu115, .int .i64 toQueu116, .int .i64 toQueu117]) ∧
    ((∀ wr123, ExtX [b, b1, b22, b23, b24] wv48 wr123 → (∀ bq ∈ ([b, b1, b22, b23, b24] : List Nat), bq < wr123.heap.size) → 
    Calls Try.prog fn_impl_QueueDo #[.agg #[.int .i64 toQueu111, .int .i64 toQueu112, .int .i64 toQueu113, .slice toQueu114O toQueu114L toQueu114C], .agg #[.int .i64 toQueu115, .int .i64 toQueu116, .int .i64 toQueu117]] wr123 fun e49 wv49 =>
    (∃ (xQueueD100 : Int) (xQueueD101 : Int) (xQueueD102 : Int) (xQueueD103O : Option Addr) (xQueueD103L : Nat) (xQueueD103C : Nat) (xQueueD104 : Bool),
    e49 = .returned (.tuple #[.agg #[.int .i64 xQueueD100, .int .i64 xQueueD101, .int .i64 xQueueD102, .slice xQueueD103O xQueueD103L xQueueD103C], .bool xQueueD104]) ∧ Kept [b, b1, b22, b23, b24] wr123 wv49 ∧
    (∀ b25, wv49.heap.size ≤ b25 →
    PureX [b, b1, b22, b23, b24] Try.prog fn_laws_toQueueOp #[.agg #[.int .i64 aOp0, .int .i64 aOp1, .int .i64 aOp2]] wv49 (.agg #[.int .i64 toQueu115, .int .i64 toQueu116, .int .i64 toQueu117]) ∧
    (some (ty_laws_QueueOp, ([.int .i64 aOp0, .int .i64 aOp1, .int .i64 aOp2] : List Value)) = some (ty_laws_QueueOp, ([.int .i64 aOp0, .int .i64 aOp1, .int .i64 aOp2] : List Value))) ∧
    (some (ty_laws_Queue, ([.int .i64 aQ0, .int .i64 aQ1, .int .i64 aQ2, .slice aQ3O aQ3L aQ3C] : List Value)) = some (ty_laws_Queue, ([.int .i64 aQ0, .int .i64 aQ1, .int .i64 aQ2, .slice aQ3O aQ3L aQ3C] : List Value))) ∧
    (∃ (eqQueu27 : Bool),
    PureX [b, b1, b22, b23, b24] Try.prog fn_laws_eqQueue #[.agg #[.int .i64 xQueueD100, .int .i64 xQueueD101, .int .i64 xQueueD102, .slice xQueueD103O xQueueD103L xQueueD103C], .agg #[.int .i64 xQueueD90, .int .i64 xQueueD91, .int .i64 xQueueD92, .slice xQueueD93O xQueueD93L xQueueD93C]] wv49 (.bool eqQueu27) ∧
    (((!eqQueu27) || (!(xQueueD104 == xQueueD94))) = true →
    (∀ wr124, ExtX [b, b1, b22, b23, b24] wv49 wr124 → R (.bool false) wr124)) ∧
    (((!eqQueu27) || (!(xQueueD104 == xQueueD94))) = false →
    (∃ (heldQu17 : Int),
    PureX [b, b1, b22, b23, b24] Try.prog fn_laws_heldQueue #[.agg #[.int .i64 xQueueD95, .int .i64 xQueueD96, .int .i64 xQueueD97, .slice xQueueD98O xQueueD98L xQueueD98C], .int .i64 1] wv49 (.int .i64 heldQu17) ∧
    ((decide (heldQu17 < 0)) = true →
    (∀ wr125, ExtX [b, b1, b22, b23, b24] wv49 wr125 → R (.bool false) wr125)) ∧
    ((decide (heldQu17 < 0)) = false →
    ((heldQu17 != markQu9) = true →
    (∀ wr126, ExtX [b, b1, b22, b23, b24] wv49 wr126 → R (.bool false) wr126)) ∧
    ((heldQu17 != markQu9) = false →
    (∀ wr127, ExtX [b, b1, b22, b23, b24] wv49 wr127 → R (.bool true) wr127)))))))))) ∧
    ((∀ b26, wv48.heap.size ≤ b26 →
    PureX [b, b1, b22, b23, b24] Try.prog fn_laws_toQueueOp #[.agg #[.int .i64 aOp0, .int .i64 aOp1, .int .i64 aOp2]] wv48 (.agg #[.int .i64 toQueu115, .int .i64 toQueu116, .int .i64 toQueu117]) ∧
    (some (ty_laws_QueueOp, ([.int .i64 aOp0, .int .i64 aOp1, .int .i64 aOp2] : List Value)) = some (ty_laws_QueueOp, ([.int .i64 aOp0, .int .i64 aOp1, .int .i64 aOp2] : List Value))) ∧
    (some (ty_laws_Queue, ([.int .i64 aQ0, .int .i64 aQ1, .int .i64 aQ2, .slice aQ3O aQ3L aQ3C] : List Value)) = some (ty_laws_Queue, ([.int .i64 aQ0, .int .i64 aQ1, .int .i64 aQ2, .slice aQ3O aQ3L aQ3C] : List Value))) ∧
    (∀ wr128, ExtX [b, b1, b22, b23, b24] wv48 wr128 → (∀ bq ∈ ([b, b1, b22, b23, b24, b26] : List Nat), bq < wr128.heap.size) → 
    Calls Try.prog fn_impl_QueueDo #[.agg #[.int .i64 toQueu111, .int .i64 toQueu112, .int .i64 toQueu113, .slice toQueu114O toQueu114L toQueu114C], .agg #[.int .i64 toQueu115, .int .i64 toQueu116, .int .i64 toQueu117]] wr128 fun e50 wv50 =>
    (∃ (xQueueD105 : Int) (xQueueD106 : Int) (xQueueD107 : Int) (xQueueD108O : Option Addr) (xQueueD108L : Nat) (xQueueD108C : Nat) (xQueueD109 : Bool),
    e50 = .returned (.tuple #[.agg #[.int .i64 xQueueD105, .int .i64 xQueueD106, .int .i64 xQueueD107, .slice xQueueD108O xQueueD108L xQueueD108C], .bool xQueueD109]) ∧ Kept [b, b1, b22, b23, b24, b26] wr128 wv50 ∧
    (∃ (eqQueu28 : Bool),
    PureX [b, b1, b22, b23, b24, b26] Try.prog fn_laws_eqQueue #[.agg #[.int .i64 xQueueD105, .int .i64 xQueueD106, .int .i64 xQueueD107, .slice xQueueD108O xQueueD108L xQueueD108C], .agg #[.int .i64 xQueueD90, .int .i64 xQueueD91, .int .i64 xQueueD92, .slice xQueueD93O xQueueD93L xQueueD93C]] wv50 (.bool eqQueu28) ∧
    (((!eqQueu28) || (!(xQueueD109 == xQueueD94))) = true →
    (∀ wr129, ExtX [b, b1, b22, b23, b24, b26] wv50 wr129 → R (.bool false) wr129)) ∧
    (((!eqQueu28) || (!(xQueueD109 == xQueueD94))) = false →
    (∃ (heldQu18 : Int),
    PureX [b, b1, b22, b23, b24, b26] Try.prog fn_laws_heldQueue #[.agg #[.int .i64 xQueueD95, .int .i64 xQueueD96, .int .i64 xQueueD97, .slice xQueueD98O xQueueD98L xQueueD98C], .int .i64 1] wv50 (.int .i64 heldQu18) ∧
    ((decide (heldQu18 < 0)) = true →
    (∀ wr130, ExtX [b, b1, b22, b23, b24, b26] wv50 wr130 → R (.bool false) wr130)) ∧
    ((decide (heldQu18 < 0)) = false →
    ((heldQu18 != markQu9) = true →
    (∀ wr131, ExtX [b, b1, b22, b23, b24, b26] wv50 wr131 → R (.bool false) wr131)) ∧
    ((heldQu18 != markQu9) = false →
    (∀ wr132, ExtX [b, b1, b22, b23, b24, b26] wv50 wr132 → R (.bool true) wr132)))))))))))))) ∧
    ((∀ b27, wv47.heap.size ≤ b27 →
    (some (ty_laws_QueueOp, ([.int .i64 aOp0, .int .i64 aOp1, .int .i64 aOp2] : List Value)) = some (ty_laws_QueueOp, ([.int .i64 aOp0, .int .i64 aOp1, .int .i64 aOp2] : List Value))) ∧
    (some (ty_laws_Queue, ([.int .i64 aQ0, .int .i64 aQ1, .int .i64 aQ2, .slice aQ3O aQ3L aQ3C] : List Value)) = some (ty_laws_Queue, ([.int .i64 aQ0, .int .i64 aQ1, .int .i64 aQ2, .slice aQ3O aQ3L aQ3C] : List Value))) ∧
    (∀ wr133, ExtX [b, b1, b22, b23, b24] wv47 wr133 → (∀ bq ∈ ([b, b1, b22, b23, b24, b27] : List Nat), bq < wr133.heap.size) → 
    Calls Try.prog fn_laws_toQueue #[.agg #[.int .i64 aQ0, .int .i64 aQ1, .int .i64 aQ2, .slice aQ3O aQ3L aQ3C]] wr133 fun e51 wv51 =>
    (∃ (toQueu118 : Int) (toQueu119 : Int) (toQueu120 : Int) (toQueu121O : Option Addr) (toQueu121L : Nat) (toQueu121C : Nat),
    e51 = .returned (.agg #[.int .i64 toQueu118, .int .i64 toQueu119, .int .i64 toQueu120, .slice toQueu121O toQueu121L toQueu121C]) ∧ Kept [b, b1, b22, b23, b24, b27] wr133 wv51 ∧
    (some (ty_laws_QueueOp, ([.int .i64 aOp0, .int .i64 aOp1, .int .i64 aOp2] : List Value)) = some (ty_laws_QueueOp, ([.int .i64 aOp0, .int .i64 aOp1, .int .i64 aOp2] : List Value))) ∧
    (∃ (toQueu122 : Int) (toQueu123 : Int) (toQueu124 : Int),
    PureX [b, b1, b22, b23, b24, b27] Try.prog fn_laws_toQueueOp #[.agg #[.int .i64 aOp0, .int .i64 aOp1, .int .i64 aOp2]] wv51 (.agg #[.int .i64 toQueu122, .int .i64 toQueu123, .int .i64 toQueu124]) ∧
    (∀ wr134, ExtX [b, b1, b22, b23, b24, b27] wv51 wr134 → (∀ bq ∈ ([b, b1, b22, b23, b24, b27] : List Nat), bq < wr134.heap.size) → 
    Calls Try.prog fn_impl_QueueDo #[.agg #[.int .i64 toQueu118, .int .i64 toQueu119, .int .i64 toQueu120, .slice toQueu121O toQueu121L toQueu121C], .agg #[.int .i64 toQueu122, .int .i64 toQueu123, .int .i64 toQueu124]] wr134 fun e52 wv52 =>
    (∃ (xQueueD110 : Int) (xQueueD111 : Int) (xQueueD112 : Int) (xQueueD113O : Option Addr) (xQueueD113L : Nat) (xQueueD113C : Nat) (xQueueD114 : Bool),
    e52 = .returned (.tuple #[.agg #[.int .i64 xQueueD110, .int .i64 xQueueD111, .int .i64 xQueueD112, .slice xQueueD113O xQueueD113L xQueueD113C], .bool xQueueD114]) ∧ Kept [b, b1, b22, b23, b24, b27] wr134 wv52 ∧
    (∃ (eqQueu29 : Bool),
    PureX [b, b1, b22, b23, b24, b27] Try.prog fn_laws_eqQueue #[.agg #[.int .i64 xQueueD110, .int .i64 xQueueD111, .int .i64 xQueueD112, .slice xQueueD113O xQueueD113L xQueueD113C], .agg #[.int .i64 xQueueD90, .int .i64 xQueueD91, .int .i64 xQueueD92, .slice xQueueD93O xQueueD93L xQueueD93C]] wv52 (.bool eqQueu29) ∧
    (((!eqQueu29) || (!(xQueueD114 == xQueueD94))) = true →
    (∀ wr135, ExtX [b, b1, b22, b23, b24, b27] wv52 wr135 → R (.bool false) wr135)) ∧
    (((!eqQueu29) || (!(xQueueD114 == xQueueD94))) = false →
    (∃ (heldQu19 : Int),
    PureX [b, b1, b22, b23, b24, b27] Try.prog fn_laws_heldQueue #[.agg #[.int .i64 xQueueD95, .int .i64 xQueueD96, .int .i64 xQueueD97, .slice xQueueD98O xQueueD98L xQueueD98C], .int .i64 1] wv52 (.int .i64 heldQu19) ∧
    ((decide (heldQu19 < 0)) = true →
    (∀ wr136, ExtX [b, b1, b22, b23, b24, b27] wv52 wr136 → R (.bool false) wr136)) ∧
    ((decide (heldQu19 < 0)) = false →
    ((heldQu19 != markQu9) = true →
    (∀ wr137, ExtX [b, b1, b22, b23, b24, b27] wv52 wr137 → R (.bool false) wr137)) ∧
    ((heldQu19 != markQu9) = false →
    (∀ wr138, ExtX [b, b1, b22, b23, b24, b27] wv52 wr138 → R (.bool true) wr138)))))))))))))))))))))))))))))))) ∧
    ((∀ b28, wv43.heap.size ≤ b28 →
    PureX [b, b1, b22] Try.prog fn_laws_toQueueOp #[.agg #[.int .i64 aOp0, .int .i64 aOp1, .int .i64 aOp2]] wv43 (.agg #[.int .i64 toQueu104, .int .i64 toQueu105, .int .i64 toQueu106]) ∧
    (some (ty_laws_QueueOp, ([.int .i64 aOp0, .int .i64 aOp1, .int .i64 aOp2] : List Value)) = some (ty_laws_QueueOp, ([.int .i64 aOp0, .int .i64 aOp1, .int .i64 aOp2] : List Value))) ∧
    (some (ty_impl_Queue, ([.int .i64 toQueu100, .int .i64 toQueu101, .int .i64 toQueu102, .slice toQueu103O toQueu103L toQueu103C] : List Value)) = some (ty_impl_Queue, ([.int .i64 toQueu100, .int .i64 toQueu101, .int .i64 toQueu102, .slice toQueu103O toQueu103L toQueu103C] : List Value))) ∧
    (∀ wr139, ExtX [b, b1, b22] wv43 wr139 → (∀ bq ∈ ([b, b1, b22, b23, b28] : List Nat), bq < wr139.heap.size) → 
    Calls Try.prog fn_impl_QueueDo #[.agg #[.int .i64 toQueu100, .int .i64 toQueu101, .int .i64 toQueu102, .slice toQueu103O toQueu103L toQueu103C], .agg #[.int .i64 toQueu104, .int .i64 toQueu105, .int .i64 toQueu106]] wr139 fun e53 wv53 =>
    (∃ (xQueueD115 : Int) (xQueueD116 : Int) (xQueueD117 : Int) (xQueueD118O : Option Addr) (xQueueD118L : Nat) (xQueueD118C : Nat) (xQueueD119 : Bool),
    e53 = .returned (.tuple #[.agg #[.int .i64 xQueueD115, .int .i64 xQueueD116, .int .i64 xQueueD117, .slice xQueueD118O xQueueD118L xQueueD118C], .bool xQueueD119]) ∧ Kept [b, b1, b22, b23, b28] wr139 wv53 ∧
    (∃ (eqQueu30 : Bool),
    PureX [b, b1, b22, b23, b28] Try.prog fn_laws_eqQueue #[.agg #[.int .i64 xQueueD115, .int .i64 xQueueD116, .int .i64 xQueueD117, .slice xQueueD118O xQueueD118L xQueueD118C], .agg #[.int .i64 xQueueD90, .int .i64 xQueueD91, .int .i64 xQueueD92, .slice xQueueD93O xQueueD93L xQueueD93C]] wv53 (.bool eqQueu30) ∧
    (((!eqQueu30) || (!(xQueueD119 == xQueueD94))) = true →
    (∀ wr140, ExtX [b, b1, b22, b23, b28] wv53 wr140 → R (.bool false) wr140)) ∧
    (((!eqQueu30) || (!(xQueueD119 == xQueueD94))) = false →
    (∀ wr141, ExtX [b, b1, b22, b23, b28] wv53 wr141 → (∀ bq ∈ ([b, b1, b22, b23, b28] : List Nat), bq < wr141.heap.size) → 
    Calls Try.prog fn_laws_toQueue #[.agg #[.int .i64 aQ0, .int .i64 aQ1, .int .i64 aQ2, .slice aQ3O aQ3L aQ3C]] wr141 fun e54 wv54 =>
    (∃ (toQueu125 : Int) (toQueu126 : Int) (toQueu127 : Int) (toQueu128O : Option Addr) (toQueu128L : Nat) (toQueu128C : Nat),
    e54 = .returned (.agg #[.int .i64 toQueu125, .int .i64 toQueu126, .int .i64 toQueu127, .slice toQueu128O toQueu128L toQueu128C]) ∧ Kept [b, b1, b22, b23, b28] wr141 wv54 ∧
    (some (ty_impl_Queue, ([.int .i64 toQueu100, .int .i64 toQueu101, .int .i64 toQueu102, .slice toQueu103O toQueu103L toQueu103C] : List Value)) = some (ty_impl_Queue, ([.int .i64 toQueu100, .int .i64 toQueu101, .int .i64 toQueu102, .slice toQueu103O toQueu103L toQueu103C] : List Value))) ∧
    (∃ (eqQueu31 : Bool),
    PureX [b, b1, b22, b23, b28] Try.prog fn_laws_eqQueue #[.agg #[.int .i64 toQueu100, .int .i64 toQueu101, .int .i64 toQueu102, .slice toQueu103O toQueu103L toQueu103C], .agg #[.int .i64 toQueu125, .int .i64 toQueu126, .int .i64 toQueu127, .slice toQueu128O toQueu128L toQueu128C]] wv54 (.bool eqQueu31) ∧
    ((!eqQueu31) = true →
    (∀ wr142, ExtX [b, b1, b22, b23, b28] wv54 wr142 → R (.bool false) wr142)) ∧
    ((!eqQueu31) = false →
    (∀ wr143, ExtX [b, b1, b22, b23, b28] wv54 wr143 → (∀ bq ∈ ([b, b1, b22, b23, b28] : List Nat), bq < wr143.heap.size) → 
    Calls Try.prog fn_laws_markQueue #[.agg #[.int .i64 toQueu100, .int .i64 toQueu101, .int .i64 toQueu102, .slice toQueu103O toQueu103L toQueu103C], .int .i64 1] wr143 fun e55 wv55 =>
    (∃ (markQu10 : Int),
    e55 = .returned (.int .i64 markQu10) ∧ Kept [b, b1, b22, b23, b28] wr143 wv55 ∧
    (∃ (eqQueu32 : Bool),
    ((decide (markQu10 < 0)) = false → PureX [b, b1, b22, b23, b28] Try.prog fn_laws_eqQueue #[.agg #[.int .i64 xQueueD115, .int .i64 xQueueD116, .int .i64 xQueueD117, .slice xQueueD118O xQueueD118L xQueueD118C], .agg #[.int .i64 xQueueD90, .int .i64 xQueueD91, .int .i64 xQueueD92, .slice xQueueD93O xQueueD93L xQueueD93C]] wv55 (.bool eqQueu32)) ∧
    ((((decide (markQu10 < 0)) || (!eqQueu32)) || (!(xQueueD119 == xQueueD94))) = true →
    (∀ wr144, ExtX [b, b1, b22, b23, b28] wv55 wr144 → R (.bool false) wr144)) ∧
    ((((decide (markQu10 < 0)) || (!eqQueu32)) || (!(xQueueD119 == xQueueD94))) = false →
    (∀ wr145, ExtX [b, b1, b22, b23, b28] wv55 wr145 → (∀ bq ∈ ([b, b1, b22, b23, b28] : List Nat), bq < wr145.heap.size) → 
    Calls Try.prog fn_laws_markQueue #[.agg #[.int .i64 xQueueD115, .int .i64 xQueueD116, .int .i64 xQueueD117, .slice xQueueD118O xQueueD118L xQueueD118C], .int .i64 1] wr145 fun e56 wv56 =>
    (∃ (markQu11 : Int),
    e56 = .returned (.int .i64 markQu11) ∧ Kept [b, b1, b22, b23, b28] wr145 wv56 ∧
    (∃ (heldQu20 : Int),
    PureX [b, b1, b22, b23, b28] Try.prog fn_laws_heldQueue #[.agg #[.int .i64 xQueueD115, .int .i64 xQueueD116, .int .i64 xQueueD117, .slice xQueueD118O xQueueD118L xQueueD118C], .int .i64 1] wv56 (.int .i64 heldQu20) ∧
    ((decide (heldQu20 < 0)) = true →
    (∀ wr146, ExtX [b, b1, b22, b23, b28] wv56 wr146 → R (.bool false) wr146)) ∧
    ((decide (heldQu20 < 0)) = false →
    ((heldQu20 != markQu11) = true →
    (∀ wr147, ExtX [b, b1, b22, b23, b28] wv56 wr147 → R (.bool false) wr147)) ∧
    ((heldQu20 != markQu11) = false →
    ((∀ wr148, ExtX [b, b1, b22, b23, b28] wv56 wr148 → (∀ bq ∈ ([b, b1, b22, b23, b28] : List Nat), bq < wr148.heap.size) → 
    Calls Try.prog fn_laws_toQueue #[.agg #[.int .i64 aQ0, .int .i64 aQ1, .int .i64 aQ2, .slice aQ3O aQ3L aQ3C]] wr148 fun e57 wv57 =>
    (∃ (toQueu129 : Int) (toQueu130 : Int) (toQueu131 : Int) (toQueu132O : Option Addr) (toQueu132L : Nat) (toQueu132C : Nat),
    e57 = .returned (.agg #[.int .i64 toQueu129, .int .i64 toQueu130, .int .i64 toQueu131, .slice toQueu132O toQueu132L toQueu132C]) ∧ Kept [b, b1, b22, b23, b28] wr148 wv57 ∧
    (some (ty_laws_QueueOp, ([.int .i64 aOp0, .int .i64 aOp1, .int .i64 aOp2] : List Value)) = some (ty_laws_QueueOp, ([.int .i64 aOp0, .int .i64 aOp1, .int .i64 aOp2] : List Value))) ∧
    (∃ (toQueu133 : Int) (toQueu134 : Int) (toQueu135 : Int),
    PureX [b, b1, b22, b23, b28] Try.prog fn_laws_toQueueOp #[.agg #[.int .i64 aOp0, .int .i64 aOp1, .int .i64 aOp2]] wv57 (.agg #[.int .i64 toQueu133, .int .i64 toQueu134, .int .i64 toQueu135]) ∧
    ((∀ wr149, ExtX [b, b1, b22, b23, b28] wv57 wr149 → (∀ bq ∈ ([b, b1, b22, b23, b28] : List Nat), bq < wr149.heap.size) → 
    Calls Try.prog fn_impl_QueueDo #[.agg #[.int .i64 toQueu129, .int .i64 toQueu130, .int .i64 toQueu131, .slice toQueu132O toQueu132L toQueu132C], .agg #[.int .i64 toQueu133, .int .i64 toQueu134, .int .i64 toQueu135]] wr149 fun e58 wv58 =>
    (∃ (xQueueD120 : Int) (xQueueD121 : Int) (xQueueD122 : Int) (xQueueD123O : Option Addr) (xQueueD123L : Nat) (xQueueD123C : Nat) (xQueueD124 : Bool),
    e58 = .returned (.tuple #[.agg #[.int .i64 xQueueD120, .int .i64 xQueueD121, .int .i64 xQueueD122, .slice xQueueD123O xQueueD123L xQueueD123C], .bool xQueueD124]) ∧ Kept [b, b1, b22, b23, b28] wr149 wv58 ∧
    (∀ b29, wv58.heap.size ≤ b29 →
    PureX [b, b1, b22, b23, b28] Try.prog fn_laws_toQueueOp #[.agg #[.int .i64 aOp0, .int .i64 aOp1, .int .i64 aOp2]] wv58 (.agg #[.int .i64 toQueu133, .int .i64 toQueu134, .int .i64 toQueu135]) ∧
    (some (ty_laws_QueueOp, ([.int .i64 aOp0, .int .i64 aOp1, .int .i64 aOp2] : List Value)) = some (ty_laws_QueueOp, ([.int .i64 aOp0, .int .i64 aOp1, .int .i64 aOp2] : List Value))) ∧
    (some (ty_laws_Queue, ([.int .i64 aQ0, .int .i64 aQ1, .int .i64 aQ2, .slice aQ3O aQ3L aQ3C] : List Value)) = some (ty_laws_Queue, ([.int .i64 aQ0, .int .i64 aQ1, .int .i64 aQ2, .slice aQ3O aQ3L aQ3C] : List Value))) ∧
    (∃ (eqQueu33 : Bool),
    PureX [b, b1, b22, b23, b28] Try.prog fn_laws_eqQueue #[.agg #[.int .i64 xQueueD120, .int .i64 xQueueD121, .int .i64 xQueueD122, .slice xQueueD123O xQueueD123L xQueueD123C], .agg #[.int .i64 xQueueD90, .int .i64 xQueueD91, .int .i64 xQueueD92, .slice xQueueD93O xQueueD93L xQueueD93C]] wv58 (.bool eqQueu33) ∧
    (((!eqQueu33) || (!(xQueueD124 == xQueueD94))) = true →
    (∀ wr150, ExtX [b, b1, b22, b23, b28] wv58 wr150 → R (.bool false) wr150)) ∧
    (((!eqQueu33) || (!(xQueueD124 == xQueueD94))) = false →
    (∃ (heldQu21 : Int),
    PureX [b, b1, b22, b23, b28] Try.prog fn_laws_heldQueue #[.agg #[.int .i64 xQueueD115, .int .i64 xQueueD116, .int .i64 xQueueD117, .slice xQueueD118O xQueueD118L xQueueD118C], .int .i64 1] wv58 (.int .i64 heldQu21) ∧
    ((decide (heldQu21 < 0)) = true →
    (∀ wr151, ExtX [b, b1, b22, b23, b28] wv58 wr151 → R (.bool false) wr151)) ∧
    ((decide (heldQu21 < 0)) = false →
    ((heldQu21 != markQu11) = true →
    (∀ wr152, ExtX [b, b1, b22, b23, b28] wv58 wr152 → R (.bool false) wr152)) ∧
    ((heldQu21 != markQu11) = false →
    (∀ wr153, ExtX [b, b1, b22, b23, b28] wv58 wr153 → R (.bool true) wr153)))))))))) ∧
    ((∀ b30, wv57.heap.size ≤ b30 →
    PureX [b, b1, b22, b23, b28] Try.prog fn_laws_toQueueOp #[.agg #[.int .i64 aOp0, .int .i64 aOp1, .int .i64 aOp2]] wv57 (.agg #[.int .i64 toQueu133, .int .i64 toQueu134, .int .i64 toQueu135]) ∧
    (some (ty_laws_QueueOp, ([.int .i64 aOp0, .int .i64 aOp1, .int .i64 aOp2] : List Value)) = some (ty_laws_QueueOp, ([.int .i64 aOp0, .int .i64 aOp1, .int .i64 aOp2] : List Value))) ∧
    (some (ty_laws_Queue, ([.int .i64 aQ0, .int .i64 aQ1, .int .i64 aQ2, .slice aQ3O aQ3L aQ3C] : List Value)) = some (ty_laws_Queue, ([.int .i64 aQ0, .int .i64 aQ1, .int .i64 aQ2, .slice aQ3O aQ3L aQ3C] : List Value))) ∧
    (∀ wr154, ExtX [b, b1, b22, b23, b28] wv57 wr154 → (∀ bq ∈ ([b, b1, b22, b23, b28, b30] : List Nat), bq < wr154.heap.size) → 
    Calls Try.prog fn_impl_QueueDo #[.agg #[.int .i64 toQueu129, .int .i64 toQueu130, .int .i64 toQueu131, .slice toQueu132O toQueu132L toQueu132C], .agg #[.int .i64 toQueu133, .int .i64 toQueu134, .int .i64 toQueu135]] wr154 fun e59 wv59 =>
    (∃ (xQueueD125 : Int) (xQueueD126 : Int) (xQueueD127 : Int) (xQueueD128O : Option Addr) (xQueueD128L : Nat) (xQueueD128C : Nat) (xQueueD129 : Bool),
    e59 = .returned (.tuple #[.agg #[.int .i64 xQueueD125, .int .i64 xQueueD126, .int .i64 xQueueD127, .slice xQueueD128O xQueueD128L xQueueD128C], .bool xQueueD129]) ∧ Kept [b, b1, b22, b23, b28, b30] wr154 wv59 ∧
    (∃ (eqQueu34 : Bool),
    PureX [b, b1, b22, b23, b28, b30] Try.prog fn_laws_eqQueue #[.agg #[.int .i64 xQueueD125, .int .i64 xQueueD126, .int .i64 xQueueD127, .slice xQueueD128O xQueueD128L xQueueD128C], .agg #[.int .i64 xQueueD90, .int .i64 xQueueD91, .int .i64 xQueueD92, .slice xQueueD93O xQueueD93L xQueueD93C]] wv59 (.bool eqQueu34) ∧
    (((!eqQueu34) || (!(xQueueD129 == xQueueD94))) = true →
    (∀ wr155, ExtX [b, b1, b22, b23, b28, b30] wv59 wr155 → R (.bool false) wr155)) ∧
    (((!eqQueu34) || (!(xQueueD129 == xQueueD94))) = false →
    (∃ (heldQu22 : Int),
    PureX [b, b1, b22, b23, b28, b30] Try.prog fn_laws_heldQueue #[.agg #[.int .i64 xQueueD115, .int .i64 xQueueD116, .int .i64 xQueueD117, .slice xQueueD118O xQueueD118L xQueueD118C], .int .i64 1] wv59 (.int .i64 heldQu22) ∧
    ((decide (heldQu22 < 0)) = true →
    (∀ wr156, ExtX [b, b1, b22, b23, b28, b30] wv59 wr156 → R (.bool false) wr156)) ∧
    ((decide (heldQu22 < 0)) = false →
    ((heldQu22 != markQu11) = true →
    (∀ wr157, ExtX [b, b1, b22, b23, b28, b30] wv59 wr157 → R (.bool false) wr157)) ∧
    ((heldQu22 != markQu11) = false →
    (∀ wr158, ExtX [b, b1, b22, b23, b28, b30] wv59 wr158 → R (.bool true) wr158)))))))))))))) ∧
    ((∀ b31, wv56.heap.size ≤ b31 →
    (some (ty_laws_QueueOp, ([.int .i64 aOp0, .int .i64 aOp1, .int .i64 aOp2] : List Value)) = some (ty_laws_QueueOp, ([.int .i64 aOp0, .int .i64 aOp1, .int .i64 aOp2] : List Value))) ∧
    (some (ty_laws_Queue, ([.int .i64 aQ0, .int .i64 aQ1, .int .i64 aQ2, .slice aQ3O aQ3L aQ3C] : List Value)) = some (ty_laws_Queue, ([.int .i64 aQ0, .int .i64 aQ1, .int .i64 aQ2, .slice aQ3O aQ3L aQ3C] : List Value))) ∧
    (∀ wr159, ExtX [b, b1, b22, b23, b28] wv56 wr159 → (∀ bq ∈ ([b, b1, b22, b23, b28, b31] : List Nat), bq < wr159.heap.size) → 
    Calls Try.prog fn_laws_toQueue #[.agg #[.int .i64 aQ0, .int .i64 aQ1, .int .i64 aQ2, .slice aQ3O aQ3L aQ3C]] wr159 fun e60 wv60 =>
    (∃ (toQueu136 : Int) (toQueu137 : Int) (toQueu138 : Int) (toQueu139O : Option Addr) (toQueu139L : Nat) (toQueu139C : Nat),
    e60 = .returned (.agg #[.int .i64 toQueu136, .int .i64 toQueu137, .int .i64 toQueu138, .slice toQueu139O toQueu139L toQueu139C]) ∧ Kept [b, b1, b22, b23, b28, b31] wr159 wv60 ∧
    (some (ty_laws_QueueOp, ([.int .i64 aOp0, .int .i64 aOp1, .int .i64 aOp2] : List Value)) = some (ty_laws_QueueOp, ([.int .i64 aOp0, .int .i64 aOp1, .int .i64 aOp2] : List Value))) ∧
    (∃ (toQueu140 : Int) (toQueu141 : Int) (toQueu142 : Int),
    PureX [b, b1, b22, b23, b28, b31] Try.prog fn_laws_toQueueOp #[.agg #[.int .i64 aOp0, .int .i64 aOp1, .int .i64 aOp2]] wv60 (.agg #[.int .i64 toQueu140, .int .i64 toQueu141, .int .i64 toQueu142]) ∧
    (∀ wr160, ExtX [b, b1, b22, b23, b28, b31] wv60 wr160 → (∀ bq ∈ ([b, b1, b22, b23, b28, b31] : List Nat), bq < wr160.heap.size) → 
    Calls Try.prog fn_impl_QueueDo #[.agg #[.int .i64 toQueu136, .int .i64 toQueu137, .int .i64 toQueu138, .slice toQueu139O toQueu139L toQueu139C], .agg #[.int .i64 toQueu140, .int .i64 toQueu141, .int .i64 toQueu142]] wr160 fun e61 wv61 =>
    (∃ (xQueueD130 : Int) (xQueueD131 : Int) (xQueueD132 : Int) (xQueueD133O : Option Addr) (xQueueD133L : Nat) (xQueueD133C : Nat) (xQueueD134 : Bool),
    e61 = .returned (.tuple #[.agg #[.int .i64 xQueueD130, .int .i64 xQueueD131, .int .i64 xQueueD132, .slice xQueueD133O xQueueD133L xQueueD133C], .bool xQueueD134]) ∧ Kept [b, b1, b22, b23, b28, b31] wr160 wv61 ∧
    (∃ (eqQueu35 : Bool),
    PureX [b, b1, b22, b23, b28, b31] Try.prog fn_laws_eqQueue #[.agg #[.int .i64 xQueueD130, .int .i64 xQueueD131, .int .i64 xQueueD132, .slice xQueueD133O xQueueD133L xQueueD133C], .agg #[.int .i64 xQueueD90, .int .i64 xQueueD91, .int .i64 xQueueD92, .slice xQueueD93O xQueueD93L xQueueD93C]] wv61 (.bool eqQueu35) ∧
    (((!eqQueu35) || (!(xQueueD134 == xQueueD94))) = true →
    (∀ wr161, ExtX [b, b1, b22, b23, b28, b31] wv61 wr161 → R (.bool false) wr161)) ∧
    (((!eqQueu35) || (!(xQueueD134 == xQueueD94))) = false →
    (∃ (heldQu23 : Int),
    PureX [b, b1, b22, b23, b28, b31] Try.prog fn_laws_heldQueue #[.agg #[.int .i64 xQueueD115, .int .i64 xQueueD116, .int .i64 xQueueD117, .slice xQueueD118O xQueueD118L xQueueD118C], .int .i64 1] wv61 (.int .i64 heldQu23) ∧
    ((decide (heldQu23 < 0)) = true →
    (∀ wr162, ExtX [b, b1, b22, b23, b28, b31] wv61 wr162 → R (.bool false) wr162)) ∧
    ((decide (heldQu23 < 0)) = false →
    ((heldQu23 != markQu11) = true →
    (∀ wr163, ExtX [b, b1, b22, b23, b28, b31] wv61 wr163 → R (.bool false) wr163)) ∧
    ((heldQu23 != markQu11) = false →
    (∀ wr164, ExtX [b, b1, b22, b23, b28, b31] wv61 wr164 → R (.bool true) wr164)))))))))))))))))))))))))))))))))))))))))))))))
theorem v_laws_FnExactQueueDo (aQ0 : Int) (aQ1 : Int) (aQ2 : Int) (aQ3O : Option Addr) (aQ3L : Nat) (aQ3C : Nat) (aOp0 : Int) (aOp1 : Int) (aOp2 : Int) (w : World) (R : Value → World → Prop) : evFn c_laws_FnExactQueueDo s_laws_FnExactQueueDo [.agg #[.int .i64 aQ0, .int .i64 aQ1, .int .i64 aQ2, .slice aQ3O aQ3L aQ3C], .agg #[.int .i64 aOp0, .int .i64 aOp1, .int .i64 aOp2]] (bodyOf Try.f5) Try.f5.results.toList w R = V_laws_FnExactQueueDo aQ0 aQ1 aQ2 aQ3O aQ3L aQ3C aOp0 aOp1 aOp2 w R := by kernel_rfl
theorem e_laws_FnExactQueueDo (aQ0 : Int) (aQ1 : Int) (aQ2 : Int) (aQ3O : Option Addr) (aQ3L : Nat) (aQ3C : Nat) (aOp0 : Int) (aOp1 : Int) (aOp2 : Int) {w : World} {R : Value → World → Prop} (hvc : V_laws_FnExactQueueDo aQ0 aQ1 aQ2 aQ3O aQ3L aQ3C aOp0 aOp1 aOp2 w R) : Calls Try.prog fn_laws_FnExactQueueDo #[.agg #[.int .i64 aQ0, .int .i64 aQ1, .int .i64 aQ2, .slice aQ3O aQ3L aQ3C], .agg #[.int .i64 aOp0, .int .i64 aOp1, .int .i64 aOp2]] w fun e0 wr0 => ∃ v0, e0 = .returned v0 ∧ R v0 wr0 :=
  eff_of_ev (C := c_laws_FnExactQueueDo) (sps := s_laws_FnExactQueueDo) (body := bodyOf Try.f5) (env _ _ _) Try.func5 rfl rfl (of_decide_eq_true (by kernel_rfl)) (of_decide_eq_true (by kernel_rfl)) rfl ((v_laws_FnExactQueueDo aQ0 aQ1 aQ2 aQ3O aQ3L aQ3C aOp0 aOp1 aOp2 w _).mpr hvc)
noncomputable def c_impl_VirtualUnits : Cfg := { P := Try.prog, T := tblGet tbl, pf := pfT, ef := efT, tt := ttT, vis := [], n := 23, pm := true }
noncomputable def s_impl_VirtualUnits : List (Nat × LSpec) := []
def V_impl_VirtualUnits (v : Int) (weight : Int) (w : World) (R : Value → World → Prop) : Prop :=
    (∃ (inRang : Bool),
    PureX [] Try.prog fn_impl_inRange #[.int .i64 v, .int .i64 1, .int .i64 300000000000000000] w (.bool inRang) ∧
    (∃ (weight1 : Bool),
    ((!inRang) = false → PureX [] Try.prog fn_impl_weightOk #[.int .i64 weight] w (.bool weight1)) ∧
    (((!inRang) || (!weight1)) = true →
    R (.int .i64 0) w) ∧
    (((!inRang) || (!weight1)) = false →
    (∃ (weight2 : Int) (weight3 : Int) (weight4 : Int) (weight5 : Int) (weight6 : Int) (weight7 : Int) (weight8 : Int) (weight9 : Int) (weight10 : Int) (weight11 : Int) (weight12 : Int) (weight13 : Int) (weight14 : Int) (weight15 : Int) (weight16 : Int) (weight17 : Int) (weight18 : Int) (weight19 : Int) (weight20 : Int) (weight21 : Int) (weight22 : Int),
    PureX [] Try.prog fn_impl_weightSteps #[] w (.agg #[.int .i64 weight2, .int .i64 weight3, .int .i64 weight4, .int .i64 weight5, .int .i64 weight6, .int .i64 weight7, .int .i64 weight8, .int .i64 weight9, .int .i64 weight10, .int .i64 weight11, .int .i64 weight12, .int .i64 weight13, .int .i64 weight14, .int .i64 weight15, .int .i64 weight16, .int .i64 weight17, .int .i64 weight18, .int .i64 weight19, .int .i64 weight20, .int .i64 weight21, .int .i64 weight22]) ∧
    (∃ (x : Int),
    (0 ≤ weight ∧ weight < ((21 : Nat) : Int) ∧ (#[.int .i64 weight2, .int .i64 weight3, .int .i64 weight4, .int .i64 weight5, .int .i64 weight6, .int .i64 weight7, .int .i64 weight8, .int .i64 weight9, .int .i64 weight10, .int .i64 weight11, .int .i64 weight12, .int .i64 weight13, .int .i64 weight14, .int .i64 weight15, .int .i64 weight16, .int .i64 weight17, .int .i64 weight18, .int .i64 weight19, .int .i64 weight20, .int .i64 weight21, .int .i64 weight22] : Array Value)[Int.toNat weight]? = some (.int .i64 x)) ∧
    InR .i64 (v + x) ∧
    InR .i64 ((v + x) - 1) ∧
    (x ≠ 0 ∧ InR .i64 (Int.tdiv ((v + x) - 1) x)) ∧
    R (.int .i64 (Int.tdiv ((v + x) - 1) x)) w)))))
theorem v_impl_VirtualUnits (v : Int) (weight : Int) (w : World) (R : Value → World → Prop) : evFn c_impl_VirtualUnits s_impl_VirtualUnits [.int .i64 v, .int .i64 weight] (bodyOf Try.f74) Try.f74.results.toList w R = V_impl_VirtualUnits v weight w R := by kernel_rfl
theorem p_impl_VirtualUnits (v : Int) (weight : Int) {w : World} {bs : List Nat} {ret : Value} (hvc : ∀ wr0, ExtX bs w wr0 → V_impl_VirtualUnits v weight wr0 fun v0 _ => v0 = ret) : PureX bs Try.prog fn_impl_VirtualUnits #[.int .i64 v, .int .i64 weight] w ret :=
  pure_of_ev (C := c_impl_VirtualUnits) (sps := s_impl_VirtualUnits) (body := bodyOf Try.f74) (env _ _ _) Try.func74 rfl rfl (of_decide_eq_true (by kernel_rfl)) (of_decide_eq_true (by kernel_rfl)) rfl fun wr0 hx0 => (v_impl_VirtualUnits v weight wr0 _).mpr (hvc wr0 hx0)
noncomputable def c_impl_QueueWait : Cfg := { P := Try.prog, T := tblGet tbl, pf := pfT, ef := efT, tt := ttT, vis := [3], n := 70, pm := false }
noncomputable def s_impl_QueueWait : List (Nat × LSpec) := [(9, { chg := [(9, .int .i64), (46, .int .i64)], chgL := [], keep := [1, 8, 44, 45] })]
def V_impl_QueueWait (q0 : Int) (q1 : Int) (q2 : Int) (q3O : Option Addr) (q3L : Nat) (q3C : Nat) (atv : Int) (units : Int) (w : World) (R : Value → World → Prop) : Prop :=
    (∀ b wb, ExtX [] w wb → w.heap.size ≤ b → wb.heap[b]? = some (Obj.cells ([.int .i64 q0, .int .i64 q1, .int .i64 q2, .slice q3O q3L q3C] : List Value).toArray ty_impl_Queue (0, 0)) → b ∉ ([] : List Nat) →
    (∃ (x0 : Int) (x1 : Int) (x2 : Int) (x3O : Option Addr) (x3L : Nat) (x3C : Nat),
    CellsX [] wb (some (Addr.mk b 0 none)) 0 [.int .i64 x0, .int .i64 x1, .int .i64 x2, .slice x3O x3L x3C] ∧
    (∃ (xQueueO : Bool),
    PureX [] Try.prog fn_impl_QueueOk #[.agg #[.int .i64 x0, .int .i64 x1, .int .i64 x2, .slice x3O x3L x3C]] wb (.bool xQueueO) ∧
    (∃ (inRang : Bool),
    ((!xQueueO) = false → PureX [] Try.prog fn_impl_inRange #[.int .i64 units, .int .i64 1, .int .i64 100000000] wb (.bool inRang)) ∧
    (((!xQueueO) || (!inRang)) = true →
    (∀ wr, ExtX [] wb wr → R (.int .i64 0) wr)) ∧
    (((!xQueueO) || (!inRang)) = false →
    (∃ (entry : Option Addr),
    PureX [] Try.prog fn_impl_Queue_entry #[.pointer ((some (Addr.mk b 0 none)).map (·.add 0)), .int .i64 atv] wb (.pointer entry) ∧
    (entry.isNone = false → entry.isSome = true) ∧
    (∃ (onv : Bool),
    (entry.isNone = false → CellsX [] wb entry (0 + 0) [.bool onv]) ∧
    ((entry.isNone || (!onv)) = true →
    (∀ wr1, ExtX [] wb wr1 → R (.int .i64 0) wr1)) ∧
    ((entry.isNone || (!onv)) = false →
    entry.isSome = true ∧
    (∃ (v : Int),
    CellsX [] wb entry (0 + 1) [.int .i64 v] ∧
    entry.isSome = true ∧
    (∃ (wv : Int),
    CellsX [] wb entry (0 + 2) [.int .i64 wv] ∧
    (∃ (xVirtua : Int),
    PureX [] Try.prog fn_impl_VirtualStep #[.int .i64 units, .int .i64 wv] wb (.int .i64 xVirtua) ∧
    InR .i64 (v + xVirtua) ∧
    (∃ (entriesO : Option Addr) (entriesL : Nat) (entriesC : Nat),
    CellsX [] wb (some (Addr.mk b 0 none)) (0 + 3) [.slice entriesO entriesL entriesC] ∧
    (∃ (xInv : List Value → World → Prop) (mu : List Value → World → Nat), (∀ wr2, ExtX [] wb wr2 → (∀ bq ∈ ([] : List Nat), bq < wr2.heap.size) → xInv [.int .i64 units, .int .i64 0] wr2) ∧
    ∀ (wait : Int) (x : Int) wv1, (∀ bq ∈ ([] : List Nat), bq < wv1.heap.size) → xInv [.int .i64 wait, .int .i64 x] wv1 →
    ((decide (x < ((entriesL : Nat) : Int))) = true →
    Ix entriesO entriesL x ∧
    (∃ (x01 : Bool) (x11 : Int) (x21 : Int) (x31 : Int),
    CellsX [] wv1 entriesO (Int.toNat x * 4) [.bool x01, .int .i64 x11, .int .i64 x21, .int .i64 x31] ∧
    (∀ b1, wv1.heap.size ≤ b1 →
    (((x != atv) && x01) = true →
    InR .i64 ((v + xVirtua) - x11) ∧
    (∃ (xVirtua1 : Int),
    PureX [] Try.prog fn_impl_VirtualUnits #[.int .i64 ((v + xVirtua) - x11), .int .i64 x21] wv1 (.int .i64 xVirtua1) ∧
    InR .i64 (149 + xVirtua1) ∧
    InR .i64 (wait + (149 + xVirtua1)) ∧
    InR .i64 (x + 1) ∧
    (∀ wr3, ExtX [] wv1 wr3 → (∀ bq ∈ ([b1] : List Nat), bq < wr3.heap.size) → xInv [.int .i64 (wait + (149 + xVirtua1)), .int .i64 (x + 1)] wr3 ∧ mu [.int .i64 (wait + (149 + xVirtua1)), .int .i64 (x + 1)] wr3 < mu [.int .i64 wait, .int .i64 x] wv1))) ∧
    (((x != atv) && x01) = false →
    InR .i64 (x + 1) ∧
    (∀ wr4, ExtX [] wv1 wr4 → (∀ bq ∈ ([b1] : List Nat), bq < wr4.heap.size) → xInv [.int .i64 wait, .int .i64 (x + 1)] wr4 ∧ mu [.int .i64 wait, .int .i64 (x + 1)] wr4 < mu [.int .i64 wait, .int .i64 x] wv1))))) ∧
    ((decide (x < ((entriesL : Nat) : Int))) = false →
    (∀ wr5, ExtX [] wv1 wr5 → R (.int .i64 wait) wr5)))))))))))))))
theorem v_impl_QueueWait (q0 : Int) (q1 : Int) (q2 : Int) (q3O : Option Addr) (q3L : Nat) (q3C : Nat) (atv : Int) (units : Int) (w : World) (R : Value → World → Prop) : evFn c_impl_QueueWait s_impl_QueueWait [.agg #[.int .i64 q0, .int .i64 q1, .int .i64 q2, .slice q3O q3L q3C], .int .i64 atv, .int .i64 units] (bodyOf Try.f27) Try.f27.results.toList w R = V_impl_QueueWait q0 q1 q2 q3O q3L q3C atv units w R := by kernel_rfl
theorem e_impl_QueueWait (q0 : Int) (q1 : Int) (q2 : Int) (q3O : Option Addr) (q3L : Nat) (q3C : Nat) (atv : Int) (units : Int) {w : World} {R : Value → World → Prop} (hvc : V_impl_QueueWait q0 q1 q2 q3O q3L q3C atv units w R) : Calls Try.prog fn_impl_QueueWait #[.agg #[.int .i64 q0, .int .i64 q1, .int .i64 q2, .slice q3O q3L q3C], .int .i64 atv, .int .i64 units] w fun e0 wr0 => ∃ v0, e0 = .returned v0 ∧ R v0 wr0 :=
  eff_of_ev (C := c_impl_QueueWait) (sps := s_impl_QueueWait) (body := bodyOf Try.f27) (env _ _ _) Try.func27 rfl rfl (of_decide_eq_true (by kernel_rfl)) (of_decide_eq_true (by kernel_rfl)) rfl ((v_impl_QueueWait q0 q1 q2 q3O q3L q3C atv units w _).mpr hvc)
noncomputable def c_spec_VirtualUnits : Cfg := { P := Try.prog, T := tblGet tbl, pf := pfT, ef := efT, tt := ttT, vis := [], n := 22, pm := true }
noncomputable def s_spec_VirtualUnits : List (Nat × LSpec) := []
def V_spec_VirtualUnits (v : Int) (weight : Int) (w : World) (R : Value → World → Prop) : Prop :=
    (∃ (l1Weig : Bool),
    PureX [] Try.prog fn_spec_l1Weight #[.int .i64 weight] w (.bool l1Weig) ∧
    (∃ (l1In : Bool),
    ((!l1Weig) = false → PureX [] Try.prog fn_spec_l1In #[.int .i64 v, .int .i64 1, .int .i64 300000000000000000] w (.bool l1In)) ∧
    (((!l1Weig) || (!l1In)) = true →
    R (.int .i64 0) w) ∧
    (((!l1Weig) || (!l1In)) = false →
    (weight ≠ 0 ∧ InR .i64 (Int.tdiv 232792560 weight)) ∧
    InR .i64 (v + (Int.tdiv 232792560 weight)) ∧
    InR .i64 ((v + (Int.tdiv 232792560 weight)) - 1) ∧
    (Int.tdiv 232792560 weight ≠ 0 ∧ InR .i64 (Int.tdiv ((v + (Int.tdiv 232792560 weight)) - 1) (Int.tdiv 232792560 weight))) ∧
    R (.int .i64 (Int.tdiv ((v + (Int.tdiv 232792560 weight)) - 1) (Int.tdiv 232792560 weight))) w)))
theorem v_spec_VirtualUnits (v : Int) (weight : Int) (w : World) (R : Value → World → Prop) : evFn c_spec_VirtualUnits s_spec_VirtualUnits [.int .i64 v, .int .i64 weight] (bodyOf Try.f76) Try.f76.results.toList w R = V_spec_VirtualUnits v weight w R := by kernel_rfl
theorem p_spec_VirtualUnits (v : Int) (weight : Int) {w : World} {bs : List Nat} {ret : Value} (hvc : ∀ wr0, ExtX bs w wr0 → V_spec_VirtualUnits v weight wr0 fun v0 _ => v0 = ret) : PureX bs Try.prog fn_spec_VirtualUnits #[.int .i64 v, .int .i64 weight] w ret :=
  pure_of_ev (C := c_spec_VirtualUnits) (sps := s_spec_VirtualUnits) (body := bodyOf Try.f76) (env _ _ _) Try.func76 rfl rfl (of_decide_eq_true (by kernel_rfl)) (of_decide_eq_true (by kernel_rfl)) rfl fun wr0 hx0 => (v_spec_VirtualUnits v weight wr0 _).mpr (hvc wr0 hx0)
noncomputable def c_spec_QueueWait : Cfg := { P := Try.prog, T := tblGet tbl, pf := pfT, ef := efT, tt := ttT, vis := [], n := 91, pm := true }
noncomputable def s_spec_QueueWait : List (Nat × LSpec) := [(6, { chg := [(8, .int .i64), (9, .int .i64)], chgL := [], keep := [1, 3, 7] })]
def V_spec_QueueWait (q0 : Int) (q1 : Int) (q2 : Int) (q3O : Option Addr) (q3L : Nat) (q3C : Nat) (atv : Int) (units : Int) (w : World) (R : Value → World → Prop) : Prop :=
    (∀ b, w.heap.size ≤ b →
    (∃ (xQueueO : Bool),
    PureX [] Try.prog fn_spec_QueueOk #[.agg #[.int .i64 q0, .int .i64 q1, .int .i64 q2, .slice q3O q3L q3C]] w (.bool xQueueO) ∧
    ((!xQueueO) = false → InR .i64 (((q3L : Nat) : Int) - 1)) ∧
    (∃ (l1In : Bool),
    ((!xQueueO) = false → PureX [] Try.prog fn_spec_l1In #[.int .i64 atv, .int .i64 0, .int .i64 (((q3L : Nat) : Int) - 1)] w (.bool l1In)) ∧
    (∃ (l1In1 : Bool),
    (((!xQueueO) || (!l1In)) = false → PureX [] Try.prog fn_spec_l1In #[.int .i64 units, .int .i64 1, .int .i64 100000000] w (.bool l1In1)) ∧
    ((((!xQueueO) || (!l1In)) || (!l1In1)) = false → Ix q3O q3L atv) ∧
    (∃ (onv : Bool),
    ((((!xQueueO) || (!l1In)) || (!l1In1)) = false → CellsX [] w q3O (Int.toNat atv * 4 + 0) [.bool onv]) ∧
    (((((!xQueueO) || (!l1In)) || (!l1In1)) || (!onv)) = true →
    R (.int .i64 0) w) ∧
    (((((!xQueueO) || (!l1In)) || (!l1In1)) || (!onv)) = false →
    Ix q3O q3L atv ∧
    (∃ (v : Int),
    CellsX [] w q3O (Int.toNat atv * 4 + 1) [.int .i64 v] ∧
    Ix q3O q3L atv ∧
    (∃ (wv : Int),
    CellsX [] w q3O (Int.toNat atv * 4 + 2) [.int .i64 wv] ∧
    (∃ (xVirtua : Int),
    PureX [] Try.prog fn_spec_VirtualStep #[.int .i64 units, .int .i64 wv] w (.int .i64 xVirtua) ∧
    InR .i64 (v + xVirtua) ∧
    (∃ (xInv : List Value → Prop) (mu : List Value → Nat), xInv [.int .i64 units, .int .i64 0] ∧
    ∀ (n : Int) (j : Int), xInv [.int .i64 n, .int .i64 j] →
    ((decide (j < ((q3L : Nat) : Int))) = true →
    ((j != atv) = true → Ix q3O q3L j) ∧
    (∃ (onv1 : Bool),
    ((j != atv) = true → CellsX [] w q3O (Int.toNat j * 4 + 0) [.bool onv1]) ∧
    (((j != atv) && onv1) = true →
    Ix q3O q3L j ∧
    (∃ (v1 : Int),
    CellsX [] w q3O (Int.toNat j * 4 + 1) [.int .i64 v1] ∧
    InR .i64 ((v + xVirtua) - v1) ∧
    Ix q3O q3L j ∧
    (∃ (wv1 : Int),
    CellsX [] w q3O (Int.toNat j * 4 + 2) [.int .i64 wv1] ∧
    (∃ (xVirtua1 : Int),
    PureX [] Try.prog fn_spec_VirtualUnits #[.int .i64 ((v + xVirtua) - v1), .int .i64 wv1] w (.int .i64 xVirtua1) ∧
    InR .i64 (n + xVirtua1) ∧
    InR .i64 ((n + xVirtua1) + 50) ∧
    InR .i64 (((n + xVirtua1) + 50) - 1) ∧
    InR .i64 ((((n + xVirtua1) + 50) - 1) + 100) ∧
    InR .i64 (j + 1) ∧
    xInv [.int .i64 ((((n + xVirtua1) + 50) - 1) + 100), .int .i64 (j + 1)] ∧ mu [.int .i64 ((((n + xVirtua1) + 50) - 1) + 100), .int .i64 (j + 1)] < mu [.int .i64 n, .int .i64 j])))) ∧
    (((j != atv) && onv1) = false →
    InR .i64 (j + 1) ∧
    xInv [.int .i64 n, .int .i64 (j + 1)] ∧ mu [.int .i64 n, .int .i64 (j + 1)] < mu [.int .i64 n, .int .i64 j]))) ∧
    ((decide (j < ((q3L : Nat) : Int))) = false →
    R (.int .i64 n) w)))))))))))
theorem v_spec_QueueWait (q0 : Int) (q1 : Int) (q2 : Int) (q3O : Option Addr) (q3L : Nat) (q3C : Nat) (atv : Int) (units : Int) (w : World) (R : Value → World → Prop) : evFn c_spec_QueueWait s_spec_QueueWait [.agg #[.int .i64 q0, .int .i64 q1, .int .i64 q2, .slice q3O q3L q3C], .int .i64 atv, .int .i64 units] (bodyOf Try.f28) Try.f28.results.toList w R = V_spec_QueueWait q0 q1 q2 q3O q3L q3C atv units w R := by kernel_rfl
theorem p_spec_QueueWait (q0 : Int) (q1 : Int) (q2 : Int) (q3O : Option Addr) (q3L : Nat) (q3C : Nat) (atv : Int) (units : Int) {w : World} {bs : List Nat} {ret : Value} (hvc : ∀ wr0, ExtX bs w wr0 → V_spec_QueueWait q0 q1 q2 q3O q3L q3C atv units wr0 fun v0 _ => v0 = ret) : PureX bs Try.prog fn_spec_QueueWait #[.agg #[.int .i64 q0, .int .i64 q1, .int .i64 q2, .slice q3O q3L q3C], .int .i64 atv, .int .i64 units] w ret :=
  pure_of_ev (C := c_spec_QueueWait) (sps := s_spec_QueueWait) (body := bodyOf Try.f28) (env _ _ _) Try.func28 rfl rfl (of_decide_eq_true (by kernel_rfl)) (of_decide_eq_true (by kernel_rfl)) rfl fun wr0 hx0 => (v_spec_QueueWait q0 q1 q2 q3O q3L q3C atv units wr0 _).mpr (hvc wr0 hx0)
noncomputable def c_laws_FnQueueWait : Cfg := { P := Try.prog, T := tblGet tbl, pf := pfT, ef := efT, tt := ttT, vis := [], n := 106, pm := false }
noncomputable def s_laws_FnQueueWait : List (Nat × LSpec) := [(13, { chg := [(9, .int .i64), (11, .int .i64)], chgL := [(0, [.int .i64, .int .i64, .int .i64, .slice])], keep := [1, 5, 7, 8, 10] })]
def V_laws_FnQueueWait (codeO : Option Addr) (codeL : Nat) (codeC : Nat) (moreO : Option Addr) (moreL : Nat) (moreC : Nat) (w : World) (R : Value → World → Prop) : Prop :=
    (((decide (((codeL : Nat) : Int) > 1048576)) || (decide (((moreL : Nat) : Int) > 1048576))) = true →
    (∀ wr, ExtX [] w wr → R (.bool true) wr)) ∧
    (((decide (((codeL : Nat) : Int) > 1048576)) || (decide (((moreL : Nat) : Int) > 1048576))) = false →
    (∀ wr1, ExtX [] w wr1 → (∀ bq ∈ ([] : List Nat), bq < wr1.heap.size) → 
    Calls Try.prog fn_spec_GoodQueue #[.slice codeO codeL codeC] wr1 fun e wv =>
    (∃ (xGoodQu : Int) (xGoodQu1 : Int) (xGoodQu2 : Int) (xGoodQu3O : Option Addr) (xGoodQu3L : Nat) (xGoodQu3C : Nat) (xGoodQu4O : Option Addr) (xGoodQu4L : Nat) (xGoodQu4C : Nat),
    e = .returned (.tuple #[.agg #[.int .i64 xGoodQu, .int .i64 xGoodQu1, .int .i64 xGoodQu2, .slice xGoodQu3O xGoodQu3L xGoodQu3C], .slice xGoodQu4O xGoodQu4L xGoodQu4C]) ∧ Kept [] wr1 wv ∧
    (∀ b, wv.heap.size ≤ b →
    (∃ (stByte : Int),
    PureX [] Try.prog fn_laws_stByte #[.slice moreO moreL moreC, .int .i64 0] wv (.int .i64 stByte) ∧
    ((xGoodQu3L : Nat) : Int) ≠ 0 ∧
    (∃ (stByte1 : Int),
    PureX [] Try.prog fn_laws_stByte #[.slice moreO moreL moreC, .int .i64 1] wv (.int .i64 stByte1) ∧
    InR .i64 (1 + stByte1) ∧
    (∃ (xQueueW : Int),
    PureX [] Try.prog fn_impl_QueueWait #[.agg #[.int .i64 xGoodQu, .int .i64 xGoodQu1, .int .i64 xGoodQu2, .slice xGoodQu3O xGoodQu3L xGoodQu3C], .int .i64 (Int.tmod stByte ((xGoodQu3L : Nat) : Int)), .int .i64 (1 + stByte1)] wv (.int .i64 xQueueW) ∧
    (∃ (xQueueW1 : Int),
    PureX [] Try.prog fn_spec_QueueWait #[.agg #[.int .i64 xGoodQu, .int .i64 xGoodQu1, .int .i64 xGoodQu2, .slice xGoodQu3O xGoodQu3L xGoodQu3C], .int .i64 (Int.tmod stByte ((xGoodQu3L : Nat) : Int)), .int .i64 (1 + stByte1)] wv (.int .i64 xQueueW1) ∧
    ((xQueueW != xQueueW1) = false → Ix xGoodQu3O xGoodQu3L (Int.tmod stByte ((xGoodQu3L : Nat) : Int))) ∧
    (∃ (onv : Bool),
    ((xQueueW != xQueueW1) = false → CellsX [] wv xGoodQu3O (Int.toNat (Int.tmod stByte ((xGoodQu3L : Nat) : Int)) * 4 + 0) [.bool onv]) ∧
    (((xQueueW != xQueueW1) || (!((decide (xQueueW > 0)) == onv))) = true →
    (∀ wr2, ExtX [] wv wr2 → R (.bool false) wr2)) ∧
    (((xQueueW != xQueueW1) || (!((decide (xQueueW > 0)) == onv))) = false →
    (((xQueueW == 0) || (decide (xQueueW > 20000))) = true →
    (∀ wr3, ExtX [] wv wr3 → R (.bool true) wr3)) ∧
    (((xQueueW == 0) || (decide (xQueueW > 20000))) = false →
    Ix xGoodQu3O xGoodQu3L (Int.tmod stByte ((xGoodQu3L : Nat) : Int)) ∧
    (∃ (sum : Int),
    CellsX [] wv xGoodQu3O (Int.toNat (Int.tmod stByte ((xGoodQu3L : Nat) : Int)) * 4 + 3) [.int .i64 sum] ∧
    (∃ (xInv1 : List Value → World → Prop) (mu1 : List Value → World → Nat), (∀ wr7, ExtX [] wv wr7 → (∀ bq ∈ ([b] : List Nat), bq < wr7.heap.size) → xInv1 [.int .i64 xQueueW, .int .i64 2, .int .i64 xGoodQu, .int .i64 xGoodQu1, .int .i64 xGoodQu2, .slice xGoodQu3O xGoodQu3L xGoodQu3C] wr7) ∧
    ∀ (n1 : Int) (i1 : Int) (l : Int) (l1 : Int) (l2 : Int) (l3O : Option Addr) (l3L : Nat) (l3C : Nat) wv3, (∀ bq ∈ ([b] : List Nat), bq < wv3.heap.size) → xInv1 [.int .i64 n1, .int .i64 i1, .int .i64 l, .int .i64 l1, .int .i64 l2, .slice l3O l3L l3C] wv3 →
    ((decide (n1 > 0)) = true →
    (∃ (stByte3 : Int),
    PureX [b] Try.prog fn_laws_stByte #[.slice moreO moreL moreC, .int .i64 i1] wv3 (.int .i64 stByte3) ∧
    (100 : Int) ≠ 0 ∧
    InR .i64 (1 + (Int.tmod stByte3 100)) ∧
    ((decide (1 + (Int.tmod stByte3 100) > n1)) = true →
    (∀ wr8, ExtX [b] wv3 wr8 → (∀ bq ∈ ([b] : List Nat), bq < wr8.heap.size) → 
    Calls Try.prog fn_impl_QueueDo #[.agg #[.int .i64 l, .int .i64 l1, .int .i64 l2, .slice l3O l3L l3C], .agg #[.int .i64 3, .int .i64 0, .int .i64 n1]] wr8 fun e2 wv4 =>
    (∃ (xQueueD5 : Int) (xQueueD6 : Int) (xQueueD7 : Int) (xQueueD8O : Option Addr) (xQueueD8L : Nat) (xQueueD8C : Nat) (xQueueD9 : Bool),
    e2 = .returned (.tuple #[.agg #[.int .i64 xQueueD5, .int .i64 xQueueD6, .int .i64 xQueueD7, .slice xQueueD8O xQueueD8L xQueueD8C], .bool xQueueD9]) ∧ Kept [b] wr8 wv4 ∧
    (∀ b2, wv4.heap.size ≤ b2 →
    ((!xQueueD9) = true →
    (∀ wr9, ExtX [b] wv4 wr9 → R (.bool false) wr9)) ∧
    ((!xQueueD9) = false →
    InR .i64 (n1 - n1) ∧
    InR .i64 (i1 + 1) ∧
    (∀ wr10, ExtX [b] wv4 wr10 → (∀ bq ∈ ([b, b2] : List Nat), bq < wr10.heap.size) → xInv1 [.int .i64 (n1 - n1), .int .i64 (i1 + 1), .int .i64 xQueueD5, .int .i64 xQueueD6, .int .i64 xQueueD7, .slice xQueueD8O xQueueD8L xQueueD8C] wr10 ∧ mu1 [.int .i64 (n1 - n1), .int .i64 (i1 + 1), .int .i64 xQueueD5, .int .i64 xQueueD6, .int .i64 xQueueD7, .slice xQueueD8O xQueueD8L xQueueD8C] wr10 < mu1 [.int .i64 n1, .int .i64 i1, .int .i64 l, .int .i64 l1, .int .i64 l2, .slice l3O l3L l3C] wv3)))))) ∧
    ((decide (1 + (Int.tmod stByte3 100) > n1)) = false →
    (∀ wr11, ExtX [b] wv3 wr11 → (∀ bq ∈ ([b] : List Nat), bq < wr11.heap.size) → 
    Calls Try.prog fn_impl_QueueDo #[.agg #[.int .i64 l, .int .i64 l1, .int .i64 l2, .slice l3O l3L l3C], .agg #[.int .i64 3, .int .i64 0, .int .i64 (1 + (Int.tmod stByte3 100))]] wr11 fun e3 wv5 =>
    (∃ (xQueueD10 : Int) (xQueueD11 : Int) (xQueueD12 : Int) (xQueueD13O : Option Addr) (xQueueD13L : Nat) (xQueueD13C : Nat) (xQueueD14 : Bool),
    e3 = .returned (.tuple #[.agg #[.int .i64 xQueueD10, .int .i64 xQueueD11, .int .i64 xQueueD12, .slice xQueueD13O xQueueD13L xQueueD13C], .bool xQueueD14]) ∧ Kept [b] wr11 wv5 ∧
    (∀ b3, wv5.heap.size ≤ b3 →
    ((!xQueueD14) = true →
    (∀ wr12, ExtX [b] wv5 wr12 → R (.bool false) wr12)) ∧
    ((!xQueueD14) = false →
    InR .i64 (n1 - (1 + (Int.tmod stByte3 100))) ∧
    InR .i64 (i1 + 1) ∧
    (∀ wr13, ExtX [b] wv5 wr13 → (∀ bq ∈ ([b, b3] : List Nat), bq < wr13.heap.size) → xInv1 [.int .i64 (n1 - (1 + (Int.tmod stByte3 100))), .int .i64 (i1 + 1), .int .i64 xQueueD10, .int .i64 xQueueD11, .int .i64 xQueueD12, .slice xQueueD13O xQueueD13L xQueueD13C] wr13 ∧ mu1 [.int .i64 (n1 - (1 + (Int.tmod stByte3 100))), .int .i64 (i1 + 1), .int .i64 xQueueD10, .int .i64 xQueueD11, .int .i64 xQueueD12, .slice xQueueD13O xQueueD13L xQueueD13C] wr13 < mu1 [.int .i64 n1, .int .i64 i1, .int .i64 l, .int .i64 l1, .int .i64 l2, .slice l3O l3L l3C] wv3)))))))) ∧
    ((decide (n1 > 0)) = false →
    Ix l3O l3L (Int.tmod stByte ((xGoodQu3L : Nat) : Int)) ∧
    (∃ (sum1 : Int),
    CellsX [b] wv3 l3O (Int.toNat (Int.tmod stByte ((xGoodQu3L : Nat) : Int)) * 4 + 3) [.int .i64 sum1] ∧
    InR .i64 (sum1 - sum) ∧
    (∀ wr14, ExtX [b] wv3 wr14 → R (.bool (decide (sum1 - sum ≥ 1 + stByte1))) wr14))))))))))))))))
theorem v_laws_FnQueueWait (codeO : Option Addr) (codeL : Nat) (codeC : Nat) (moreO : Option Addr) (moreL : Nat) (moreC : Nat) (w : World) (R : Value → World → Prop) : evFn c_laws_FnQueueWait s_laws_FnQueueWait [.slice codeO codeL codeC, .slice moreO moreL moreC] (bodyOf Try.f6) Try.f6.results.toList w R = V_laws_FnQueueWait codeO codeL codeC moreO moreL moreC w R := by kernel_rfl
theorem e_laws_FnQueueWait (codeO : Option Addr) (codeL : Nat) (codeC : Nat) (moreO : Option Addr) (moreL : Nat) (moreC : Nat) {w : World} {R : Value → World → Prop} (hvc : V_laws_FnQueueWait codeO codeL codeC moreO moreL moreC w R) : Calls Try.prog fn_laws_FnQueueWait #[.slice codeO codeL codeC, .slice moreO moreL moreC] w fun e0 wr0 => ∃ v0, e0 = .returned v0 ∧ R v0 wr0 :=
  eff_of_ev (C := c_laws_FnQueueWait) (sps := s_laws_FnQueueWait) (body := bodyOf Try.f6) (env _ _ _) Try.func6 rfl rfl (of_decide_eq_true (by kernel_rfl)) (of_decide_eq_true (by kernel_rfl)) rfl ((v_laws_FnQueueWait codeO codeL codeC moreO moreL moreC w _).mpr hvc)
noncomputable def c_spec_l20Rd_big : Cfg := { P := Try.prog, T := tblGet tbl, pf := pfT, ef := efT, tt := ttT, vis := [], n := 15, pm := false }
noncomputable def s_spec_l20Rd_big : List (Nat × LSpec) := [(3, { chg := [(3, .int .i64), (4, .int .i64)], chgL := [], keep := [0] })]
def V_spec_l20Rd_big (r : Option Addr) (w : World) (R : Value → World → Prop) : Prop :=
    (∃ (xInv : List Value → World → Prop) (mu : List Value → World → Nat), (∀ wr, ExtX [] w wr → (∀ bq ∈ ([] : List Nat), bq < wr.heap.size) → xInv [.int .i64 0, .int .i64 0] wr) ∧
    ∀ (n : Int) (i : Int) wv, (∀ bq ∈ ([] : List Nat), bq < wv.heap.size) → xInv [.int .i64 n, .int .i64 i] wv →
    ((decide (i < 7)) = true →
    InR .i64 (n * 256) ∧
    (∀ wr1, ExtX [] wv wr1 → (∀ bq ∈ ([] : List Nat), bq < wr1.heap.size) → 
    Calls Try.prog fn_spec_l20Rd_pick #[.pointer r, .int .i64 256] wr1 fun e wv1 =>
    (∃ (pick : Int),
    e = .returned (.int .i64 pick) ∧ Kept [] wr1 wv1 ∧
    InR .i64 ((n * 256) + pick) ∧
    InR .i64 (i + 1) ∧
    (∀ wr2, ExtX [] wv1 wr2 → (∀ bq ∈ ([] : List Nat), bq < wr2.heap.size) → xInv [.int .i64 ((n * 256) + pick), .int .i64 (i + 1)] wr2 ∧ mu [.int .i64 ((n * 256) + pick), .int .i64 (i + 1)] wr2 < mu [.int .i64 n, .int .i64 i] wv)))) ∧
    ((decide (i < 7)) = false →
    (∀ wr3, ExtX [] wv wr3 → R (.int .i64 n) wr3)))
theorem v_spec_l20Rd_big (r : Option Addr) (w : World) (R : Value → World → Prop) : evFn c_spec_l20Rd_big s_spec_l20Rd_big [.pointer r] (bodyOf Try.f107) Try.f107.results.toList w R = V_spec_l20Rd_big r w R := by kernel_rfl
theorem e_spec_l20Rd_big (r : Option Addr) {w : World} {R : Value → World → Prop} (hvc : V_spec_l20Rd_big r w R) : Calls Try.prog fn_spec_l20Rd_big #[.pointer r] w fun e0 wr0 => ∃ v0, e0 = .returned v0 ∧ R v0 wr0 :=
  eff_of_ev (C := c_spec_l20Rd_big) (sps := s_spec_l20Rd_big) (body := bodyOf Try.f107) (env _ _ _) Try.func107 rfl rfl (of_decide_eq_true (by kernel_rfl)) (of_decide_eq_true (by kernel_rfl)) rfl ((v_spec_l20Rd_big r w _).mpr hvc)
noncomputable def c_spec_l20Rd_spoilt : Cfg := { P := Try.prog, T := tblGet tbl, pf := pfT, ef := efT, tt := ttT, vis := [], n := 126, pm := false }
noncomputable def s_spec_l20Rd_spoilt : List (Nat × LSpec) := [(24, { chg := [(5, .int .i64)], chgL := [], keep := [2, 3] })]
def V_spec_l20Rd_spoilt (r : Option Addr) (w : World) (R : Value → World → Prop) : Prop :=
    (∀ b, w.heap.size ≤ b →
    (∀ wr, ExtX [] w wr → (∀ bq ∈ ([b] : List Nat), bq < wr.heap.size) → 
    Calls Try.prog fn_spec_l20Rd_queue #[.pointer r] wr fun e wv =>
    (∃ (queue : Int) (queue1 : Int) (queue2 : Int) (queue3O : Option Addr) (queue3L : Nat) (queue3C : Nat),
    e = .returned (.agg #[.int .i64 queue, .int .i64 queue1, .int .i64 queue2, .slice queue3O queue3L queue3C]) ∧ Kept [b] wr wv ∧
    (∀ b1, wv.heap.size ≤ b1 →
    (∀ wr1, ExtX [b] wv wr1 → (∀ bq ∈ ([b, b1] : List Nat), bq < wr1.heap.size) → 
    Calls Try.prog fn_spec_l20Rd_pick #[.pointer r, .int .i64 8] wr1 fun e1 wv1 =>
    (∃ (pick : Int),
    e1 = .returned (.int .i64 pick) ∧ Kept [b, b1] wr1 wv1 ∧
    ((decide (pick > 0)) = true →
    (∀ wr2, ExtX [b, b1] wv1 wr2 → R (.agg #[.int .i64 queue, .int .i64 queue1, .int .i64 queue2, .slice queue3O queue3L queue3C]) wr2)) ∧
    ((decide (pick > 0)) = false →
    (∀ wr3, ExtX [b, b1] wv1 wr3 → (∀ bq ∈ ([b, b1] : List Nat), bq < wr3.heap.size) → 
    Calls Try.prog fn_spec_l20Rd_pick #[.pointer r, .int .i64 ((queue3L : Nat) : Int)] wr3 fun e2 wv2 =>
    (∃ (pick1 : Int),
    e2 = .returned (.int .i64 pick1) ∧ Kept [b, b1] wr3 wv2 ∧
    (∀ wr4, ExtX [b, b1] wv2 wr4 → (∀ bq ∈ ([b, b1] : List Nat), bq < wr4.heap.size) → 
    Calls Try.prog fn_spec_l20Rd_pick #[.pointer r, .int .i64 9] wr4 fun e3 wv3 =>
    (∃ (pick2 : Int),
    e3 = .returned (.int .i64 pick2) ∧ Kept [b, b1] wr4 wv3 ∧
    ((pick2 == 0) = true →
    (∀ wr5, ExtX [b, b1] wv3 wr5 → (∀ bq ∈ ([b, b1] : List Nat), bq < wr5.heap.size) → 
    Calls Try.prog fn_spec_l20Rd_big #[.pointer r] wr5 fun e4 wv4 =>
    (∃ (big : Int),
    e4 = .returned (.int .i64 big) ∧ Kept [b, b1] wr5 wv4 ∧
    (some (ty_impl_Queue, ([.int .i64 queue, .int .i64 queue1, .int .i64 queue2, .slice queue3O queue3L queue3C] : List Value)) = some (ty_impl_Queue, ([.int .i64 queue, .int .i64 queue1, .int .i64 queue2, .slice queue3O queue3L queue3C] : List Value))) ∧
    InR .i64 (queue + big) ∧
    (∀ wr6, ExtX [b, b1] wv4 wr6 → R (.agg #[.int .i64 (queue + big), .int .i64 queue1, .int .i64 queue2, .slice queue3O queue3L queue3C]) wr6)))) ∧
    ((pick2 == 0) = false →
    ((pick2 == 1) = true →
    Ix queue3O queue3L pick1 ∧
    (∃ (wv5 : Int),
    CellsX [b, b1] wv3 queue3O (Int.toNat pick1 * 4 + 2) [.int .i64 wv5] ∧
    (∃ (xLagMos : Int),
    PureX [b, b1] Try.prog fn_spec_LagMost #[.int .i64 wv5] wv3 (.int .i64 xLagMos) ∧
    InR .i64 (queue + xLagMos) ∧
    (∀ wr7, ExtX [b, b1] wv3 wr7 → (∀ bq ∈ ([b, b1] : List Nat), bq < wr7.heap.size) → 
    Calls Try.prog fn_spec_l20Rd_pick #[.pointer r, .int .i64 2] wr7 fun e5 wv6 =>
    (∃ (pick3 : Int),
    e5 = .returned (.int .i64 pick3) ∧ Kept [b, b1] wr7 wv6 ∧
    (some (ty_impl_Queue, ([.int .i64 queue, .int .i64 queue1, .int .i64 queue2, .slice queue3O queue3L queue3C] : List Value)) = some (ty_impl_Queue, ([.int .i64 queue, .int .i64 queue1, .int .i64 queue2, .slice queue3O queue3L queue3C] : List Value))) ∧
    (some (ty_impl_Queue, ([.int .i64 queue, .int .i64 queue1, .int .i64 queue2, .slice queue3O queue3L queue3C] : List Value)) = some (ty_impl_Queue, ([.int .i64 queue, .int .i64 queue1, .int .i64 queue2, .slice queue3O queue3L queue3C] : List Value))) ∧
    InR .i64 ((queue + xLagMos) + pick3) ∧
    Ix queue3O queue3L pick1 ∧
    WrX [b, b1] wv6 queue3O (Int.toNat pick1 * 4 + 1) 1 ∧
    (∀ wr8, ExtX [b, b1] (sto wv6 queue3O (Int.toNat pick1 * 4 + 1) [.int .i64 ((queue + xLagMos) + pick3)]) wr8 → R (.agg #[.int .i64 queue, .int .i64 queue1, .int .i64 queue2, .slice queue3O queue3L queue3C]) wr8)))))) ∧
    ((pick2 == 1) = false →
    ((pick2 == 2) = true →
    ((∀ b2, wv3.heap.size ≤ b2 →
    (some (ty_impl_Queue, ([.int .i64 queue, .int .i64 queue1, .int .i64 queue2, .slice queue3O queue3L queue3C] : List Value)) = some (ty_impl_Queue, ([.int .i64 queue, .int .i64 queue1, .int .i64 queue2, .slice queue3O queue3L queue3C] : List Value))) ∧
    (∀ wr9, ExtX [b, b1] wv3 wr9 → (∀ bq ∈ ([b, b1, b2] : List Nat), bq < wr9.heap.size) → 
    Calls Try.prog fn_spec_l20Rd_pick #[.pointer r, .int .i64 3] wr9 fun e6 wv7 =>
    (∃ (pick4 : Int),
    e6 = .returned (.int .i64 pick4) ∧ Kept [b, b1, b2] wr9 wv7 ∧
    (some (ty_impl_Queue, ([.int .i64 queue, .int .i64 queue1, .int .i64 queue2, .slice queue3O queue3L queue3C] : List Value)) = some (ty_impl_Queue, ([.int .i64 queue, .int .i64 queue1, .int .i64 queue2, .slice queue3O queue3L queue3C] : List Value))) ∧
    (0 ≤ pick4 ∧ pick4 < ((3 : Nat) : Int)) ∧
    (∃ (x : Int),
    (0 ≤ pick4 ∧ ([.int .i64 0, .int .i64 21, .int .i64 (-1)] : List Value)[Int.toNat pick4 + 0]? = some (.int .i64 x)) ∧
    Ix queue3O queue3L pick1 ∧
    WrX [b, b1, b2] wv7 queue3O (Int.toNat pick1 * 4 + 2) 1 ∧
    (∀ wr10, ExtX [b, b1, b2] (sto wv7 queue3O (Int.toNat pick1 * 4 + 2) [.int .i64 x]) wr10 → R (.agg #[.int .i64 queue, .int .i64 queue1, .int .i64 queue2, .slice queue3O queue3L queue3C]) wr10)))))) ∧
    ((∀ wr11, ExtX [b, b1] wv3 wr11 → (∀ bq ∈ ([b, b1] : List Nat), bq < wr11.heap.size) → 
    Calls Try.prog fn_spec_l20Rd_pick #[.pointer r, .int .i64 3] wr11 fun e7 wv8 =>
    (∃ (pick5 : Int),
    e7 = .returned (.int .i64 pick5) ∧ Kept [b, b1] wr11 wv8 ∧
    (some (ty_impl_Queue, ([.int .i64 queue, .int .i64 queue1, .int .i64 queue2, .slice queue3O queue3L queue3C] : List Value)) = some (ty_impl_Queue, ([.int .i64 queue, .int .i64 queue1, .int .i64 queue2, .slice queue3O queue3L queue3C] : List Value))) ∧
    (∀ b3, wv8.heap.size ≤ b3 →
    (some (ty_impl_Queue, ([.int .i64 queue, .int .i64 queue1, .int .i64 queue2, .slice queue3O queue3L queue3C] : List Value)) = some (ty_impl_Queue, ([.int .i64 queue, .int .i64 queue1, .int .i64 queue2, .slice queue3O queue3L queue3C] : List Value))) ∧
    (0 ≤ pick5 ∧ pick5 < ((3 : Nat) : Int)) ∧
    (∃ (x1 : Int),
    (0 ≤ pick5 ∧ ([.int .i64 0, .int .i64 21, .int .i64 (-1)] : List Value)[Int.toNat pick5 + 0]? = some (.int .i64 x1)) ∧
    Ix queue3O queue3L pick1 ∧
    WrX [b, b1] wv8 queue3O (Int.toNat pick1 * 4 + 2) 1 ∧
    (∀ wr12, ExtX [b, b1] (sto wv8 queue3O (Int.toNat pick1 * 4 + 2) [.int .i64 x1]) wr12 → R (.agg #[.int .i64 queue, .int .i64 queue1, .int .i64 queue2, .slice queue3O queue3L queue3C]) wr12))))))) ∧
    ((pick2 == 2) = false →
    ((pick2 == 3) = true →
    InR .i64 (((queue3L : Nat) : Int) + 2) ∧
    (∀ wr13, ExtX [b, b1] wv3 wr13 → (∀ bq ∈ ([b, b1] : List Nat), bq < wr13.heap.size) → 
    Calls Try.prog fn_spec_l20Rd_pick #[.pointer r, .int .i64 (((queue3L : Nat) : Int) + 2)] wr13 fun e8 wv9 =>
    (∃ (pick6 : Int),
    e8 = .returned (.int .i64 pick6) ∧ Kept [b, b1] wr13 wv9 ∧
    InR .i64 (pick6 - 1) ∧
    (∀ wr14, ExtX [b, b1] wv9 wr14 → R (.agg #[.int .i64 queue, .int .i64 (pick6 - 1), .int .i64 queue2, .slice queue3O queue3L queue3C]) wr14)))) ∧
    ((pick2 == 3) = false →
    ((pick2 == 4) = true →
    (∀ wr15, ExtX [b, b1] wv3 wr15 → (∀ bq ∈ ([b, b1] : List Nat), bq < wr15.heap.size) → 
    Calls Try.prog fn_spec_l20Rd_pick #[.pointer r, .int .i64 152] wr15 fun e9 wv10 =>
    (∃ (pick7 : Int),
    e9 = .returned (.int .i64 pick7) ∧ Kept [b, b1] wr15 wv10 ∧
    (∀ wr16, ExtX [b, b1] wv10 wr16 → R (.agg #[.int .i64 queue, .int .i64 queue1, .int .i64 pick7, .slice queue3O queue3L queue3C]) wr16)))) ∧
    ((pick2 == 4) = false →
    ((pick2 == 5) = true →
    Ix queue3O queue3L pick1 ∧
    (∃ (onv : Bool),
    CellsX [b, b1] wv3 queue3O (Int.toNat pick1 * 4 + 0) [.bool onv] ∧
    Ix queue3O queue3L pick1 ∧
    WrX [b, b1] wv3 queue3O (Int.toNat pick1 * 4 + 0) 1 ∧
    (∀ wr17, ExtX [b, b1] (sto wv3 queue3O (Int.toNat pick1 * 4 + 0) [.bool (!onv)]) wr17 → R (.agg #[.int .i64 queue, .int .i64 queue1, .int .i64 queue2, .slice queue3O queue3L queue3C]) wr17))) ∧
    ((pick2 == 5) = false →
    ((pick2 == 6) = true →
    Ix queue3O queue3L pick1 ∧
    WrX [b, b1] wv3 queue3O (Int.toNat pick1 * 4 + 3) 1 ∧
    (∀ wr18, ExtX [b, b1] (sto wv3 queue3O (Int.toNat pick1 * 4 + 3) [.int .i64 (-1)]) wr18 → R (.agg #[.int .i64 queue, .int .i64 queue1, .int .i64 queue2, .slice queue3O queue3L queue3C]) wr18)) ∧
    ((pick2 == 6) = false →
    ((pick2 == 7) = true →
    (∀ wr19, ExtX [b, b1] wv3 wr19 → R (.agg #[.int .i64 queue, .int .i64 queue1, .int .i64 queue2, .slice none 0 0]) wr19)) ∧
    ((pick2 == 7) = false →
    ((pick2 == 8) = true →
    (∃ (xInv : List Value → World → Prop) (mu : List Value → World → Nat), (∀ wr20, ExtX [b, b1] wv3 wr20 → (∀ bq ∈ ([b, b1] : List Nat), bq < wr20.heap.size) → xInv [.int .i64 0] wr20) ∧
    ∀ (i : Int) wv11, (∀ bq ∈ ([b, b1] : List Nat), bq < wv11.heap.size) → xInv [.int .i64 i] wv11 →
    ((decide (i < ((queue3L : Nat) : Int))) = true →
    Ix queue3O queue3L i ∧
    (∃ (v : Int),
    CellsX [b, b1] wv11 queue3O (Int.toNat i * 4 + 1) [.int .i64 v] ∧
    InR .i64 (v + 100000000000000000) ∧
    InR .i64 ((v + 100000000000000000) - 5000000000) ∧
    Ix queue3O queue3L i ∧
    WrX [b, b1] wv11 queue3O (Int.toNat i * 4 + 1) 1 ∧
    InR .i64 (i + 1) ∧
    (∀ wr21, ExtX [b, b1] (sto wv11 queue3O (Int.toNat i * 4 + 1) [.int .i64 ((v + 100000000000000000) - 5000000000)]) wr21 → (∀ bq ∈ ([b, b1] : List Nat), bq < wr21.heap.size) → xInv [.int .i64 (i + 1)] wr21 ∧ mu [.int .i64 (i + 1)] wr21 < mu [.int .i64 i] wv11))) ∧
    ((decide (i < ((queue3L : Nat) : Int))) = false →
    InR .i64 (queue + 100000000000000000) ∧
    InR .i64 ((queue + 100000000000000000) - 5000000000) ∧
    (∀ wr22, ExtX [b, b1] wv11 wr22 → R (.agg #[.int .i64 ((queue + 100000000000000000) - 5000000000), .int .i64 queue1, .int .i64 queue2, .slice queue3O queue3L queue3C]) wr22)))) ∧
    ((pick2 == 8) = false →
    (∀ wr23, ExtX [b, b1] wv3 wr23 → R (.agg #[.int .i64 queue, .int .i64 queue1, .int .i64 queue2, .slice queue3O queue3L queue3C]) wr23)))))))))))))))))))))
theorem v_spec_l20Rd_spoilt (r : Option Addr) (w : World) (R : Value → World → Prop) : evFn c_spec_l20Rd_spoilt s_spec_l20Rd_spoilt [.pointer r] (bodyOf Try.f77) Try.f77.results.toList w R = V_spec_l20Rd_spoilt r w R := by kernel_rfl
theorem e_spec_l20Rd_spoilt (r : Option Addr) {w : World} {R : Value → World → Prop} (hvc : V_spec_l20Rd_spoilt r w R) : Calls Try.prog fn_spec_l20Rd_spoilt #[.pointer r] w fun e0 wr0 => ∃ v0, e0 = .returned v0 ∧ R v0 wr0 :=
  eff_of_ev (C := c_spec_l20Rd_spoilt) (sps := s_spec_l20Rd_spoilt) (body := bodyOf Try.f77) (env _ _ _) Try.func77 rfl rfl (of_decide_eq_true (by kernel_rfl)) (of_decide_eq_true (by kernel_rfl)) rfl ((v_spec_l20Rd_spoilt r w _).mpr hvc)
noncomputable def c_spec_DrawQueuePlay : Cfg := { P := Try.prog, T := tblGet tbl, pf := pfT, ef := efT, tt := ttT, vis := [], n := 31, pm := false }
noncomputable def s_spec_DrawQueuePlay : List (Nat × LSpec) := [(6, { chg := [(6, .slice), (8, .int .i64)], chgL := [], keep := [2, 4, 5, 7] })]
def V_spec_DrawQueuePlay (codeO : Option Addr) (codeL : Nat) (codeC : Nat) (w : World) (R : Value → World → Prop) : Prop :=
    (∀ b, w.heap.size ≤ b →
    (∀ wr, ExtX [] w wr → (∀ bq ∈ ([b] : List Nat), bq < wr.heap.size) → 
    Calls Try.prog fn_spec_l20Open #[.slice codeO codeL codeC] wr fun e wv =>
    (∃ (l20Ope : Option Addr),
    e = .returned (.pointer l20Ope) ∧ Kept [b] wr wv ∧
    (∀ wr1, ExtX [b] wv wr1 → (∀ bq ∈ ([b] : List Nat), bq < wr1.heap.size) → 
    Calls Try.prog fn_spec_l20Rd_spoilt #[.pointer l20Ope] wr1 fun e1 wv1 =>
    (∃ (spoilt : Int) (spoilt1 : Int) (spoilt2 : Int) (spoilt3O : Option Addr) (spoilt3L : Nat) (spoilt3C : Nat),
    e1 = .returned (.agg #[.int .i64 spoilt, .int .i64 spoilt1, .int .i64 spoilt2, .slice spoilt3O spoilt3L spoilt3C]) ∧ Kept [b] wr1 wv1 ∧
    (∀ b1, wv1.heap.size ≤ b1 →
    (∀ wr2, ExtX [b] wv1 wr2 → (∀ bq ∈ ([b, b1] : List Nat), bq < wr2.heap.size) → 
    Calls Try.prog fn_spec_l20Rd_pick #[.pointer l20Ope, .int .i64 30] wr2 fun e2 wv2 =>
    (∃ (pick : Int),
    e2 = .returned (.int .i64 pick) ∧ Kept [b, b1] wr2 wv2 ∧
    (∃ (xInv : List Value → World → Prop) (mu : List Value → World → Nat), (∀ wr3, ExtX [b, b1] wv2 wr3 → (∀ bq ∈ ([b, b1] : List Nat), bq < wr3.heap.size) → xInv [.slice none 0 0, .int .i64 0] wr3) ∧
    ∀ (opsO : Option Addr) (opsL : Nat) (opsC : Nat) (i : Int) wv3, (∀ bq ∈ ([b, b1] : List Nat), bq < wv3.heap.size) → xInv [.slice opsO opsL opsC, .int .i64 i] wv3 →
    ((decide (i < pick)) = true →
    (∃ (l1Max : Int),
    PureX [b, b1] Try.prog fn_spec_l1Max #[.int .i64 1, .int .i64 ((spoilt3L : Nat) : Int)] wv3 (.int .i64 l1Max) ∧
    (∀ wr4, ExtX [b, b1] wv3 wr4 → (∀ bq ∈ ([b, b1] : List Nat), bq < wr4.heap.size) → 
    Calls Try.prog fn_spec_l20Rd_op #[.pointer l20Ope, .int .i64 l1Max] wr4 fun e3 wv4 =>
    (∃ (op : Int) (op1 : Int) (op2 : Int),
    e3 = .returned (.agg #[.int .i64 op, .int .i64 op1, .int .i64 op2]) ∧ Kept [b, b1] wr4 wv4 ∧
    (∀ b2, wv4.heap.size ≤ b2 →
    (∀ wr5, ExtX [b, b1] wv4 wr5 → (∀ bq ∈ ([b, b1, b2] : List Nat), bq < wr5.heap.size) → wr5.heap[b2]? = some (Obj.cells ([.int .i64 op, .int .i64 op1, .int .i64 op2] : List Value).toArray ty_impl_QueueOp (0, 0)) → 
    (∃ (apO : Option Addr) (apL : Nat) (apC : Nat),
    ∃ wv5, (builtin .append #[ty_sl_impl_QueueOp, ty_sl_impl_QueueOp] ty_sl_impl_QueueOp #[false, false] #[.slice opsO opsL opsC, .slice (some (Addr.mk b2 0 none)) 1 1]).run Try.prog wr5 = .ok (.value (.slice apO apL apC)) wv5 ∧ Kept [b, b1, b2] wr5 wv5 ∧
    InR .i64 (i + 1) ∧
    (∀ wr6, ExtX [b, b1, b2] wv5 wr6 → (∀ bq ∈ ([b, b1, b2] : List Nat), bq < wr6.heap.size) → xInv [.slice apO apL apC, .int .i64 (i + 1)] wr6 ∧ mu [.slice apO apL apC, .int .i64 (i + 1)] wr6 < mu [.slice opsO opsL opsC, .int .i64 i] wv3)))))))) ∧
    ((decide (i < pick)) = false →
    (∀ wr7, ExtX [b, b1] wv3 wr7 → R (.tuple #[.agg #[.int .i64 spoilt, .int .i64 spoilt1, .int .i64 spoilt2, .slice spoilt3O spoilt3L spoilt3C], .slice opsO opsL opsC]) wr7)))))))))))
theorem v_spec_DrawQueuePlay (codeO : Option Addr) (codeL : Nat) (codeC : Nat) (w : World) (R : Value → World → Prop) : evFn c_spec_DrawQueuePlay s_spec_DrawQueuePlay [.slice codeO codeL codeC] (bodyOf Try.f29) Try.f29.results.toList w R = V_spec_DrawQueuePlay codeO codeL codeC w R := by kernel_rfl
theorem e_spec_DrawQueuePlay (codeO : Option Addr) (codeL : Nat) (codeC : Nat) {w : World} {R : Value → World → Prop} (hvc : V_spec_DrawQueuePlay codeO codeL codeC w R) : Calls Try.prog fn_spec_DrawQueuePlay #[.slice codeO codeL codeC] w fun e0 wr0 => ∃ v0, e0 = .returned v0 ∧ R v0 wr0 :=
  eff_of_ev (C := c_spec_DrawQueuePlay) (sps := s_spec_DrawQueuePlay) (body := bodyOf Try.f29) (env _ _ _) Try.func29 rfl rfl (of_decide_eq_true (by kernel_rfl)) (of_decide_eq_true (by kernel_rfl)) rfl ((v_spec_DrawQueuePlay codeO codeL codeC w _).mpr hvc)
end Go.Proofs.Ythihcdljmddgfaa
