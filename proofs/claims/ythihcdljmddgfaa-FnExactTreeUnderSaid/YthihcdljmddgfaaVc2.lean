/- Printed by wip/tools/vc.py: what a function's text asks for. -/
import Derived.Test.YthihcdljmddgfaaTab
namespace Go.Proofs.Ythihcdljmddgfaa
open Go.RowKit
set_option maxRecDepth 100000
noncomputable def c_laws_FnQueueTop : Cfg := { P := Try.prog, T := tblGet tbl, pf := pfT, ef := efT, tt := ttT, vis := [], n := 191, pm := false }
noncomputable def s_laws_FnQueueTop : List (Nat × LSpec) := [(9, { chg := [(9, .int .i64), (11, .int .i64)], chgL := [(0, [.int .i64, .int .i64, .int .i64, .slice]), (1, [.int .i64, .int .i64, .int .i64, .slice])], keep := [5, 6, 7, 8, 10] })]
def V_laws_FnQueueTop (codeO : Option Addr) (codeL : Nat) (codeC : Nat) (moreO : Option Addr) (moreL : Nat) (moreC : Nat) (w : World) (R : Value → World → Prop) : Prop :=
    (((decide (((codeL : Nat) : Int) > 1048576)) || (decide (((moreL : Nat) : Int) > 1048576))) = true →
    (∀ wr, ExtX [] w wr → R (.bool true) wr)) ∧
    (((decide (((codeL : Nat) : Int) > 1048576)) || (decide (((moreL : Nat) : Int) > 1048576))) = false →
    (∀ wr1, ExtX [] w wr1 → (∀ bq ∈ ([] : List Nat), bq < wr1.heap.size) → 
    Calls Try.prog fn_spec_GoodQueue #[.slice codeO codeL codeC] wr1 fun e wv =>
    (∃ (xGoodQu : Int) (xGoodQu1 : Int) (xGoodQu2 : Int) (xGoodQu3O : Option Addr) (xGoodQu3L : Nat) (xGoodQu3C : Nat) (xGoodQu4O : Option Addr) (xGoodQu4L : Nat) (xGoodQu4C : Nat),
    e = .returned (.tuple #[.agg #[.int .i64 xGoodQu, .int .i64 xGoodQu1, .int .i64 xGoodQu2, .slice xGoodQu3O xGoodQu3L xGoodQu3C], .slice xGoodQu4O xGoodQu4L xGoodQu4C]) ∧ Kept [] wr1 wv ∧
    (∀ b, wv.heap.size ≤ b →
    (∃ (stByte : Int),
    PureX [] Try.prog fn_laws_stByte #[.slice moreO moreL moreC, .int .i64 0] wv (.int .i64 stByte) ∧
    ((xGoodQu3L : Nat) : Int) ≠ 0 ∧
    (∃ (stByte1 : Int),
    PureX [] Try.prog fn_laws_stByte #[.slice moreO moreL moreC, .int .i64 1] wv (.int .i64 stByte1) ∧
    ((xGoodQu3L : Nat) : Int) ≠ 0 ∧
    (∀ b1, wv.heap.size ≤ b1 →
    (∃ (xInv2 : List Value → World → Prop) (mu2 : List Value → World → Nat), (∀ wr11, ExtX [] wv wr11 → (∀ bq ∈ ([b, b1] : List Nat), bq < wr11.heap.size) → xInv2 [.int .i64 (-1), .int .i64 0, .int .i64 xGoodQu, .int .i64 xGoodQu1, .int .i64 xGoodQu2, .slice xGoodQu3O xGoodQu3L xGoodQu3C, .int .i64 0, .int .i64 0, .int .i64 0, .slice none 0 0] wr11) ∧
    ∀ (fromv2 : Int) (i2 : Int) (l4 : Int) (l5 : Int) (l6 : Int) (l7O : Option Addr) (l7L : Nat) (l7C : Nat) (l8 : Int) (l9 : Int) (l10 : Int) (l11O : Option Addr) (l11L : Nat) (l11C : Nat) wv11, (∀ bq ∈ ([b, b1] : List Nat), bq < wv11.heap.size) → xInv2 [.int .i64 fromv2, .int .i64 i2, .int .i64 l4, .int .i64 l5, .int .i64 l6, .slice l7O l7L l7C, .int .i64 l8, .int .i64 l9, .int .i64 l10, .slice l11O l11L l11C] wv11 →
    ((decide (i2 < ((xGoodQu4L : Nat) : Int))) = true →
    Ix xGoodQu4O xGoodQu4L i2 ∧
    (∃ (x08 : Int) (x18 : Int) (x28 : Int),
    CellsX [b, b1] wv11 xGoodQu4O (Int.toNat i2 * 3) [.int .i64 x08, .int .i64 x18, .int .i64 x28] ∧
    ((∀ wr12, ExtX [b, b1] wv11 wr12 → (∀ bq ∈ ([b, b1] : List Nat), bq < wr12.heap.size) → 
    Calls Try.prog fn_impl_QueueDo #[.agg #[.int .i64 l4, .int .i64 l5, .int .i64 l6, .slice l7O l7L l7C], .agg #[.int .i64 x08, .int .i64 x18, .int .i64 x28]] wr12 fun e5 wv12 =>
    (∃ (xQueueD20 : Int) (xQueueD21 : Int) (xQueueD22 : Int) (xQueueD23O : Option Addr) (xQueueD23L : Nat) (xQueueD23C : Nat) (xQueueD24 : Bool),
    e5 = .returned (.tuple #[.agg #[.int .i64 xQueueD20, .int .i64 xQueueD21, .int .i64 xQueueD22, .slice xQueueD23O xQueueD23L xQueueD23C], .bool xQueueD24]) ∧ Kept [b, b1] wr12 wv12 ∧
    (∀ b10, wv12.heap.size ≤ b10 →
    CellsX [b, b1] wv12 xGoodQu4O (Int.toNat i2 * 3) [.int .i64 x08, .int .i64 x18, .int .i64 x28] ∧
    (some (ty_impl_Queue, ([.int .i64 l4, .int .i64 l5, .int .i64 l6, .slice l7O l7L l7C] : List Value)) = some (ty_impl_Queue, ([.int .i64 l4, .int .i64 l5, .int .i64 l6, .slice l7O l7L l7C] : List Value))) ∧
    Ix xGoodQu4O xGoodQu4L i2 ∧
    (∃ (x09 : Int) (x19 : Int) (x29 : Int),
    CellsX [b, b1] wv12 xGoodQu4O (Int.toNat i2 * 3) [.int .i64 x09, .int .i64 x19, .int .i64 x29] ∧
    ((∀ wr13, ExtX [b, b1] wv12 wr13 → (∀ bq ∈ ([b, b1, b10] : List Nat), bq < wr13.heap.size) → 
    Calls Try.prog fn_spec_QueueDo #[.agg #[.int .i64 l4, .int .i64 l5, .int .i64 l6, .slice l7O l7L l7C], .agg #[.int .i64 x09, .int .i64 x19, .int .i64 x29]] wr13 fun e6 wv13 =>
    (∃ (xQueueD25 : Int) (xQueueD26 : Int) (xQueueD27 : Int) (xQueueD28O : Option Addr) (xQueueD28L : Nat) (xQueueD28C : Nat) (xQueueD29 : Bool),
    e6 = .returned (.tuple #[.agg #[.int .i64 xQueueD25, .int .i64 xQueueD26, .int .i64 xQueueD27, .slice xQueueD28O xQueueD28L xQueueD28C], .bool xQueueD29]) ∧ Kept [b, b1, b10] wr13 wv13 ∧
    (∀ b11, wv13.heap.size ≤ b11 →
    CellsX [b, b1, b10] wv13 xGoodQu4O (Int.toNat i2 * 3) [.int .i64 x09, .int .i64 x19, .int .i64 x29] ∧
    (some (ty_impl_Queue, ([.int .i64 l4, .int .i64 l5, .int .i64 l6, .slice l7O l7L l7C] : List Value)) = some (ty_impl_Queue, ([.int .i64 l4, .int .i64 l5, .int .i64 l6, .slice l7O l7L l7C] : List Value))) ∧
    (∃ (xQueueO2 : Bool),
    ((!(xQueueD24 == xQueueD29)) = false → PureX [b, b1, b10] Try.prog fn_impl_QueueOk #[.agg #[.int .i64 xQueueD20, .int .i64 xQueueD21, .int .i64 xQueueD22, .slice xQueueD23O xQueueD23L xQueueD23C]] wv13 (.bool xQueueO2)) ∧
    (∃ (stQueu2 : Bool),
    (((!(xQueueD24 == xQueueD29)) || (!xQueueO2)) = false → PureX [b, b1, b10] Try.prog fn_laws_stQueue #[.agg #[.int .i64 xQueueD20, .int .i64 xQueueD21, .int .i64 xQueueD22, .slice xQueueD23O xQueueD23L xQueueD23C], .agg #[.int .i64 xQueueD25, .int .i64 xQueueD26, .int .i64 xQueueD27, .slice xQueueD28O xQueueD28L xQueueD28C]] wv13 (.bool stQueu2)) ∧
    ((((!(xQueueD24 == xQueueD29)) || (!xQueueO2)) || (!stQueu2)) = true →
    (∀ wr14, ExtX [b, b1, b10] wv13 wr14 → R (.bool false) wr14)) ∧
    ((((!(xQueueD24 == xQueueD29)) || (!xQueueO2)) || (!stQueu2)) = false →
    Ix xQueueD28O xQueueD28L (Int.tmod stByte ((xGoodQu3L : Nat) : Int)) ∧
    (∃ (x010 : Bool) (x110 : Int) (x210 : Int) (x34 : Int),
    CellsX [b, b1, b10] wv13 xQueueD28O (Int.toNat (Int.tmod stByte ((xGoodQu3L : Nat) : Int)) * 4) [.bool x010, .int .i64 x110, .int .i64 x210, .int .i64 x34] ∧
    (∀ b12, wv13.heap.size ≤ b12 →
    Ix xQueueD28O xQueueD28L (Int.tmod stByte1 ((xGoodQu3L : Nat) : Int)) ∧
    (∃ (x011 : Bool) (x111 : Int) (x211 : Int) (x35 : Int),
    CellsX [b, b1, b10] wv13 xQueueD28O (Int.toNat (Int.tmod stByte1 ((xGoodQu3L : Nat) : Int)) * 4) [.bool x011, .int .i64 x111, .int .i64 x211, .int .i64 x35] ∧
    (∀ b13, wv13.heap.size ≤ b13 →
    (((!x010) || (!x011)) = false → ((decide (fromv2 ≥ 0)) = true → Ix l11O l11L (Int.tmod stByte ((xGoodQu3L : Nat) : Int)))) ∧
    (∃ (wv14 : Int),
    (((!x010) || (!x011)) = false → ((decide (fromv2 ≥ 0)) = true → CellsX [b, b1, b10] wv13 l11O (Int.toNat (Int.tmod stByte ((xGoodQu3L : Nat) : Int)) * 4 + 2) [.int .i64 wv14])) ∧
    ((((!x010) || (!x011)) || (x210 != wv14)) = false → ((decide (fromv2 ≥ 0)) = true → Ix l11O l11L (Int.tmod stByte1 ((xGoodQu3L : Nat) : Int)))) ∧
    (∃ (wv15 : Int),
    ((((!x010) || (!x011)) || (x210 != wv14)) = false → ((decide (fromv2 ≥ 0)) = true → CellsX [b, b1, b10] wv13 l11O (Int.toNat (Int.tmod stByte1 ((xGoodQu3L : Nat) : Int)) * 4 + 2) [.int .i64 wv15])) ∧
    (((decide (fromv2 ≥ 0)) && ((((!x010) || (!x011)) || (x210 != wv14)) || (x211 != wv15))) = true →
    ((((decide ((-1 : Int) < 0)) && x010) && x011) = true →
    ((decide (i2 ≥ 0)) = true →
    Ix xQueueD23O xQueueD23L (Int.tmod stByte ((xGoodQu3L : Nat) : Int)) ∧
    (∃ (sum4 : Int),
    CellsX [b, b1, b10] wv13 xQueueD23O (Int.toNat (Int.tmod stByte ((xGoodQu3L : Nat) : Int)) * 4 + 3) [.int .i64 sum4] ∧
    Ix xQueueD28O xQueueD28L (Int.tmod stByte ((xGoodQu3L : Nat) : Int)) ∧
    (∃ (sum5 : Int),
    CellsX [b, b1, b10] wv13 xQueueD28O (Int.toNat (Int.tmod stByte ((xGoodQu3L : Nat) : Int)) * 4 + 3) [.int .i64 sum5] ∧
    InR .i64 (sum4 - sum5) ∧
    InR .i64 ((sum4 - sum5) * x211) ∧
    Ix xQueueD23O xQueueD23L (Int.tmod stByte1 ((xGoodQu3L : Nat) : Int)) ∧
    (∃ (sum6 : Int),
    CellsX [b, b1, b10] wv13 xQueueD23O (Int.toNat (Int.tmod stByte1 ((xGoodQu3L : Nat) : Int)) * 4 + 3) [.int .i64 sum6] ∧
    Ix xQueueD28O xQueueD28L (Int.tmod stByte1 ((xGoodQu3L : Nat) : Int)) ∧
    (∃ (sum7 : Int),
    CellsX [b, b1, b10] wv13 xQueueD28O (Int.toNat (Int.tmod stByte1 ((xGoodQu3L : Nat) : Int)) * 4 + 3) [.int .i64 sum7] ∧
    InR .i64 (sum6 - sum7) ∧
    InR .i64 ((sum6 - sum7) * x210) ∧
    InR .i64 (((sum4 - sum5) * x211) - ((sum6 - sum7) * x210)) ∧
    (∃ (xQueueA2 : Int),
    PureX [b, b1, b10] Try.prog fn_impl_QueueApart #[.int .i64 x210, .int .i64 x211] wv13 (.int .i64 xQueueA2) ∧
    ((decide (((sum4 - sum5) * x211) - ((sum6 - sum7) * x210) > xQueueA2)) = false → InR .i64 (0 - (((sum4 - sum5) * x211) - ((sum6 - sum7) * x210)))) ∧
    (∃ (xQueueA3 : Int),
    ((decide (((sum4 - sum5) * x211) - ((sum6 - sum7) * x210) > xQueueA2)) = false → PureX [b, b1, b10] Try.prog fn_impl_QueueApart #[.int .i64 x210, .int .i64 x211] wv13 (.int .i64 xQueueA3)) ∧
    (((decide (((sum4 - sum5) * x211) - ((sum6 - sum7) * x210) > xQueueA2)) || (decide (0 - (((sum4 - sum5) * x211) - ((sum6 - sum7) * x210)) > xQueueA3))) = true →
    (∀ wr15, ExtX [b, b1, b10] wv13 wr15 → R (.bool false) wr15)) ∧
    (((decide (((sum4 - sum5) * x211) - ((sum6 - sum7) * x210) > xQueueA2)) || (decide (0 - (((sum4 - sum5) * x211) - ((sum6 - sum7) * x210)) > xQueueA3))) = false →
    InR .i64 (i2 + 1) ∧
    (∀ wr16, ExtX [b, b1, b10] wv13 wr16 → (∀ bq ∈ ([b, b1, b10, b11, b12, b13] : List Nat), bq < wr16.heap.size) → xInv2 [.int .i64 i2, .int .i64 (i2 + 1), .int .i64 xQueueD25, .int .i64 xQueueD26, .int .i64 xQueueD27, .slice xQueueD28O xQueueD28L xQueueD28C, .int .i64 xQueueD25, .int .i64 xQueueD26, .int .i64 xQueueD27, .slice xQueueD28O xQueueD28L xQueueD28C] wr16 ∧ mu2 [.int .i64 i2, .int .i64 (i2 + 1), .int .i64 xQueueD25, .int .i64 xQueueD26, .int .i64 xQueueD27, .slice xQueueD28O xQueueD28L xQueueD28C, .int .i64 xQueueD25, .int .i64 xQueueD26, .int .i64 xQueueD27, .slice xQueueD28O xQueueD28L xQueueD28C] wr16 < mu2 [.int .i64 fromv2, .int .i64 i2, .int .i64 l4, .int .i64 l5, .int .i64 l6, .slice l7O l7L l7C, .int .i64 l8, .int .i64 l9, .int .i64 l10, .slice l11O l11L l11C] wv11))))))))) ∧
    ((decide (i2 ≥ 0)) = false →
    InR .i64 (i2 + 1) ∧
    (∀ wr17, ExtX [b, b1, b10] wv13 wr17 → (∀ bq ∈ ([b, b1, b10, b11, b12, b13] : List Nat), bq < wr17.heap.size) → xInv2 [.int .i64 i2, .int .i64 (i2 + 1), .int .i64 xQueueD25, .int .i64 xQueueD26, .int .i64 xQueueD27, .slice xQueueD28O xQueueD28L xQueueD28C, .int .i64 xQueueD25, .int .i64 xQueueD26, .int .i64 xQueueD27, .slice xQueueD28O xQueueD28L xQueueD28C] wr17 ∧ mu2 [.int .i64 i2, .int .i64 (i2 + 1), .int .i64 xQueueD25, .int .i64 xQueueD26, .int .i64 xQueueD27, .slice xQueueD28O xQueueD28L xQueueD28C, .int .i64 xQueueD25, .int .i64 xQueueD26, .int .i64 xQueueD27, .slice xQueueD28O xQueueD28L xQueueD28C] wr17 < mu2 [.int .i64 fromv2, .int .i64 i2, .int .i64 l4, .int .i64 l5, .int .i64 l6, .slice l7O l7L l7C, .int .i64 l8, .int .i64 l9, .int .i64 l10, .slice l11O l11L l11C] wv11))) ∧
    ((((decide ((-1 : Int) < 0)) && x010) && x011) = false →
    ((decide ((-1 : Int) ≥ 0)) = true →
    Ix xQueueD23O xQueueD23L (Int.tmod stByte ((xGoodQu3L : Nat) : Int)) ∧
    (∃ (sum8 : Int),
    CellsX [b, b1, b10] wv13 xQueueD23O (Int.toNat (Int.tmod stByte ((xGoodQu3L : Nat) : Int)) * 4 + 3) [.int .i64 sum8] ∧
    Ix l11O l11L (Int.tmod stByte ((xGoodQu3L : Nat) : Int)) ∧
    (∃ (sum9 : Int),
    CellsX [b, b1, b10] wv13 l11O (Int.toNat (Int.tmod stByte ((xGoodQu3L : Nat) : Int)) * 4 + 3) [.int .i64 sum9] ∧
    InR .i64 (sum8 - sum9) ∧
    InR .i64 ((sum8 - sum9) * x211) ∧
    Ix xQueueD23O xQueueD23L (Int.tmod stByte1 ((xGoodQu3L : Nat) : Int)) ∧
    (∃ (sum10 : Int),
    CellsX [b, b1, b10] wv13 xQueueD23O (Int.toNat (Int.tmod stByte1 ((xGoodQu3L : Nat) : Int)) * 4 + 3) [.int .i64 sum10] ∧
    Ix l11O l11L (Int.tmod stByte1 ((xGoodQu3L : Nat) : Int)) ∧
    (∃ (sum11 : Int),
    CellsX [b, b1, b10] wv13 l11O (Int.toNat (Int.tmod stByte1 ((xGoodQu3L : Nat) : Int)) * 4 + 3) [.int .i64 sum11] ∧
    InR .i64 (sum10 - sum11) ∧
    InR .i64 ((sum10 - sum11) * x210) ∧
    InR .i64 (((sum8 - sum9) * x211) - ((sum10 - sum11) * x210)) ∧
    (∃ (xQueueA4 : Int),
    PureX [b, b1, b10] Try.prog fn_impl_QueueApart #[.int .i64 x210, .int .i64 x211] wv13 (.int .i64 xQueueA4) ∧
    ((decide (((sum8 - sum9) * x211) - ((sum10 - sum11) * x210) > xQueueA4)) = false → InR .i64 (0 - (((sum8 - sum9) * x211) - ((sum10 - sum11) * x210)))) ∧
    (∃ (xQueueA5 : Int),
    ((decide (((sum8 - sum9) * x211) - ((sum10 - sum11) * x210) > xQueueA4)) = false → PureX [b, b1, b10] Try.prog fn_impl_QueueApart #[.int .i64 x210, .int .i64 x211] wv13 (.int .i64 xQueueA5)) ∧
    (((decide (((sum8 - sum9) * x211) - ((sum10 - sum11) * x210) > xQueueA4)) || (decide (0 - (((sum8 - sum9) * x211) - ((sum10 - sum11) * x210)) > xQueueA5))) = true →
    (∀ wr18, ExtX [b, b1, b10] wv13 wr18 → R (.bool false) wr18)) ∧
    (((decide (((sum8 - sum9) * x211) - ((sum10 - sum11) * x210) > xQueueA4)) || (decide (0 - (((sum8 - sum9) * x211) - ((sum10 - sum11) * x210)) > xQueueA5))) = false →
    InR .i64 (i2 + 1) ∧
    (∀ wr19, ExtX [b, b1, b10] wv13 wr19 → (∀ bq ∈ ([b, b1, b10, b11, b12, b13] : List Nat), bq < wr19.heap.size) → xInv2 [.int .i64 (-1), .int .i64 (i2 + 1), .int .i64 xQueueD25, .int .i64 xQueueD26, .int .i64 xQueueD27, .slice xQueueD28O xQueueD28L xQueueD28C, .int .i64 l8, .int .i64 l9, .int .i64 l10, .slice l11O l11L l11C] wr19 ∧ mu2 [.int .i64 (-1), .int .i64 (i2 + 1), .int .i64 xQueueD25, .int .i64 xQueueD26, .int .i64 xQueueD27, .slice xQueueD28O xQueueD28L xQueueD28C, .int .i64 l8, .int .i64 l9, .int .i64 l10, .slice l11O l11L l11C] wr19 < mu2 [.int .i64 fromv2, .int .i64 i2, .int .i64 l4, .int .i64 l5, .int .i64 l6, .slice l7O l7L l7C, .int .i64 l8, .int .i64 l9, .int .i64 l10, .slice l11O l11L l11C] wv11))))))))) ∧
    ((decide ((-1 : Int) ≥ 0)) = false →
    InR .i64 (i2 + 1) ∧
    (∀ wr20, ExtX [b, b1, b10] wv13 wr20 → (∀ bq ∈ ([b, b1, b10, b11, b12, b13] : List Nat), bq < wr20.heap.size) → xInv2 [.int .i64 (-1), .int .i64 (i2 + 1), .int .i64 xQueueD25, .int .i64 xQueueD26, .int .i64 xQueueD27, .slice xQueueD28O xQueueD28L xQueueD28C, .int .i64 l8, .int .i64 l9, .int .i64 l10, .slice l11O l11L l11C] wr20 ∧ mu2 [.int .i64 (-1), .int .i64 (i2 + 1), .int .i64 xQueueD25, .int .i64 xQueueD26, .int .i64 xQueueD27, .slice xQueueD28O xQueueD28L xQueueD28C, .int .i64 l8, .int .i64 l9, .int .i64 l10, .slice l11O l11L l11C] wr20 < mu2 [.int .i64 fromv2, .int .i64 i2, .int .i64 l4, .int .i64 l5, .int .i64 l6, .slice l7O l7L l7C, .int .i64 l8, .int .i64 l9, .int .i64 l10, .slice l11O l11L l11C] wv11)))) ∧
    (((decide (fromv2 ≥ 0)) && ((((!x010) || (!x011)) || (x210 != wv14)) || (x211 != wv15))) = false →
    ((((decide (fromv2 < 0)) && x010) && x011) = true →
    ((decide (i2 ≥ 0)) = true →
    Ix xQueueD23O xQueueD23L (Int.tmod stByte ((xGoodQu3L : Nat) : Int)) ∧
    (∃ (sum12 : Int),
    CellsX [b, b1, b10] wv13 xQueueD23O (Int.toNat (Int.tmod stByte ((xGoodQu3L : Nat) : Int)) * 4 + 3) [.int .i64 sum12] ∧
    Ix xQueueD28O xQueueD28L (Int.tmod stByte ((xGoodQu3L : Nat) : Int)) ∧
    (∃ (sum13 : Int),
    CellsX [b, b1, b10] wv13 xQueueD28O (Int.toNat (Int.tmod stByte ((xGoodQu3L : Nat) : Int)) * 4 + 3) [.int .i64 sum13] ∧
    InR .i64 (sum12 - sum13) ∧
    InR .i64 ((sum12 - sum13) * x211) ∧
    Ix xQueueD23O xQueueD23L (Int.tmod stByte1 ((xGoodQu3L : Nat) : Int)) ∧
    (∃ (sum14 : Int),
    CellsX [b, b1, b10] wv13 xQueueD23O (Int.toNat (Int.tmod stByte1 ((xGoodQu3L : Nat) : Int)) * 4 + 3) [.int .i64 sum14] ∧
    Ix xQueueD28O xQueueD28L (Int.tmod stByte1 ((xGoodQu3L : Nat) : Int)) ∧
    (∃ (sum15 : Int),
    CellsX [b, b1, b10] wv13 xQueueD28O (Int.toNat (Int.tmod stByte1 ((xGoodQu3L : Nat) : Int)) * 4 + 3) [.int .i64 sum15] ∧
    InR .i64 (sum14 - sum15) ∧
    InR .i64 ((sum14 - sum15) * x210) ∧
    InR .i64 (((sum12 - sum13) * x211) - ((sum14 - sum15) * x210)) ∧
    (∃ (xQueueA6 : Int),
    PureX [b, b1, b10] Try.prog fn_impl_QueueApart #[.int .i64 x210, .int .i64 x211] wv13 (.int .i64 xQueueA6) ∧
    ((decide (((sum12 - sum13) * x211) - ((sum14 - sum15) * x210) > xQueueA6)) = false → InR .i64 (0 - (((sum12 - sum13) * x211) - ((sum14 - sum15) * x210)))) ∧
    (∃ (xQueueA7 : Int),
    ((decide (((sum12 - sum13) * x211) - ((sum14 - sum15) * x210) > xQueueA6)) = false → PureX [b, b1, b10] Try.prog fn_impl_QueueApart #[.int .i64 x210, .int .i64 x211] wv13 (.int .i64 xQueueA7)) ∧
    (((decide (((sum12 - sum13) * x211) - ((sum14 - sum15) * x210) > xQueueA6)) || (decide (0 - (((sum12 - sum13) * x211) - ((sum14 - sum15) * x210)) > xQueueA7))) = true →
    (∀ wr21, ExtX [b, b1, b10] wv13 wr21 → R (.bool false) wr21)) ∧
    (((decide (((sum12 - sum13) * x211) - ((sum14 - sum15) * x210) > xQueueA6)) || (decide (0 - (((sum12 - sum13) * x211) - ((sum14 - sum15) * x210)) > xQueueA7))) = false →
    InR .i64 (i2 + 1) ∧
    (∀ wr22, ExtX [b, b1, b10] wv13 wr22 → (∀ bq ∈ ([b, b1, b10, b11, b12, b13] : List Nat), bq < wr22.heap.size) → xInv2 [.int .i64 i2, .int .i64 (i2 + 1), .int .i64 xQueueD25, .int .i64 xQueueD26, .int .i64 xQueueD27, .slice xQueueD28O xQueueD28L xQueueD28C, .int .i64 xQueueD25, .int .i64 xQueueD26, .int .i64 xQueueD27, .slice xQueueD28O xQueueD28L xQueueD28C] wr22 ∧ mu2 [.int .i64 i2, .int .i64 (i2 + 1), .int .i64 xQueueD25, .int .i64 xQueueD26, .int .i64 xQueueD27, .slice xQueueD28O xQueueD28L xQueueD28C, .int .i64 xQueueD25, .int .i64 xQueueD26, .int .i64 xQueueD27, .slice xQueueD28O xQueueD28L xQueueD28C] wr22 < mu2 [.int .i64 fromv2, .int .i64 i2, .int .i64 l4, .int .i64 l5, .int .i64 l6, .slice l7O l7L l7C, .int .i64 l8, .int .i64 l9, .int .i64 l10, .slice l11O l11L l11C] wv11))))))))) ∧
    ((decide (i2 ≥ 0)) = false →
    InR .i64 (i2 + 1) ∧
    (∀ wr23, ExtX [b, b1, b10] wv13 wr23 → (∀ bq ∈ ([b, b1, b10, b11, b12, b13] : List Nat), bq < wr23.heap.size) → xInv2 [.int .i64 i2, .int .i64 (i2 + 1), .int .i64 xQueueD25, .int .i64 xQueueD26, .int .i64 xQueueD27, .slice xQueueD28O xQueueD28L xQueueD28C, .int .i64 xQueueD25, .int .i64 xQueueD26, .int .i64 xQueueD27, .slice xQueueD28O xQueueD28L xQueueD28C] wr23 ∧ mu2 [.int .i64 i2, .int .i64 (i2 + 1), .int .i64 xQueueD25, .int .i64 xQueueD26, .int .i64 xQueueD27, .slice xQueueD28O xQueueD28L xQueueD28C, .int .i64 xQueueD25, .int .i64 xQueueD26, .int .i64 xQueueD27, .slice xQueueD28O xQueueD28L xQueueD28C] wr23 < mu2 [.int .i64 fromv2, .int .i64 i2, .int .i64 l4, .int .i64 l5, .int .i64 l6, .slice l7O l7L l7C, .int .i64 l8, .int .i64 l9, .int .i64 l10, .slice l11O l11L l11C] wv11))) ∧
    ((((decide (fromv2 < 0)) && x010) && x011) = false →
    ((decide (fromv2 ≥ 0)) = true →
    Ix xQueueD23O xQueueD23L (Int.tmod stByte ((xGoodQu3L : Nat) : Int)) ∧
    (∃ (sum16 : Int),
    CellsX [b, b1, b10] wv13 xQueueD23O (Int.toNat (Int.tmod stByte ((xGoodQu3L : Nat) : Int)) * 4 + 3) [.int .i64 sum16] ∧
    Ix l11O l11L (Int.tmod stByte ((xGoodQu3L : Nat) : Int)) ∧
    (∃ (sum17 : Int),
    CellsX [b, b1, b10] wv13 l11O (Int.toNat (Int.tmod stByte ((xGoodQu3L : Nat) : Int)) * 4 + 3) [.int .i64 sum17] ∧
    InR .i64 (sum16 - sum17) ∧
    InR .i64 ((sum16 - sum17) * x211) ∧
    Ix xQueueD23O xQueueD23L (Int.tmod stByte1 ((xGoodQu3L : Nat) : Int)) ∧
    (∃ (sum18 : Int),
    CellsX [b, b1, b10] wv13 xQueueD23O (Int.toNat (Int.tmod stByte1 ((xGoodQu3L : Nat) : Int)) * 4 + 3) [.int .i64 sum18] ∧
    Ix l11O l11L (Int.tmod stByte1 ((xGoodQu3L : Nat) : Int)) ∧
    (∃ (sum19 : Int),
    CellsX [b, b1, b10] wv13 l11O (Int.toNat (Int.tmod stByte1 ((xGoodQu3L : Nat) : Int)) * 4 + 3) [.int .i64 sum19] ∧
    InR .i64 (sum18 - sum19) ∧
    InR .i64 ((sum18 - sum19) * x210) ∧
    InR .i64 (((sum16 - sum17) * x211) - ((sum18 - sum19) * x210)) ∧
    (∃ (xQueueA8 : Int),
    PureX [b, b1, b10] Try.prog fn_impl_QueueApart #[.int .i64 x210, .int .i64 x211] wv13 (.int .i64 xQueueA8) ∧
    ((decide (((sum16 - sum17) * x211) - ((sum18 - sum19) * x210) > xQueueA8)) = false → InR .i64 (0 - (((sum16 - sum17) * x211) - ((sum18 - sum19) * x210)))) ∧
    (∃ (xQueueA9 : Int),
    ((decide (((sum16 - sum17) * x211) - ((sum18 - sum19) * x210) > xQueueA8)) = false → PureX [b, b1, b10] Try.prog fn_impl_QueueApart #[.int .i64 x210, .int .i64 x211] wv13 (.int .i64 xQueueA9)) ∧
    (((decide (((sum16 - sum17) * x211) - ((sum18 - sum19) * x210) > xQueueA8)) || (decide (0 - (((sum16 - sum17) * x211) - ((sum18 - sum19) * x210)) > xQueueA9))) = true →
    (∀ wr24, ExtX [b, b1, b10] wv13 wr24 → R (.bool false) wr24)) ∧
    (((decide (((sum16 - sum17) * x211) - ((sum18 - sum19) * x210) > xQueueA8)) || (decide (0 - (((sum16 - sum17) * x211) - ((sum18 - sum19) * x210)) > xQueueA9))) = false →
    InR .i64 (i2 + 1) ∧
    (∀ wr25, ExtX [b, b1, b10] wv13 wr25 → (∀ bq ∈ ([b, b1, b10, b11, b12, b13] : List Nat), bq < wr25.heap.size) → xInv2 [.int .i64 fromv2, .int .i64 (i2 + 1), .int .i64 xQueueD25, .int .i64 xQueueD26, .int .i64 xQueueD27, .slice xQueueD28O xQueueD28L xQueueD28C, .int .i64 l8, .int .i64 l9, .int .i64 l10, .slice l11O l11L l11C] wr25 ∧ mu2 [.int .i64 fromv2, .int .i64 (i2 + 1), .int .i64 xQueueD25, .int .i64 xQueueD26, .int .i64 xQueueD27, .slice xQueueD28O xQueueD28L xQueueD28C, .int .i64 l8, .int .i64 l9, .int .i64 l10, .slice l11O l11L l11C] wr25 < mu2 [.int .i64 fromv2, .int .i64 i2, .int .i64 l4, .int .i64 l5, .int .i64 l6, .slice l7O l7L l7C, .int .i64 l8, .int .i64 l9, .int .i64 l10, .slice l11O l11L l11C] wv11))))))))) ∧
    ((decide (fromv2 ≥ 0)) = false →
    InR .i64 (i2 + 1) ∧
    (∀ wr26, ExtX [b, b1, b10] wv13 wr26 → (∀ bq ∈ ([b, b1, b10, b11, b12, b13] : List Nat), bq < wr26.heap.size) → xInv2 [.int .i64 fromv2, .int .i64 (i2 + 1), .int .i64 xQueueD25, .int .i64 xQueueD26, .int .i64 xQueueD27, .slice xQueueD28O xQueueD28L xQueueD28C, .int .i64 l8, .int .i64 l9, .int .i64 l10, .slice l11O l11L l11C] wr26 ∧ mu2 [.int .i64 fromv2, .int .i64 (i2 + 1), .int .i64 xQueueD25, .int .i64 xQueueD26, .int .i64 xQueueD27, .slice xQueueD28O xQueueD28L xQueueD28C, .int .i64 l8, .int .i64 l9, .int .i64 l10, .slice l11O l11L l11C] wr26 < mu2 [.int .i64 fromv2, .int .i64 i2, .int .i64 l4, .int .i64 l5, .int .i64 l6, .slice l7O l7L l7C, .int .i64 l8, .int .i64 l9, .int .i64 l10, .slice l11O l11L l11C] wv11))))))))))))))))) ∧
    ((∀ b14, wv12.heap.size ≤ b14 →
    CellsX [b, b1] wv12 xGoodQu4O (Int.toNat i2 * 3) [.int .i64 x09, .int .i64 x19, .int .i64 x29] ∧
    (some (ty_impl_Queue, ([.int .i64 l4, .int .i64 l5, .int .i64 l6, .slice l7O l7L l7C] : List Value)) = some (ty_impl_Queue, ([.int .i64 l4, .int .i64 l5, .int .i64 l6, .slice l7O l7L l7C] : List Value))) ∧
    (∀ wr27, ExtX [b, b1] wv12 wr27 → (∀ bq ∈ ([b, b1, b10, b14] : List Nat), bq < wr27.heap.size) → 
    Calls Try.prog fn_spec_QueueDo #[.agg #[.int .i64 l4, .int .i64 l5, .int .i64 l6, .slice l7O l7L l7C], .agg #[.int .i64 x09, .int .i64 x19, .int .i64 x29]] wr27 fun e7 wv16 =>
    (∃ (xQueueD30 : Int) (xQueueD31 : Int) (xQueueD32 : Int) (xQueueD33O : Option Addr) (xQueueD33L : Nat) (xQueueD33C : Nat) (xQueueD34 : Bool),
    e7 = .returned (.tuple #[.agg #[.int .i64 xQueueD30, .int .i64 xQueueD31, .int .i64 xQueueD32, .slice xQueueD33O xQueueD33L xQueueD33C], .bool xQueueD34]) ∧ Kept [b, b1, b10, b14] wr27 wv16 ∧
    (∃ (xQueueO3 : Bool),
    ((!(xQueueD24 == xQueueD34)) = false → PureX [b, b1, b10, b14] Try.prog fn_impl_QueueOk #[.agg #[.int .i64 xQueueD20, .int .i64 xQueueD21, .int .i64 xQueueD22, .slice xQueueD23O xQueueD23L xQueueD23C]] wv16 (.bool xQueueO3)) ∧
    (∃ (stQueu3 : Bool),
    (((!(xQueueD24 == xQueueD34)) || (!xQueueO3)) = false → PureX [b, b1, b10, b14] Try.prog fn_laws_stQueue #[.agg #[.int .i64 xQueueD20, .int .i64 xQueueD21, .int .i64 xQueueD22, .slice xQueueD23O xQueueD23L xQueueD23C], .agg #[.int .i64 xQueueD30, .int .i64 xQueueD31, .int .i64 xQueueD32, .slice xQueueD33O xQueueD33L xQueueD33C]] wv16 (.bool stQueu3)) ∧
    ((((!(xQueueD24 == xQueueD34)) || (!xQueueO3)) || (!stQueu3)) = true →
    (∀ wr28, ExtX [b, b1, b10, b14] wv16 wr28 → R (.bool false) wr28)) ∧
    ((((!(xQueueD24 == xQueueD34)) || (!xQueueO3)) || (!stQueu3)) = false →
    Ix xQueueD33O xQueueD33L (Int.tmod stByte ((xGoodQu3L : Nat) : Int)) ∧
    (∃ (x012 : Bool) (x112 : Int) (x212 : Int) (x36 : Int),
    CellsX [b, b1, b10, b14] wv16 xQueueD33O (Int.toNat (Int.tmod stByte ((xGoodQu3L : Nat) : Int)) * 4) [.bool x012, .int .i64 x112, .int .i64 x212, .int .i64 x36] ∧
    (∀ b15, wv16.heap.size ≤ b15 →
    Ix xQueueD33O xQueueD33L (Int.tmod stByte1 ((xGoodQu3L : Nat) : Int)) ∧
    (∃ (x013 : Bool) (x113 : Int) (x213 : Int) (x37 : Int),
    CellsX [b, b1, b10, b14] wv16 xQueueD33O (Int.toNat (Int.tmod stByte1 ((xGoodQu3L : Nat) : Int)) * 4) [.bool x013, .int .i64 x113, .int .i64 x213, .int .i64 x37] ∧
    (∀ b16, wv16.heap.size ≤ b16 →
    (((!x012) || (!x013)) = false → ((decide (fromv2 ≥ 0)) = true → Ix l11O l11L (Int.tmod stByte ((xGoodQu3L : Nat) : Int)))) ∧
    (∃ (wv17 : Int),
    (((!x012) || (!x013)) = false → ((decide (fromv2 ≥ 0)) = true → CellsX [b, b1, b10, b14] wv16 l11O (Int.toNat (Int.tmod stByte ((xGoodQu3L : Nat) : Int)) * 4 + 2) [.int .i64 wv17])) ∧
    ((((!x012) || (!x013)) || (x212 != wv17)) = false → ((decide (fromv2 ≥ 0)) = true → Ix l11O l11L (Int.tmod stByte1 ((xGoodQu3L : Nat) : Int)))) ∧
    (∃ (wv18 : Int),
    ((((!x012) || (!x013)) || (x212 != wv17)) = false → ((decide (fromv2 ≥ 0)) = true → CellsX [b, b1, b10, b14] wv16 l11O (Int.toNat (Int.tmod stByte1 ((xGoodQu3L : Nat) : Int)) * 4 + 2) [.int .i64 wv18])) ∧
    (((decide (fromv2 ≥ 0)) && ((((!x012) || (!x013)) || (x212 != wv17)) || (x213 != wv18))) = true →
    ((((decide ((-1 : Int) < 0)) && x012) && x013) = true →
    ((decide (i2 ≥ 0)) = true →
    Ix xQueueD23O xQueueD23L (Int.tmod stByte ((xGoodQu3L : Nat) : Int)) ∧
    (∃ (sum20 : Int),
    CellsX [b, b1, b10, b14] wv16 xQueueD23O (Int.toNat (Int.tmod stByte ((xGoodQu3L : Nat) : Int)) * 4 + 3) [.int .i64 sum20] ∧
    Ix xQueueD33O xQueueD33L (Int.tmod stByte ((xGoodQu3L : Nat) : Int)) ∧
    (∃ (sum21 : Int),
    CellsX [b, b1, b10, b14] wv16 xQueueD33O (Int.toNat (Int.tmod stByte ((xGoodQu3L : Nat) : Int)) * 4 + 3) [.int .i64 sum21] ∧
    InR .i64 (sum20 - sum21) ∧
    InR .i64 ((sum20 - sum21) * x213) ∧
    Ix xQueueD23O xQueueD23L (Int.tmod stByte1 ((xGoodQu3L : Nat) : Int)) ∧
    (∃ (sum22 : Int),
    CellsX [b, b1, b10, b14] wv16 xQueueD23O (Int.toNat (Int.tmod stByte1 ((xGoodQu3L : Nat) : Int)) * 4 + 3) [.int .i64 sum22] ∧
    Ix xQueueD33O xQueueD33L (Int.tmod stByte1 ((xGoodQu3L : Nat) : Int)) ∧
    (∃ (sum23 : Int),
    CellsX [b, b1, b10, b14] wv16 xQueueD33O (Int.toNat (Int.tmod stByte1 ((xGoodQu3L : Nat) : Int)) * 4 + 3) [.int .i64 sum23] ∧
    InR .i64 (sum22 - sum23) ∧
    InR .i64 ((sum22 - sum23) * x212) ∧
    InR .i64 (((sum20 - sum21) * x213) - ((sum22 - sum23) * x212)) ∧
    (∃ (xQueueA10 : Int),
    PureX [b, b1, b10, b14] Try.prog fn_impl_QueueApart #[.int .i64 x212, .int .i64 x213] wv16 (.int .i64 xQueueA10) ∧
    ((decide (((sum20 - sum21) * x213) - ((sum22 - sum23) * x212) > xQueueA10)) = false → InR .i64 (0 - (((sum20 - sum21) * x213) - ((sum22 - sum23) * x212)))) ∧
    (∃ (xQueueA11 : Int),
    ((decide (((sum20 - sum21) * x213) - ((sum22 - sum23) * x212) > xQueueA10)) = false → PureX [b, b1, b10, b14] Try.prog fn_impl_QueueApart #[.int .i64 x212, .int .i64 x213] wv16 (.int .i64 xQueueA11)) ∧
    (((decide (((sum20 - sum21) * x213) - ((sum22 - sum23) * x212) > xQueueA10)) || (decide (0 - (((sum20 - sum21) * x213) - ((sum22 - sum23) * x212)) > xQueueA11))) = true →
    (∀ wr29, ExtX [b, b1, b10, b14] wv16 wr29 → R (.bool false) wr29)) ∧
    (((decide (((sum20 - sum21) * x213) - ((sum22 - sum23) * x212) > xQueueA10)) || (decide (0 - (((sum20 - sum21) * x213) - ((sum22 - sum23) * x212)) > xQueueA11))) = false →
    InR .i64 (i2 + 1) ∧
    (∀ wr30, ExtX [b, b1, b10, b14] wv16 wr30 → (∀ bq ∈ ([b, b1, b10, b14, b15, b16] : List Nat), bq < wr30.heap.size) → xInv2 [.int .i64 i2, .int .i64 (i2 + 1), .int .i64 xQueueD30, .int .i64 xQueueD31, .int .i64 xQueueD32, .slice xQueueD33O xQueueD33L xQueueD33C, .int .i64 xQueueD30, .int .i64 xQueueD31, .int .i64 xQueueD32, .slice xQueueD33O xQueueD33L xQueueD33C] wr30 ∧ mu2 [.int .i64 i2, .int .i64 (i2 + 1), .int .i64 xQueueD30, .int .i64 xQueueD31, .int .i64 xQueueD32, .slice xQueueD33O xQueueD33L xQueueD33C, .int .i64 xQueueD30, .int .i64 xQueueD31, .int .i64 xQueueD32, .slice xQueueD33O xQueueD33L xQueueD33C] wr30 < mu2 [.int .i64 fromv2, .int .i64 i2, .int .i64 l4, .int .i64 l5, .int .i64 l6, .slice l7O l7L l7C, .int .i64 l8, .int .i64 l9, .int .i64 l10, .slice l11O l11L l11C] wv11))))))))) ∧
    ((decide (i2 ≥ 0)) = false →
    InR .i64 (i2 + 1) ∧
    (∀ wr31, ExtX [b, b1, b10, b14] wv16 wr31 → (∀ bq ∈ ([b, b1, b10, b14, b15, b16] : List Nat), bq < wr31.heap.size) → xInv2 [.int .i64 i2, .int .i64 (i2 + 1), .int .i64 xQueueD30, .int .i64 xQueueD31, .int .i64 xQueueD32, .slice xQueueD33O xQueueD33L xQueueD33C, .int .i64 xQueueD30, .int .i64 xQueueD31, .int .i64 xQueueD32, .slice xQueueD33O xQueueD33L xQueueD33C] wr31 ∧ mu2 [.int .i64 i2, .int .i64 (i2 + 1), .int .i64 xQueueD30, .int .i64 xQueueD31, .int .i64 xQueueD32, .slice xQueueD33O xQueueD33L xQueueD33C, .int .i64 xQueueD30, .int .i64 xQueueD31, .int .i64 xQueueD32, .slice xQueueD33O xQueueD33L xQueueD33C] wr31 < mu2 [.int .i64 fromv2, .int .i64 i2, .int .i64 l4, .int .i64 l5, .int .i64 l6, .slice l7O l7L l7C, .int .i64 l8, .int .i64 l9, .int .i64 l10, .slice l11O l11L l11C] wv11))) ∧
    ((((decide ((-1 : Int) < 0)) && x012) && x013) = false →
    ((decide ((-1 : Int) ≥ 0)) = true →
    Ix xQueueD23O xQueueD23L (Int.tmod stByte ((xGoodQu3L : Nat) : Int)) ∧
    (∃ (sum24 : Int),
    CellsX [b, b1, b10, b14] wv16 xQueueD23O (Int.toNat (Int.tmod stByte ((xGoodQu3L : Nat) : Int)) * 4 + 3) [.int .i64 sum24] ∧
    Ix l11O l11L (Int.tmod stByte ((xGoodQu3L : Nat) : Int)) ∧
    (∃ (sum25 : Int),
    CellsX [b, b1, b10, b14] wv16 l11O (Int.toNat (Int.tmod stByte ((xGoodQu3L : Nat) : Int)) * 4 + 3) [.int .i64 sum25] ∧
    InR .i64 (sum24 - sum25) ∧
    InR .i64 ((sum24 - sum25) * x213) ∧
    Ix xQueueD23O xQueueD23L (Int.tmod stByte1 ((xGoodQu3L : Nat) : Int)) ∧
    (∃ (sum26 : Int),
    CellsX [b, b1, b10, b14] wv16 xQueueD23O (Int.toNat (Int.tmod stByte1 ((xGoodQu3L : Nat) : Int)) * 4 + 3) [.int .i64 sum26] ∧
    Ix l11O l11L (Int.tmod stByte1 ((xGoodQu3L : Nat) : Int)) ∧
    (∃ (sum27 : Int),
    CellsX [b, b1, b10, b14] wv16 l11O (Int.toNat (Int.tmod stByte1 ((xGoodQu3L : Nat) : Int)) * 4 + 3) [.int .i64 sum27] ∧
    InR .i64 (sum26 - sum27) ∧
    InR .i64 ((sum26 - sum27) * x212) ∧
    InR .i64 (((sum24 - sum25) * x213) - ((sum26 - sum27) * x212)) ∧
    (∃ (xQueueA12 : Int),
    PureX [b, b1, b10, b14] Try.prog fn_impl_QueueApart #[.int .i64 x212, .int .i64 x213] wv16 (.int .i64 xQueueA12) ∧
    ((decide (((sum24 - sum25) * x213) - ((sum26 - sum27) * x212) > xQueueA12)) = false → InR .i64 (0 - (((sum24 - sum25) * x213) - ((sum26 - sum27) * x212)))) ∧
    (∃ (xQueueA13 : Int),
    ((decide (((sum24 - sum25) * x213) - ((sum26 - sum27) * x212) > xQueueA12)) = false → PureX [b, b1, b10, b14] Try.prog fn_impl_QueueApart #[.int .i64 x212, .int .i64 x213] wv16 (.int .i64 xQueueA13)) ∧
    (((decide (((sum24 - sum25) * x213) - ((sum26 - sum27) * x212) > xQueueA12)) || (decide (0 - (((sum24 - sum25) * x213) - ((sum26 - sum27) * x212)) > xQueueA13))) = true →
    (∀ wr32, ExtX [b, b1, b10, b14] wv16 wr32 → R (.bool false) wr32)) ∧
    (((decide (((sum24 - sum25) * x213) - ((sum26 - sum27) * x212) > xQueueA12)) || (decide (0 - (((sum24 - sum25) * x213) - ((sum26 - sum27) * x212)) > xQueueA13))) = false →
    InR .i64 (i2 + 1) ∧
    (∀ wr33, ExtX [b, b1, b10, b14] wv16 wr33 → (∀ bq ∈ ([b, b1, b10, b14, b15, b16] : List Nat), bq < wr33.heap.size) → xInv2 [.int .i64 (-1), .int .i64 (i2 + 1), .int .i64 xQueueD30, .int .i64 xQueueD31, .int .i64 xQueueD32, .slice xQueueD33O xQueueD33L xQueueD33C, .int .i64 l8, .int .i64 l9, .int .i64 l10, .slice l11O l11L l11C] wr33 ∧ mu2 [.int .i64 (-1), .int .i64 (i2 + 1), .int .i64 xQueueD30, .int .i64 xQueueD31, .int .i64 xQueueD32, .slice xQueueD33O xQueueD33L xQueueD33C, .int .i64 l8, .int .i64 l9, .int .i64 l10, .slice l11O l11L l11C] wr33 < mu2 [.int .i64 fromv2, .int .i64 i2, .int .i64 l4, .int .i64 l5, .int .i64 l6, .slice l7O l7L l7C, .int .i64 l8, .int .i64 l9, .int .i64 l10, .slice l11O l11L l11C] wv11))))))))) ∧
    ((decide ((-1 : Int) ≥ 0)) = false →
    InR .i64 (i2 + 1) ∧
    (∀ wr34, ExtX [b, b1, b10, b14] wv16 wr34 → (∀ bq ∈ ([b, b1, b10, b14, b15, b16] : List Nat), bq < wr34.heap.size) → xInv2 [.int .i64 (-1), .int .i64 (i2 + 1), .int .i64 xQueueD30, .int .i64 xQueueD31, .int .i64 xQueueD32, .slice xQueueD33O xQueueD33L xQueueD33C, .int .i64 l8, .int .i64 l9, .int .i64 l10, .slice l11O l11L l11C] wr34 ∧ mu2 [.int .i64 (-1), .int .i64 (i2 + 1), .int .i64 xQueueD30, .int .i64 xQueueD31, .int .i64 xQueueD32, .slice xQueueD33O xQueueD33L xQueueD33C, .int .i64 l8, .int .i64 l9, .int .i64 l10, .slice l11O l11L l11C] wr34 < mu2 [.int .i64 fromv2, .int .i64 i2, .int .i64 l4, .int .i64 l5, .int .i64 l6, .slice l7O l7L l7C, .int .i64 l8, .int .i64 l9, .int .i64 l10, .slice l11O l11L l11C] wv11)))) ∧
    (((decide (fromv2 ≥ 0)) && ((((!x012) || (!x013)) || (x212 != wv17)) || (x213 != wv18))) = false →
    ((((decide (fromv2 < 0)) && x012) && x013) = true →
    ((decide (i2 ≥ 0)) = true →
    Ix xQueueD23O xQueueD23L (Int.tmod stByte ((xGoodQu3L : Nat) : Int)) ∧
    (∃ (sum28 : Int),
    CellsX [b, b1, b10, b14] wv16 xQueueD23O (Int.toNat (Int.tmod stByte ((xGoodQu3L : Nat) : Int)) * 4 + 3) [.int .i64 sum28] ∧
    Ix xQueueD33O xQueueD33L (Int.tmod stByte ((xGoodQu3L : Nat) : Int)) ∧
    (∃ (sum29 : Int),
    CellsX [b, b1, b10, b14] wv16 xQueueD33O (Int.toNat (Int.tmod stByte ((xGoodQu3L : Nat) : Int)) * 4 + 3) [.int .i64 sum29] ∧
    InR .i64 (sum28 - sum29) ∧
    InR .i64 ((sum28 - sum29) * x213) ∧
    Ix xQueueD23O xQueueD23L (Int.tmod stByte1 ((xGoodQu3L : Nat) : Int)) ∧
    (∃ (sum30 : Int),
    CellsX [b, b1, b10, b14] wv16 xQueueD23O (Int.toNat (Int.tmod stByte1 ((xGoodQu3L : Nat) : Int)) * 4 + 3) [.int .i64 sum30] ∧
    Ix xQueueD33O xQueueD33L (Int.tmod stByte1 ((xGoodQu3L : Nat) : Int)) ∧
    (∃ (sum31 : Int),
    CellsX [b, b1, b10, b14] wv16 xQueueD33O (Int.toNat (Int.tmod stByte1 ((xGoodQu3L : Nat) : Int)) * 4 + 3) [.int .i64 sum31] ∧
    InR .i64 (sum30 - sum31) ∧
    InR .i64 ((sum30 - sum31) * x212) ∧
    InR .i64 (((sum28 - sum29) * x213) - ((sum30 - sum31) * x212)) ∧
    (∃ (xQueueA14 : Int),
    PureX [b, b1, b10, b14] Try.prog fn_impl_QueueApart #[.int .i64 x212, .int .i64 x213] wv16 (.int .i64 xQueueA14) ∧
    ((decide (((sum28 - sum29) * x213) - ((sum30 - sum31) * x212) > xQueueA14)) = false → InR .i64 (0 - (((sum28 - sum29) * x213) - ((sum30 - sum31) * x212)))) ∧
    (∃ (xQueueA15 : Int),
    ((decide (((sum28 - sum29) * x213) - ((sum30 - sum31) * x212) > xQueueA14)) = false → PureX [b, b1, b10, b14] Try.prog fn_impl_QueueApart #[.int .i64 x212, .int .i64 x213] wv16 (.int .i64 xQueueA15)) ∧
    (((decide (((sum28 - sum29) * x213) - ((sum30 - sum31) * x212) > xQueueA14)) || (decide (0 - (((sum28 - sum29) * x213) - ((sum30 - sum31) * x212)) > xQueueA15))) = true →
    (∀ wr35, ExtX [b, b1, b10, b14] wv16 wr35 → R (.bool false) wr35)) ∧
    (((decide (((sum28 - sum29) * x213) - ((sum30 - sum31) * x212) > xQueueA14)) || (decide (0 - (((sum28 - sum29) * x213) - ((sum30 - sum31) * x212)) > xQueueA15))) = false →
    InR .i64 (i2 + 1) ∧
    (∀ wr36, ExtX [b, b1, b10, b14] wv16 wr36 → (∀ bq ∈ ([b, b1, b10, b14, b15, b16] : List Nat), bq < wr36.heap.size) → xInv2 [.int .i64 i2, .int .i64 (i2 + 1), .int .i64 xQueueD30, .int .i64 xQueueD31, .int .i64 xQueueD32, .slice xQueueD33O xQueueD33L xQueueD33C, .int .i64 xQueueD30, .int .i64 xQueueD31, .int .i64 xQueueD32, .slice xQueueD33O xQueueD33L xQueueD33C] wr36 ∧ mu2 [.int .i64 i2, .int .i64 (i2 + 1), .int .i64 xQueueD30, .int .i64 xQueueD31, .int .i64 xQueueD32, .slice xQueueD33O xQueueD33L xQueueD33C, .int .i64 xQueueD30, .int .i64 xQueueD31, .int .i64 xQueueD32, .slice xQueueD33O xQueueD33L xQueueD33C] wr36 < mu2 [.int .i64 fromv2, .int .i64 i2, .int .i64 l4, .int .i64 l5, .int .i64 l6, .slice l7O l7L l7C, .int .i64 l8, .int .i64 l9, .int .i64 l10, .slice l11O l11L l11C] wv11))))))))) ∧
    ((decide (i2 ≥ 0)) = false →
    InR .i64 (i2 + 1) ∧
    (∀ wr37, ExtX [b, b1, b10, b14] wv16 wr37 → (∀ bq ∈ ([b, b1, b10, b14, b15, b16] : List Nat), bq < wr37.heap.size) → xInv2 [.int .i64 i2, .int .i64 (i2 + 1), .int .i64 xQueueD30, .int .i64 xQueueD31, .int .i64 xQueueD32, .slice xQueueD33O xQueueD33L xQueueD33C, .int .i64 xQueueD30, .int .i64 xQueueD31, .int .i64 xQueueD32, .slice xQueueD33O xQueueD33L xQueueD33C] wr37 ∧ mu2 [.int .i64 i2, .int .i64 (i2 + 1), .int .i64 xQueueD30, .int .i64 xQueueD31, .int .i64 xQueueD32, .slice xQueueD33O xQueueD33L xQueueD33C, .int .i64 xQueueD30, .int .i64 xQueueD31, .int .i64 xQueueD32, .slice xQueueD33O xQueueD33L xQueueD33C] wr37 < mu2 [.int .i64 fromv2, .int .i64 i2, .int .i64 l4, .int .i64 l5, .int .i64 l6, .slice l7O l7L l7C, .int .i64 l8, .int .i64 l9, .int .i64 l10, .slice l11O l11L l11C] wv11))) ∧
    ((((decide (fromv2 < 0)) && x012) && x013) = false →
    ((decide (fromv2 ≥ 0)) = true →
    Ix xQueueD23O xQueueD23L (Int.tmod stByte ((xGoodQu3L : Nat) : Int)) ∧
    (∃ (sum32 : Int),
    CellsX [b, b1, b10, b14] wv16 xQueueD23O (Int.toNat (Int.tmod stByte ((xGoodQu3L : Nat) : Int)) * 4 + 3) [.int .i64 sum32] ∧
    Ix l11O l11L (Int.tmod stByte ((xGoodQu3L : Nat) : Int)) ∧
    (∃ (sum33 : Int),
    CellsX [b, b1, b10, b14] wv16 l11O (Int.toNat (Int.tmod stByte ((xGoodQu3L : Nat) : Int)) * 4 + 3) [.int .i64 sum33] ∧
    InR .i64 (sum32 - sum33) ∧
    InR .i64 ((sum32 - sum33) * x213) ∧
    Ix xQueueD23O xQueueD23L (Int.tmod stByte1 ((xGoodQu3L : Nat) : Int)) ∧
    (∃ (sum34 : Int),
    CellsX [b, b1, b10, b14] wv16 xQueueD23O (Int.toNat (Int.tmod stByte1 ((xGoodQu3L : Nat) : Int)) * 4 + 3) [.int .i64 sum34] ∧
    Ix l11O l11L (Int.tmod stByte1 ((xGoodQu3L : Nat) : Int)) ∧
    (∃ (sum35 : Int),
    CellsX [b, b1, b10, b14] wv16 l11O (Int.toNat (Int.tmod stByte1 ((xGoodQu3L : Nat) : Int)) * 4 + 3) [.int .i64 sum35] ∧
    InR .i64 (sum34 - sum35) ∧
    InR .i64 ((sum34 - sum35) * x212) ∧
    InR .i64 (((sum32 - sum33) * x213) - ((sum34 - sum35) * x212)) ∧
    (∃ (xQueueA16 : Int),
    PureX [b, b1, b10, b14] Try.prog fn_impl_QueueApart #[.int .i64 x212, .int .i64 x213] wv16 (.int .i64 xQueueA16) ∧
    ((decide (((sum32 - sum33) * x213) - ((sum34 - sum35) * x212) > xQueueA16)) = false → InR .i64 (0 - (((sum32 - sum33) * x213) - ((sum34 - sum35) * x212)))) ∧
    (∃ (xQueueA17 : Int),
    ((decide (((sum32 - sum33) * x213) - ((sum34 - sum35) * x212) > xQueueA16)) = false → PureX [b, b1, b10, b14] Try.prog fn_impl_QueueApart #[.int .i64 x212, .int .i64 x213] wv16 (.int .i64 xQueueA17)) ∧
    (((decide (((sum32 - sum33) * x213) - ((sum34 - sum35) * x212) > xQueueA16)) || (decide (0 - (((sum32 - sum33) * x213) - ((sum34 - sum35) * x212)) > xQueueA17))) = true →
    (∀ wr38, ExtX [b, b1, b10, b14] wv16 wr38 → R (.bool false) wr38)) ∧
    (((decide (((sum32 - sum33) * x213) - ((sum34 - sum35) * x212) > xQueueA16)) || (decide (0 - (((sum32 - sum33) * x213) - ((sum34 - sum35) * x212)) > xQueueA17))) = false →
    InR .i64 (i2 + 1) ∧
    (∀ wr39, ExtX [b, b1, b10, b14] wv16 wr39 → (∀ bq ∈ ([b, b1, b10, b14, b15, b16] : List Nat), bq < wr39.heap.size) → xInv2 [.int .i64 fromv2, .int .i64 (i2 + 1), .int .i64 xQueueD30, .int .i64 xQueueD31, .int .i64 xQueueD32, .slice xQueueD33O xQueueD33L xQueueD33C, .int .i64 l8, .int .i64 l9, .int .i64 l10, .slice l11O l11L l11C] wr39 ∧ mu2 [.int .i64 fromv2, .int .i64 (i2 + 1), .int .i64 xQueueD30, .int .i64 xQueueD31, .int .i64 xQueueD32, .slice xQueueD33O xQueueD33L xQueueD33C, .int .i64 l8, .int .i64 l9, .int .i64 l10, .slice l11O l11L l11C] wr39 < mu2 [.int .i64 fromv2, .int .i64 i2, .int .i64 l4, .int .i64 l5, .int .i64 l6, .slice l7O l7L l7C, .int .i64 l8, .int .i64 l9, .int .i64 l10, .slice l11O l11L l11C] wv11))))))))) ∧
    ((decide (fromv2 ≥ 0)) = false →
    InR .i64 (i2 + 1) ∧
    (∀ wr40, ExtX [b, b1, b10, b14] wv16 wr40 → (∀ bq ∈ ([b, b1, b10, b14, b15, b16] : List Nat), bq < wr40.heap.size) → xInv2 [.int .i64 fromv2, .int .i64 (i2 + 1), .int .i64 xQueueD30, .int .i64 xQueueD31, .int .i64 xQueueD32, .slice xQueueD33O xQueueD33L xQueueD33C, .int .i64 l8, .int .i64 l9, .int .i64 l10, .slice l11O l11L l11C] wr40 ∧ mu2 [.int .i64 fromv2, .int .i64 (i2 + 1), .int .i64 xQueueD30, .int .i64 xQueueD31, .int .i64 xQueueD32, .slice xQueueD33O xQueueD33L xQueueD33C, .int .i64 l8, .int .i64 l9, .int .i64 l10, .slice l11O l11L l11C] wr40 < mu2 [.int .i64 fromv2, .int .i64 i2, .int .i64 l4, .int .i64 l5, .int .i64 l6, .slice l7O l7L l7C, .int .i64 l8, .int .i64 l9, .int .i64 l10, .slice l11O l11L l11C] wv11)))))))))))))))))))))) ∧
    ((∀ b17, wv11.heap.size ≤ b17 →
    CellsX [b, b1] wv11 xGoodQu4O (Int.toNat i2 * 3) [.int .i64 x08, .int .i64 x18, .int .i64 x28] ∧
    (some (ty_impl_Queue, ([.int .i64 l4, .int .i64 l5, .int .i64 l6, .slice l7O l7L l7C] : List Value)) = some (ty_impl_Queue, ([.int .i64 l4, .int .i64 l5, .int .i64 l6, .slice l7O l7L l7C] : List Value))) ∧
    (∀ wr41, ExtX [b, b1] wv11 wr41 → (∀ bq ∈ ([b, b1, b17] : List Nat), bq < wr41.heap.size) → 
    Calls Try.prog fn_impl_QueueDo #[.agg #[.int .i64 l4, .int .i64 l5, .int .i64 l6, .slice l7O l7L l7C], .agg #[.int .i64 x08, .int .i64 x18, .int .i64 x28]] wr41 fun e8 wv19 =>
    (∃ (xQueueD35 : Int) (xQueueD36 : Int) (xQueueD37 : Int) (xQueueD38O : Option Addr) (xQueueD38L : Nat) (xQueueD38C : Nat) (xQueueD39 : Bool),
    e8 = .returned (.tuple #[.agg #[.int .i64 xQueueD35, .int .i64 xQueueD36, .int .i64 xQueueD37, .slice xQueueD38O xQueueD38L xQueueD38C], .bool xQueueD39]) ∧ Kept [b, b1, b17] wr41 wv19 ∧
    Ix xGoodQu4O xGoodQu4L i2 ∧
    (∃ (x014 : Int) (x114 : Int) (x214 : Int),
    CellsX [b, b1, b17] wv19 xGoodQu4O (Int.toNat i2 * 3) [.int .i64 x014, .int .i64 x114, .int .i64 x214] ∧
    ((∀ wr42, ExtX [b, b1, b17] wv19 wr42 → (∀ bq ∈ ([b, b1, b17] : List Nat), bq < wr42.heap.size) → 
    Calls Try.prog fn_spec_QueueDo #[.agg #[.int .i64 l4, .int .i64 l5, .int .i64 l6, .slice l7O l7L l7C], .agg #[.int .i64 x014, .int .i64 x114, .int .i64 x214]] wr42 fun e9 wv20 =>
    (∃ (xQueueD40 : Int) (xQueueD41 : Int) (xQueueD42 : Int) (xQueueD43O : Option Addr) (xQueueD43L : Nat) (xQueueD43C : Nat) (xQueueD44 : Bool),
    e9 = .returned (.tuple #[.agg #[.int .i64 xQueueD40, .int .i64 xQueueD41, .int .i64 xQueueD42, .slice xQueueD43O xQueueD43L xQueueD43C], .bool xQueueD44]) ∧ Kept [b, b1, b17] wr42 wv20 ∧
    (∀ b18, wv20.heap.size ≤ b18 →
    CellsX [b, b1, b17] wv20 xGoodQu4O (Int.toNat i2 * 3) [.int .i64 x014, .int .i64 x114, .int .i64 x214] ∧
    (some (ty_impl_Queue, ([.int .i64 l4, .int .i64 l5, .int .i64 l6, .slice l7O l7L l7C] : List Value)) = some (ty_impl_Queue, ([.int .i64 l4, .int .i64 l5, .int .i64 l6, .slice l7O l7L l7C] : List Value))) ∧
    (∃ (xQueueO4 : Bool),
    ((!(xQueueD39 == xQueueD44)) = false → PureX [b, b1, b17] Try.prog fn_impl_QueueOk #[.agg #[.int .i64 xQueueD35, .int .i64 xQueueD36, .int .i64 xQueueD37, .slice xQueueD38O xQueueD38L xQueueD38C]] wv20 (.bool xQueueO4)) ∧
    (∃ (stQueu4 : Bool),
    (((!(xQueueD39 == xQueueD44)) || (!xQueueO4)) = false → PureX [b, b1, b17] Try.prog fn_laws_stQueue #[.agg #[.int .i64 xQueueD35, .int .i64 xQueueD36, .int .i64 xQueueD37, .slice xQueueD38O xQueueD38L xQueueD38C], .agg #[.int .i64 xQueueD40, .int .i64 xQueueD41, .int .i64 xQueueD42, .slice xQueueD43O xQueueD43L xQueueD43C]] wv20 (.bool stQueu4)) ∧
    ((((!(xQueueD39 == xQueueD44)) || (!xQueueO4)) || (!stQueu4)) = true →
    (∀ wr43, ExtX [b, b1, b17] wv20 wr43 → R (.bool false) wr43)) ∧
    ((((!(xQueueD39 == xQueueD44)) || (!xQueueO4)) || (!stQueu4)) = false →
    Ix xQueueD43O xQueueD43L (Int.tmod stByte ((xGoodQu3L : Nat) : Int)) ∧
    (∃ (x015 : Bool) (x115 : Int) (x215 : Int) (x38 : Int),
    CellsX [b, b1, b17] wv20 xQueueD43O (Int.toNat (Int.tmod stByte ((xGoodQu3L : Nat) : Int)) * 4) [.bool x015, .int .i64 x115, .int .i64 x215, .int .i64 x38] ∧
    (∀ b19, wv20.heap.size ≤ b19 →
    Ix xQueueD43O xQueueD43L (Int.tmod stByte1 ((xGoodQu3L : Nat) : Int)) ∧
    (∃ (x016 : Bool) (x116 : Int) (x216 : Int) (x39 : Int),
    CellsX [b, b1, b17] wv20 xQueueD43O (Int.toNat (Int.tmod stByte1 ((xGoodQu3L : Nat) : Int)) * 4) [.bool x016, .int .i64 x116, .int .i64 x216, .int .i64 x39] ∧
    (∀ b20, wv20.heap.size ≤ b20 →
    (((!x015) || (!x016)) = false → ((decide (fromv2 ≥ 0)) = true → Ix l11O l11L (Int.tmod stByte ((xGoodQu3L : Nat) : Int)))) ∧
    (∃ (wv21 : Int),
    (((!x015) || (!x016)) = false → ((decide (fromv2 ≥ 0)) = true → CellsX [b, b1, b17] wv20 l11O (Int.toNat (Int.tmod stByte ((xGoodQu3L : Nat) : Int)) * 4 + 2) [.int .i64 wv21])) ∧
    ((((!x015) || (!x016)) || (x215 != wv21)) = false → ((decide (fromv2 ≥ 0)) = true → Ix l11O l11L (Int.tmod stByte1 ((xGoodQu3L : Nat) : Int)))) ∧
    (∃ (wv22 : Int),
    ((((!x015) || (!x016)) || (x215 != wv21)) = false → ((decide (fromv2 ≥ 0)) = true → CellsX [b, b1, b17] wv20 l11O (Int.toNat (Int.tmod stByte1 ((xGoodQu3L : Nat) : Int)) * 4 + 2) [.int .i64 wv22])) ∧
    (((decide (fromv2 ≥ 0)) && ((((!x015) || (!x016)) || (x215 != wv21)) || (x216 != wv22))) = true →
    ((((decide ((-1 : Int) < 0)) && x015) && x016) = true →
    ((decide (i2 ≥ 0)) = true →
    Ix xQueueD38O xQueueD38L (Int.tmod stByte ((xGoodQu3L : Nat) : Int)) ∧
    (∃ (sum36 : Int),
    CellsX [b, b1, b17] wv20 xQueueD38O (Int.toNat (Int.tmod stByte ((xGoodQu3L : Nat) : Int)) * 4 + 3) [.int .i64 sum36] ∧
    Ix xQueueD43O xQueueD43L (Int.tmod stByte ((xGoodQu3L : Nat) : Int)) ∧
    (∃ (sum37 : Int),
    CellsX [b, b1, b17] wv20 xQueueD43O (Int.toNat (Int.tmod stByte ((xGoodQu3L : Nat) : Int)) * 4 + 3) [.int .i64 sum37] ∧
    InR .i64 (sum36 - sum37) ∧
    InR .i64 ((sum36 - sum37) * x216) ∧
    Ix xQueueD38O xQueueD38L (Int.tmod stByte1 ((xGoodQu3L : Nat) : Int)) ∧
    (∃ (sum38 : Int),
    CellsX [b, b1, b17] wv20 xQueueD38O (Int.toNat (Int.tmod stByte1 ((xGoodQu3L : Nat) : Int)) * 4 + 3) [.int .i64 sum38] ∧
    Ix xQueueD43O xQueueD43L (Int.tmod stByte1 ((xGoodQu3L : Nat) : Int)) ∧
    (∃ (sum39 : Int),
    CellsX [b, b1, b17] wv20 xQueueD43O (Int.toNat (Int.tmod stByte1 ((xGoodQu3L : Nat) : Int)) * 4 + 3) [.int .i64 sum39] ∧
    InR .i64 (sum38 - sum39) ∧
    InR .i64 ((sum38 - sum39) * x215) ∧
    InR .i64 (((sum36 - sum37) * x216) - ((sum38 - sum39) * x215)) ∧
    (∃ (xQueueA18 : Int),
    PureX [b, b1, b17] Try.prog fn_impl_QueueApart #[.int .i64 x215, .int .i64 x216] wv20 (.int .i64 xQueueA18) ∧
    ((decide (((sum36 - sum37) * x216) - ((sum38 - sum39) * x215) > xQueueA18)) = false → InR .i64 (0 - (((sum36 - sum37) * x216) - ((sum38 - sum39) * x215)))) ∧
    (∃ (xQueueA19 : Int),
    ((decide (((sum36 - sum37) * x216) - ((sum38 - sum39) * x215) > xQueueA18)) = false → PureX [b, b1, b17] Try.prog fn_impl_QueueApart #[.int .i64 x215, .int .i64 x216] wv20 (.int .i64 xQueueA19)) ∧
    (((decide (((sum36 - sum37) * x216) - ((sum38 - sum39) * x215) > xQueueA18)) || (decide (0 - (((sum36 - sum37) * x216) - ((sum38 - sum39) * x215)) > xQueueA19))) = true →
    (∀ wr44, ExtX [b, b1, b17] wv20 wr44 → R (.bool false) wr44)) ∧
    (((decide (((sum36 - sum37) * x216) - ((sum38 - sum39) * x215) > xQueueA18)) || (decide (0 - (((sum36 - sum37) * x216) - ((sum38 - sum39) * x215)) > xQueueA19))) = false →
    InR .i64 (i2 + 1) ∧
    (∀ wr45, ExtX [b, b1, b17] wv20 wr45 → (∀ bq ∈ ([b, b1, b17, b18, b19, b20] : List Nat), bq < wr45.heap.size) → xInv2 [.int .i64 i2, .int .i64 (i2 + 1), .int .i64 xQueueD40, .int .i64 xQueueD41, .int .i64 xQueueD42, .slice xQueueD43O xQueueD43L xQueueD43C, .int .i64 xQueueD40, .int .i64 xQueueD41, .int .i64 xQueueD42, .slice xQueueD43O xQueueD43L xQueueD43C] wr45 ∧ mu2 [.int .i64 i2, .int .i64 (i2 + 1), .int .i64 xQueueD40, .int .i64 xQueueD41, .int .i64 xQueueD42, .slice xQueueD43O xQueueD43L xQueueD43C, .int .i64 xQueueD40, .int .i64 xQueueD41, .int .i64 xQueueD42, .slice xQueueD43O xQueueD43L xQueueD43C] wr45 < mu2 [.int .i64 fromv2, .int .i64 i2, .int .i64 l4, .int .i64 l5, .int .i64 l6, .slice l7O l7L l7C, .int .i64 l8, .int .i64 l9, .int .i64 l10, .slice l11O l11L l11C] wv11))))))))) ∧
    ((decide (i2 ≥ 0)) = false →
    InR .i64 (i2 + 1) ∧
    (∀ wr46, ExtX [b, b1, b17] wv20 wr46 → (∀ bq ∈ ([b, b1, b17, b18, b19, b20] : List Nat), bq < wr46.heap.size) → xInv2 [.int .i64 i2, .int .i64 (i2 + 1), .int .i64 xQueueD40, .int .i64 xQueueD41, .int .i64 xQueueD42, .slice xQueueD43O xQueueD43L xQueueD43C, .int .i64 xQueueD40, .int .i64 xQueueD41, .int .i64 xQueueD42, .slice xQueueD43O xQueueD43L xQueueD43C] wr46 ∧ mu2 [.int .i64 i2, .int .i64 (i2 + 1), .int .i64 xQueueD40, .int .i64 xQueueD41, .int .i64 xQueueD42, .slice xQueueD43O xQueueD43L xQueueD43C, .int .i64 xQueueD40, .int .i64 xQueueD41, .int .i64 xQueueD42, .slice xQueueD43O xQueueD43L xQueueD43C] wr46 < mu2 [.int .i64 fromv2, .int .i64 i2, .int .i64 l4, .int .i64 l5, .int .i64 l6, .slice l7O l7L l7C, .int .i64 l8, .int .i64 l9, .int .i64 l10, .slice l11O l11L l11C] wv11))) ∧
    ((((decide ((-1 : Int) < 0)) && x015) && x016) = false →
    ((decide ((-1 : Int) ≥ 0)) = true →
    Ix xQueueD38O xQueueD38L (Int.tmod stByte ((xGoodQu3L : Nat) : Int)) ∧
    (∃ (sum40 : Int),
    CellsX [b, b1, b17] wv20 xQueueD38O (Int.toNat (Int.tmod stByte ((xGoodQu3L : Nat) : Int)) * 4 + 3) [.int .i64 sum40] ∧
    Ix l11O l11L (Int.tmod stByte ((xGoodQu3L : Nat) : Int)) ∧
    (∃ (sum41 : Int),
    CellsX [b, b1, b17] wv20 l11O (Int.toNat (Int.tmod stByte ((xGoodQu3L : Nat) : Int)) * 4 + 3) [.int .i64 sum41] ∧
    InR .i64 (sum40 - sum41) ∧
    InR .i64 ((sum40 - sum41) * x216) ∧
    Ix xQueueD38O xQueueD38L (Int.tmod stByte1 ((xGoodQu3L : Nat) : Int)) ∧
    (∃ (sum42 : Int),
    CellsX [b, b1, b17] wv20 xQueueD38O (Int.toNat (Int.tmod stByte1 ((xGoodQu3L : Nat) : Int)) * 4 + 3) [.int .i64 sum42] ∧
    Ix l11O l11L (Int.tmod stByte1 ((xGoodQu3L : Nat) : Int)) ∧
    (∃ (sum43 : Int),
    CellsX [b, b1, b17] wv20 l11O (Int.toNat (Int.tmod stByte1 ((xGoodQu3L : Nat) : Int)) * 4 + 3) [.int .i64 sum43] ∧
    InR .i64 (sum42 - sum43) ∧
    InR .i64 ((sum42 - sum43) * x215) ∧
    InR .i64 (((sum40 - sum41) * x216) - ((sum42 - sum43) * x215)) ∧
    (∃ (xQueueA20 : Int),
    PureX [b, b1, b17] Try.prog fn_impl_QueueApart #[.int .i64 x215, .int .i64 x216] wv20 (.int .i64 xQueueA20) ∧
    ((decide (((sum40 - sum41) * x216) - ((sum42 - sum43) * x215) > xQueueA20)) = false → InR .i64 (0 - (((sum40 - sum41) * x216) - ((sum42 - sum43) * x215)))) ∧
    (∃ (xQueueA21 : Int),
    ((decide (((sum40 - sum41) * x216) - ((sum42 - sum43) * x215) > xQueueA20)) = false → PureX [b, b1, b17] Try.prog fn_impl_QueueApart #[.int .i64 x215, .int .i64 x216] wv20 (.int .i64 xQueueA21)) ∧
    (((decide (((sum40 - sum41) * x216) - ((sum42 - sum43) * x215) > xQueueA20)) || (decide (0 - (((sum40 - sum41) * x216) - ((sum42 - sum43) * x215)) > xQueueA21))) = true →
    (∀ wr47, ExtX [b, b1, b17] wv20 wr47 → R (.bool false) wr47)) ∧
    (((decide (((sum40 - sum41) * x216) - ((sum42 - sum43) * x215) > xQueueA20)) || (decide (0 - (((sum40 - sum41) * x216) - ((sum42 - sum43) * x215)) > xQueueA21))) = false →
    InR .i64 (i2 + 1) ∧
    (∀ wr48, ExtX [b, b1, b17] wv20 wr48 → (∀ bq ∈ ([b, b1, b17, b18, b19, b20] : List Nat), bq < wr48.heap.size) → xInv2 [.int .i64 (-1), .int .i64 (i2 + 1), .int .i64 xQueueD40, .int .i64 xQueueD41, .int .i64 xQueueD42, .slice xQueueD43O xQueueD43L xQueueD43C, .int .i64 l8, .int .i64 l9, .int .i64 l10, .slice l11O l11L l11C] wr48 ∧ mu2 [.int .i64 (-1), .int .i64 (i2 + 1), .int .i64 xQueueD40, .int .i64 xQueueD41, .int .i64 xQueueD42, .slice xQueueD43O xQueueD43L xQueueD43C, .int .i64 l8, .int .i64 l9, .int .i64 l10, .slice l11O l11L l11C] wr48 < mu2 [.int .i64 fromv2, .int .i64 i2, .int .i64 l4, .int .i64 l5, .int .i64 l6, .slice l7O l7L l7C, .int .i64 l8, .int .i64 l9, .int .i64 l10, .slice l11O l11L l11C] wv11))))))))) ∧
    ((decide ((-1 : Int) ≥ 0)) = false →
    InR .i64 (i2 + 1) ∧
    (∀ wr49, ExtX [b, b1, b17] wv20 wr49 → (∀ bq ∈ ([b, b1, b17, b18, b19, b20] : List Nat), bq < wr49.heap.size) → xInv2 [.int .i64 (-1), .int .i64 (i2 + 1), .int .i64 xQueueD40, .int .i64 xQueueD41, .int .i64 xQueueD42, .slice xQueueD43O xQueueD43L xQueueD43C, .int .i64 l8, .int .i64 l9, .int .i64 l10, .slice l11O l11L l11C] wr49 ∧ mu2 [.int .i64 (-1), .int .i64 (i2 + 1), .int .i64 xQueueD40, .int .i64 xQueueD41, .int .i64 xQueueD42, .slice xQueueD43O xQueueD43L xQueueD43C, .int .i64 l8, .int .i64 l9, .int .i64 l10, .slice l11O l11L l11C] wr49 < mu2 [.int .i64 fromv2, .int .i64 i2, .int .i64 l4, .int .i64 l5, .int .i64 l6, .slice l7O l7L l7C, .int .i64 l8, .int .i64 l9, .int .i64 l10, .slice l11O l11L l11C] wv11)))) ∧
    (((decide (fromv2 ≥ 0)) && ((((!x015) || (!x016)) || (x215 != wv21)) || (x216 != wv22))) = false →
    ((((decide (fromv2 < 0)) && x015) && x016) = true →
    ((decide (i2 ≥ 0)) = true →
    Ix xQueueD38O xQueueD38L (Int.tmod stByte ((xGoodQu3L : Nat) : Int)) ∧
    (∃ (sum44 : Int),
    CellsX [b, b1, b17] wv20 xQueueD38O (Int.toNat (Int.tmod stByte ((xGoodQu3L : Nat) : Int)) * 4 + 3) [.int .i64 sum44] ∧
    Ix xQueueD43O xQueueD43L (Int.tmod stByte ((xGoodQu3L : Nat) : Int)) ∧
    (∃ (sum45 : Int),
    CellsX [b, b1, b17] wv20 xQueueD43O (Int.toNat (Int.tmod stByte ((xGoodQu3L : Nat) : Int)) * 4 + 3) [.int .i64 sum45] ∧
    InR .i64 (sum44 - sum45) ∧
    InR .i64 ((sum44 - sum45) * x216) ∧
    Ix xQueueD38O xQueueD38L (Int.tmod stByte1 ((xGoodQu3L : Nat) : Int)) ∧
    (∃ (sum46 : Int),
    CellsX [b, b1, b17] wv20 xQueueD38O (Int.toNat (Int.tmod stByte1 ((xGoodQu3L : Nat) : Int)) * 4 + 3) [.int .i64 sum46] ∧
    Ix xQueueD43O xQueueD43L (Int.tmod stByte1 ((xGoodQu3L : Nat) : Int)) ∧
    (∃ (sum47 : Int),
    CellsX [b, b1, b17] wv20 xQueueD43O (Int.toNat (Int.tmod stByte1 ((xGoodQu3L : Nat) : Int)) * 4 + 3) [.int .i64 sum47] ∧
    InR .i64 (sum46 - sum47) ∧
    InR .i64 ((sum46 - sum47) * x215) ∧
    InR .i64 (((sum44 - sum45) * x216) - ((sum46 - sum47) * x215)) ∧
    (∃ (xQueueA22 : Int),
    PureX [b, b1, b17] Try.prog fn_impl_QueueApart #[.int .i64 x215, .int .i64 x216] wv20 (.int .i64 xQueueA22) ∧
    ((decide (((sum44 - sum45) * x216) - ((sum46 - sum47) * x215) > xQueueA22)) = false → InR .i64 (0 - (((sum44 - sum45) * x216) - ((sum46 - sum47) * x215)))) ∧
    (∃ (xQueueA23 : Int),
    ((decide (((sum44 - sum45) * x216) - ((sum46 - sum47) * x215) > xQueueA22)) = false → PureX [b, b1, b17] Try.prog fn_impl_QueueApart #[.int .i64 x215, .int .i64 x216] wv20 (.int .i64 xQueueA23)) ∧
    (((decide (((sum44 - sum45) * x216) - ((sum46 - sum47) * x215) > xQueueA22)) || (decide (0 - (((sum44 - sum45) * x216) - ((sum46 - sum47) * x215)) > xQueueA23))) = true →
    (∀ wr50, ExtX [b, b1, b17] wv20 wr50 → R (.bool false) wr50)) ∧
    (((decide (((sum44 - sum45) * x216) - ((sum46 - sum47) * x215) > xQueueA22)) || (decide (0 - (((sum44 - sum45) * x216) - ((sum46 - sum47) * x215)) > xQueueA23))) = false →
    InR .i64 (i2 + 1) ∧
    (∀ wr51, ExtX [b, b1, b17] wv20 wr51 → (∀ bq ∈ ([b, b1, b17, b18, b19, b20] : List Nat), bq < wr51.heap.size) → xInv2 [.int .i64 i2, .int .i64 (i2 + 1), .int .i64 xQueueD40, .int .i64 xQueueD41, .int .i64 xQueueD42, .slice xQueueD43O xQueueD43L xQueueD43C, .int .i64 xQueueD40, .int .i64 xQueueD41, .int .i64 xQueueD42, .slice xQueueD43O xQueueD43L xQueueD43C] wr51 ∧ mu2 [.int .i64 i2, .int .i64 (i2 + 1), .int .i64 xQueueD40, .int .i64 xQueueD41, .int .i64 xQueueD42, .slice xQueueD43O xQueueD43L xQueueD43C, .int .i64 xQueueD40, .int .i64 xQueueD41, .int .i64 xQueueD42, .slice xQueueD43O xQueueD43L xQueueD43C] wr51 < mu2 [.int .i64 fromv2, .int .i64 i2, .int .i64 l4, .int .i64 l5, .int .i64 l6, .slice l7O l7L l7C, .int .i64 l8, .int .i64 l9, .int .i64 l10, .slice l11O l11L l11C] wv11))))))))) ∧
    ((decide (i2 ≥ 0)) = false →
    InR .i64 (i2 + 1) ∧
    (∀ wr52, ExtX [b, b1, b17] wv20 wr52 → (∀ bq ∈ ([b, b1, b17, b18, b19, b20] : List Nat), bq < wr52.heap.size) → xInv2 [.int .i64 i2, .int .i64 (i2 + 1), .int .i64 xQueueD40, .int .i64 xQueueD41, .int .i64 xQueueD42, .slice xQueueD43O xQueueD43L xQueueD43C, .int .i64 xQueueD40, .int .i64 xQueueD41, .int .i64 xQueueD42, .slice xQueueD43O xQueueD43L xQueueD43C] wr52 ∧ mu2 [.int .i64 i2, .int .i64 (i2 + 1), .int .i64 xQueueD40, .int .i64 xQueueD41, .int .i64 xQueueD42, .slice xQueueD43O xQueueD43L xQueueD43C, .int .i64 xQueueD40, .int .i64 xQueueD41, .int .i64 xQueueD42, .slice xQueueD43O xQueueD43L xQueueD43C] wr52 < mu2 [.int .i64 fromv2, .int .i64 i2, .int .i64 l4, .int .i64 l5, .int .i64 l6, .slice l7O l7L l7C, .int .i64 l8, .int .i64 l9, .int .i64 l10, .slice l11O l11L l11C] wv11))) ∧
    ((((decide (fromv2 < 0)) && x015) && x016) = false →
    ((decide (fromv2 ≥ 0)) = true →
    Ix xQueueD38O xQueueD38L (Int.tmod stByte ((xGoodQu3L : Nat) : Int)) ∧
    (∃ (sum48 : Int),
    CellsX [b, b1, b17] wv20 xQueueD38O (Int.toNat (Int.tmod stByte ((xGoodQu3L : Nat) : Int)) * 4 + 3) [.int .i64 sum48] ∧
    Ix l11O l11L (Int.tmod stByte ((xGoodQu3L : Nat) : Int)) ∧
    (∃ (sum49 : Int),
    CellsX [b, b1, b17] wv20 l11O (Int.toNat (Int.tmod stByte ((xGoodQu3L : Nat) : Int)) * 4 + 3) [.int .i64 sum49] ∧
    InR .i64 (sum48 - sum49) ∧
    InR .i64 ((sum48 - sum49) * x216) ∧
    Ix xQueueD38O xQueueD38L (Int.tmod stByte1 ((xGoodQu3L : Nat) : Int)) ∧
    (∃ (sum50 : Int),
    CellsX [b, b1, b17] wv20 xQueueD38O (Int.toNat (Int.tmod stByte1 ((xGoodQu3L : Nat) : Int)) * 4 + 3) [.int .i64 sum50] ∧
    Ix l11O l11L (Int.tmod stByte1 ((xGoodQu3L : Nat) : Int)) ∧
    (∃ (sum51 : Int),
    CellsX [b, b1, b17] wv20 l11O (Int.toNat (Int.tmod stByte1 ((xGoodQu3L : Nat) : Int)) * 4 + 3) [.int .i64 sum51] ∧
    InR .i64 (sum50 - sum51) ∧
    InR .i64 ((sum50 - sum51) * x215) ∧
    InR .i64 (((sum48 - sum49) * x216) - ((sum50 - sum51) * x215)) ∧
    (∃ (xQueueA24 : Int),
    PureX [b, b1, b17] Try.prog fn_impl_QueueApart #[.int .i64 x215, .int .i64 x216] wv20 (.int .i64 xQueueA24) ∧
    ((decide (((sum48 - sum49) * x216) - ((sum50 - sum51) * x215) > xQueueA24)) = false → InR .i64 (0 - (((sum48 - sum49) * x216) - ((sum50 - sum51) * x215)))) ∧
    (∃ (xQueueA25 : Int),
    ((decide (((sum48 - sum49) * x216) - ((sum50 - sum51) * x215) > xQueueA24)) = false → PureX [b, b1, b17] Try.prog fn_impl_QueueApart #[.int .i64 x215, .int .i64 x216] wv20 (.int .i64 xQueueA25)) ∧
    (((decide (((sum48 - sum49) * x216) - ((sum50 - sum51) * x215) > xQueueA24)) || (decide (0 - (((sum48 - sum49) * x216) - ((sum50 - sum51) * x215)) > xQueueA25))) = true →
    (∀ wr53, ExtX [b, b1, b17] wv20 wr53 → R (.bool false) wr53)) ∧
    (((decide (((sum48 - sum49) * x216) - ((sum50 - sum51) * x215) > xQueueA24)) || (decide (0 - (((sum48 - sum49) * x216) - ((sum50 - sum51) * x215)) > xQueueA25))) = false →
    InR .i64 (i2 + 1) ∧
    (∀ wr54, ExtX [b, b1, b17] wv20 wr54 → (∀ bq ∈ ([b, b1, b17, b18, b19, b20] : List Nat), bq < wr54.heap.size) → xInv2 [.int .i64 fromv2, .int .i64 (i2 + 1), .int .i64 xQueueD40, .int .i64 xQueueD41, .int .i64 xQueueD42, .slice xQueueD43O xQueueD43L xQueueD43C, .int .i64 l8, .int .i64 l9, .int .i64 l10, .slice l11O l11L l11C] wr54 ∧ mu2 [.int .i64 fromv2, .int .i64 (i2 + 1), .int .i64 xQueueD40, .int .i64 xQueueD41, .int .i64 xQueueD42, .slice xQueueD43O xQueueD43L xQueueD43C, .int .i64 l8, .int .i64 l9, .int .i64 l10, .slice l11O l11L l11C] wr54 < mu2 [.int .i64 fromv2, .int .i64 i2, .int .i64 l4, .int .i64 l5, .int .i64 l6, .slice l7O l7L l7C, .int .i64 l8, .int .i64 l9, .int .i64 l10, .slice l11O l11L l11C] wv11))))))))) ∧
    ((decide (fromv2 ≥ 0)) = false →
    InR .i64 (i2 + 1) ∧
    (∀ wr55, ExtX [b, b1, b17] wv20 wr55 → (∀ bq ∈ ([b, b1, b17, b18, b19, b20] : List Nat), bq < wr55.heap.size) → xInv2 [.int .i64 fromv2, .int .i64 (i2 + 1), .int .i64 xQueueD40, .int .i64 xQueueD41, .int .i64 xQueueD42, .slice xQueueD43O xQueueD43L xQueueD43C, .int .i64 l8, .int .i64 l9, .int .i64 l10, .slice l11O l11L l11C] wr55 ∧ mu2 [.int .i64 fromv2, .int .i64 (i2 + 1), .int .i64 xQueueD40, .int .i64 xQueueD41, .int .i64 xQueueD42, .slice xQueueD43O xQueueD43L xQueueD43C, .int .i64 l8, .int .i64 l9, .int .i64 l10, .slice l11O l11L l11C] wr55 < mu2 [.int .i64 fromv2, .int .i64 i2, .int .i64 l4, .int .i64 l5, .int .i64 l6, .slice l7O l7L l7C, .int .i64 l8, .int .i64 l9, .int .i64 l10, .slice l11O l11L l11C] wv11))))))))))))))))) ∧
    ((∀ b21, wv19.heap.size ≤ b21 →
    CellsX [b, b1, b17] wv19 xGoodQu4O (Int.toNat i2 * 3) [.int .i64 x014, .int .i64 x114, .int .i64 x214] ∧
    (some (ty_impl_Queue, ([.int .i64 l4, .int .i64 l5, .int .i64 l6, .slice l7O l7L l7C] : List Value)) = some (ty_impl_Queue, ([.int .i64 l4, .int .i64 l5, .int .i64 l6, .slice l7O l7L l7C] : List Value))) ∧
    (∀ wr56, ExtX [b, b1, b17] wv19 wr56 → (∀ bq ∈ ([b, b1, b17, b21] : List Nat), bq < wr56.heap.size) → 
    Calls Try.prog fn_spec_QueueDo #[.agg #[.int .i64 l4, .int .i64 l5, .int .i64 l6, .slice l7O l7L l7C], .agg #[.int .i64 x014, .int .i64 x114, .int .i64 x214]] wr56 fun e10 wv23 =>
    (∃ (xQueueD45 : Int) (xQueueD46 : Int) (xQueueD47 : Int) (xQueueD48O : Option Addr) (xQueueD48L : Nat) (xQueueD48C : Nat) (xQueueD49 : Bool),
    e10 = .returned (.tuple #[.agg #[.int .i64 xQueueD45, .int .i64 xQueueD46, .int .i64 xQueueD47, .slice xQueueD48O xQueueD48L xQueueD48C], .bool xQueueD49]) ∧ Kept [b, b1, b17, b21] wr56 wv23 ∧
    (∃ (xQueueO5 : Bool),
    ((!(xQueueD39 == xQueueD49)) = false → PureX [b, b1, b17, b21] Try.prog fn_impl_QueueOk #[.agg #[.int .i64 xQueueD35, .int .i64 xQueueD36, .int .i64 xQueueD37, .slice xQueueD38O xQueueD38L xQueueD38C]] wv23 (.bool xQueueO5)) ∧
    (∃ (stQueu5 : Bool),
    (((!(xQueueD39 == xQueueD49)) || (!xQueueO5)) = false → PureX [b, b1, b17, b21] Try.prog fn_laws_stQueue #[.agg #[.int .i64 xQueueD35, .int .i64 xQueueD36, .int .i64 xQueueD37, .slice xQueueD38O xQueueD38L xQueueD38C], .agg #[.int .i64 xQueueD45, .int .i64 xQueueD46, .int .i64 xQueueD47, .slice xQueueD48O xQueueD48L xQueueD48C]] wv23 (.bool stQueu5)) ∧
    ((((!(xQueueD39 == xQueueD49)) || (!xQueueO5)) || (!stQueu5)) = true →
    (∀ wr57, ExtX [b, b1, b17, b21] wv23 wr57 → R (.bool false) wr57)) ∧
    ((((!(xQueueD39 == xQueueD49)) || (!xQueueO5)) || (!stQueu5)) = false →
    Ix xQueueD48O xQueueD48L (Int.tmod stByte ((xGoodQu3L : Nat) : Int)) ∧
    (∃ (x017 : Bool) (x117 : Int) (x217 : Int) (x310 : Int),
    CellsX [b, b1, b17, b21] wv23 xQueueD48O (Int.toNat (Int.tmod stByte ((xGoodQu3L : Nat) : Int)) * 4) [.bool x017, .int .i64 x117, .int .i64 x217, .int .i64 x310] ∧
    (∀ b22, wv23.heap.size ≤ b22 →
    Ix xQueueD48O xQueueD48L (Int.tmod stByte1 ((xGoodQu3L : Nat) : Int)) ∧
    (∃ (x018 : Bool) (x118 : Int) (x218 : Int) (x311 : Int),
    CellsX [b, b1, b17, b21] wv23 xQueueD48O (Int.toNat (Int.tmod stByte1 ((xGoodQu3L : Nat) : Int)) * 4) [.bool x018, .int .i64 x118, .int .i64 x218, .int .i64 x311] ∧
    (∀ b23, wv23.heap.size ≤ b23 →
    (((!x017) || (!x018)) = false → ((decide (fromv2 ≥ 0)) = true → Ix l11O l11L (Int.tmod stByte ((xGoodQu3L : Nat) : Int)))) ∧
    (∃ (wv24 : Int),
    (((!x017) || (!x018)) = false → ((decide (fromv2 ≥ 0)) = true → CellsX [b, b1, b17, b21] wv23 l11O (Int.toNat (Int.tmod stByte ((xGoodQu3L : Nat) : Int)) * 4 + 2) [.int .i64 wv24])) ∧
    ((((!x017) || (!x018)) || (x217 != wv24)) = false → ((decide (fromv2 ≥ 0)) = true → Ix l11O l11L (Int.tmod stByte1 ((xGoodQu3L : Nat) : Int)))) ∧
    (∃ (wv25 : Int),
    ((((!x017) || (!x018)) || (x217 != wv24)) = false → ((decide (fromv2 ≥ 0)) = true → CellsX [b, b1, b17, b21] wv23 l11O (Int.toNat (Int.tmod stByte1 ((xGoodQu3L : Nat) : Int)) * 4 + 2) [.int .i64 wv25])) ∧
    (((decide (fromv2 ≥ 0)) && ((((!x017) || (!x018)) || (x217 != wv24)) || (x218 != wv25))) = true →
    ((((decide ((-1 : Int) < 0)) && x017) && x018) = true →
    ((decide (i2 ≥ 0)) = true →
    Ix xQueueD38O xQueueD38L (Int.tmod stByte ((xGoodQu3L : Nat) : Int)) ∧
    (∃ (sum52 : Int),
    CellsX [b, b1, b17, b21] wv23 xQueueD38O (Int.toNat (Int.tmod stByte ((xGoodQu3L : Nat) : Int)) * 4 + 3) [.int .i64 sum52] ∧
    Ix xQueueD48O xQueueD48L (Int.tmod stByte ((xGoodQu3L : Nat) : Int)) ∧
    (∃ (sum53 : Int),
    CellsX [b, b1, b17, b21] wv23 xQueueD48O (Int.toNat (Int.tmod stByte ((xGoodQu3L : Nat) : Int)) * 4 + 3) [.int .i64 sum53] ∧
    InR .i64 (sum52 - sum53) ∧
    InR .i64 ((sum52 - sum53) * x218) ∧
    Ix xQueueD38O xQueueD38L (Int.tmod stByte1 ((xGoodQu3L : Nat) : Int)) ∧
    (∃ (sum54 : Int),
    CellsX [b, b1, b17, b21] wv23 xQueueD38O (Int.toNat (Int.tmod stByte1 ((xGoodQu3L : Nat) : Int)) * 4 + 3) [.int .i64 sum54] ∧
    Ix xQueueD48O xQueueD48L (Int.tmod stByte1 ((xGoodQu3L : Nat) : Int)) ∧
    (∃ (sum55 : Int),
    CellsX [b, b1, b17, b21] wv23 xQueueD48O (Int.toNat (Int.tmod stByte1 ((xGoodQu3L : Nat) : Int)) * 4 + 3) [.int .i64 sum55] ∧
    InR .i64 (sum54 - sum55) ∧
    InR .i64 ((sum54 - sum55) * x217) ∧
    InR .i64 (((sum52 - sum53) * x218) - ((sum54 - sum55) * x217)) ∧
    (∃ (xQueueA26 : Int),
    PureX [b, b1, b17, b21] Try.prog fn_impl_QueueApart #[.int .i64 x217, .int .i64 x218] wv23 (.int .i64 xQueueA26) ∧
    ((decide (((sum52 - sum53) * x218) - ((sum54 - sum55) * x217) > xQueueA26)) = false → InR .i64 (0 - (((sum52 - sum53) * x218) - ((sum54 - sum55) * x217)))) ∧
    (∃ (xQueueA27 : Int),
    ((decide (((sum52 - sum53) * x218) - ((sum54 - sum55) * x217) > xQueueA26)) = false → PureX [b, b1, b17, b21] Try.prog fn_impl_QueueApart #[.int .i64 x217, .int .i64 x218] wv23 (.int .i64 xQueueA27)) ∧
    (((decide (((sum52 - sum53) * x218) - ((sum54 - sum55) * x217) > xQueueA26)) || (decide (0 - (((sum52 - sum53) * x218) - ((sum54 - sum55) * x217)) > xQueueA27))) = true →
    (∀ wr58, ExtX [b, b1, b17, b21] wv23 wr58 → R (.bool false) wr58)) ∧
    (((decide (((sum52 - sum53) * x218) - ((sum54 - sum55) * x217) > xQueueA26)) || (decide (0 - (((sum52 - sum53) * x218) - ((sum54 - sum55) * x217)) > xQueueA27))) = false →
    InR .i64 (i2 + 1) ∧
    (∀ wr59, ExtX [b, b1, b17, b21] wv23 wr59 → (∀ bq ∈ ([b, b1, b17, b21, b22, b23] : List Nat), bq < wr59.heap.size) → xInv2 [.int .i64 i2, .int .i64 (i2 + 1), .int .i64 xQueueD45, .int .i64 xQueueD46, .int .i64 xQueueD47, .slice xQueueD48O xQueueD48L xQueueD48C, .int .i64 xQueueD45, .int .i64 xQueueD46, .int .i64 xQueueD47, .slice xQueueD48O xQueueD48L xQueueD48C] wr59 ∧ mu2 [.int .i64 i2, .int .i64 (i2 + 1), .int .i64 xQueueD45, .int .i64 xQueueD46, .int .i64 xQueueD47, .slice xQueueD48O xQueueD48L xQueueD48C, .int .i64 xQueueD45, .int .i64 xQueueD46, .int .i64 xQueueD47, .slice xQueueD48O xQueueD48L xQueueD48C] wr59 < mu2 [.int .i64 fromv2, .int .i64 i2, .int .i64 l4, .int .i64 l5, .int .i64 l6, .slice l7O l7L l7C, .int .i64 l8, .int .i64 l9, .int .i64 l10, .slice l11O l11L l11C] wv11))))))))) ∧
    ((decide (i2 ≥ 0)) = false →
    InR .i64 (i2 + 1) ∧
    (∀ wr60, ExtX [b, b1, b17, b21] wv23 wr60 → (∀ bq ∈ ([b, b1, b17, b21, b22, b23] : List Nat), bq < wr60.heap.size) → xInv2 [.int .i64 i2, .int .i64 (i2 + 1), .int .i64 xQueueD45, .int .i64 xQueueD46, .int .i64 xQueueD47, .slice xQueueD48O xQueueD48L xQueueD48C, .int .i64 xQueueD45, .int .i64 xQueueD46, .int .i64 xQueueD47, .slice xQueueD48O xQueueD48L xQueueD48C] wr60 ∧ mu2 [.int .i64 i2, .int .i64 (i2 + 1), .int .i64 xQueueD45, .int .i64 xQueueD46, .int .i64 xQueueD47, .slice xQueueD48O xQueueD48L xQueueD48C, .int .i64 xQueueD45, .int .i64 xQueueD46, .int .i64 xQueueD47, .slice xQueueD48O xQueueD48L xQueueD48C] wr60 < mu2 [.int .i64 fromv2, .int .i64 i2, .int .i64 l4, .int .i64 l5, .int .i64 l6, .slice l7O l7L l7C, .int .i64 l8, .int .i64 l9, .int .i64 l10, .slice l11O l11L l11C] wv11))) ∧
    ((((decide ((-1 : Int) < 0)) && x017) && x018) = false →
    ((decide ((-1 : Int) ≥ 0)) = true →
    Ix xQueueD38O xQueueD38L (Int.tmod stByte ((xGoodQu3L : Nat) : Int)) ∧
    (∃ (sum56 : Int),
    CellsX [b, b1, b17, b21] wv23 xQueueD38O (Int.toNat (Int.tmod stByte ((xGoodQu3L : Nat) : Int)) * 4 + 3) [.int .i64 sum56] ∧
    Ix l11O l11L (Int.tmod stByte ((xGoodQu3L : Nat) : Int)) ∧
    (∃ (sum57 : Int),
    CellsX [b, b1, b17, b21] wv23 l11O (Int.toNat (Int.tmod stByte ((xGoodQu3L : Nat) : Int)) * 4 + 3) [.int .i64 sum57] ∧
    InR .i64 (sum56 - sum57) ∧
    InR .i64 ((sum56 - sum57) * x218) ∧
    Ix xQueueD38O xQueueD38L (Int.tmod stByte1 ((xGoodQu3L : Nat) : Int)) ∧
    (∃ (sum58 : Int),
    CellsX [b, b1, b17, b21] wv23 xQueueD38O (Int.toNat (Int.tmod stByte1 ((xGoodQu3L : Nat) : Int)) * 4 + 3) [.int .i64 sum58] ∧
    Ix l11O l11L (Int.tmod stByte1 ((xGoodQu3L : Nat) : Int)) ∧
    (∃ (sum59 : Int),
    CellsX [b, b1, b17, b21] wv23 l11O (Int.toNat (Int.tmod stByte1 ((xGoodQu3L : Nat) : Int)) * 4 + 3) [.int .i64 sum59] ∧
    InR .i64 (sum58 - sum59) ∧
    InR .i64 ((sum58 - sum59) * x217) ∧
    InR .i64 (((sum56 - sum57) * x218) - ((sum58 - sum59) * x217)) ∧
    (∃ (xQueueA28 : Int),
    PureX [b, b1, b17, b21] Try.prog fn_impl_QueueApart #[.int .i64 x217, .int .i64 x218] wv23 (.int .i64 xQueueA28) ∧
    ((decide (((sum56 - sum57) * x218) - ((sum58 - sum59) * x217) > xQueueA28)) = false → InR .i64 (0 - (((sum56 - sum57) * x218) - ((sum58 - sum59) * x217)))) ∧
    (∃ (xQueueA29 : Int),
    ((decide (((sum56 - sum57) * x218) - ((sum58 - sum59) * x217) > xQueueA28)) = false → PureX [b, b1, b17, b21] Try.prog fn_impl_QueueApart #[.int .i64 x217, .int .i64 x218] wv23 (.int .i64 xQueueA29)) ∧
    (((decide (((sum56 - sum57) * x218) - ((sum58 - sum59) * x217) > xQueueA28)) || (decide (0 - (((sum56 - sum57) * x218) - ((sum58 - sum59) * x217)) > xQueueA29))) = true →
    (∀ wr61, ExtX [b, b1, b17, b21] wv23 wr61 → R (.bool false) wr61)) ∧
    (((decide (((sum56 - sum57) * x218) - ((sum58 - sum59) * x217) > xQueueA28)) || (decide (0 - (((sum56 - sum57) * x218) - ((sum58 - sum59) * x217)) > xQueueA29))) = false →
    InR .i64 (i2 + 1) ∧
    (∀ wr62, ExtX [b, b1, b17, b21] wv23 wr62 → (∀ bq ∈ ([b, b1, b17, b21, b22, b23] : List Nat), bq < wr62.heap.size) → xInv2 [.int .i64 (-1), .int .i64 (i2 + 1), .int .i64 xQueueD45, .int .i64 xQueueD46, .int .i64 xQueueD47, .slice xQueueD48O xQueueD48L xQueueD48C, .int .i64 l8, .int .i64 l9, .int .i64 l10, .slice l11O l11L l11C] wr62 ∧ mu2 [.int .i64 (-1), .int .i64 (i2 + 1), .int .i64 xQueueD45, .int .i64 xQueueD46, .int .i64 xQueueD47, .slice xQueueD48O xQueueD48L xQueueD48C, .int .i64 l8, .int .i64 l9, .int .i64 l10, .slice l11O l11L l11C] wr62 < mu2 [.int .i64 fromv2, .int .i64 i2, .int .i64 l4, .int .i64 l5, .int .i64 l6, .slice l7O l7L l7C, .int .i64 l8, .int .i64 l9, .int .i64 l10, .slice l11O l11L l11C] wv11))))))))) ∧
    ((decide ((-1 : Int) ≥ 0)) = false →
    InR .i64 (i2 + 1) ∧
    (∀ wr63, ExtX [b, b1, b17, b21] wv23 wr63 → (∀ bq ∈ ([b, b1, b17, b21, b22, b23] : List Nat), bq < wr63.heap.size) → xInv2 [.int .i64 (-1), .int .i64 (i2 + 1), .int .i64 xQueueD45, .int .i64 xQueueD46, .int .i64 xQueueD47, .slice xQueueD48O xQueueD48L xQueueD48C, .int .i64 l8, .int .i64 l9, .int .i64 l10, .slice l11O l11L l11C] wr63 ∧ mu2 [.int .i64 (-1), .int .i64 (i2 + 1), .int .i64 xQueueD45, .int .i64 xQueueD46, .int .i64 xQueueD47, .slice xQueueD48O xQueueD48L xQueueD48C, .int .i64 l8, .int .i64 l9, .int .i64 l10, .slice l11O l11L l11C] wr63 < mu2 [.int .i64 fromv2, .int .i64 i2, .int .i64 l4, .int .i64 l5, .int .i64 l6, .slice l7O l7L l7C, .int .i64 l8, .int .i64 l9, .int .i64 l10, .slice l11O l11L l11C] wv11)))) ∧
    (((decide (fromv2 ≥ 0)) && ((((!x017) || (!x018)) || (x217 != wv24)) || (x218 != wv25))) = false →
    ((((decide (fromv2 < 0)) && x017) && x018) = true →
    ((decide (i2 ≥ 0)) = true →
    Ix xQueueD38O xQueueD38L (Int.tmod stByte ((xGoodQu3L : Nat) : Int)) ∧
    (∃ (sum60 : Int),
    CellsX [b, b1, b17, b21] wv23 xQueueD38O (Int.toNat (Int.tmod stByte ((xGoodQu3L : Nat) : Int)) * 4 + 3) [.int .i64 sum60] ∧
    Ix xQueueD48O xQueueD48L (Int.tmod stByte ((xGoodQu3L : Nat) : Int)) ∧
    (∃ (sum61 : Int),
    CellsX [b, b1, b17, b21] wv23 xQueueD48O (Int.toNat (Int.tmod stByte ((xGoodQu3L : Nat) : Int)) * 4 + 3) [.int .i64 sum61] ∧
    InR .i64 (sum60 - sum61) ∧
    InR .i64 ((sum60 - sum61) * x218) ∧
    Ix xQueueD38O xQueueD38L (Int.tmod stByte1 ((xGoodQu3L : Nat) : Int)) ∧
    (∃ (sum62 : Int),
    CellsX [b, b1, b17, b21] wv23 xQueueD38O (Int.toNat (Int.tmod stByte1 ((xGoodQu3L : Nat) : Int)) * 4 + 3) [.int .i64 sum62] ∧
    Ix xQueueD48O xQueueD48L (Int.tmod stByte1 ((xGoodQu3L : Nat) : Int)) ∧
    (∃ (sum63 : Int),
    CellsX [b, b1, b17, b21] wv23 xQueueD48O (Int.toNat (Int.tmod stByte1 ((xGoodQu3L : Nat) : Int)) * 4 + 3) [.int .i64 sum63] ∧
    InR .i64 (sum62 - sum63) ∧
    InR .i64 ((sum62 - sum63) * x217) ∧
    InR .i64 (((sum60 - sum61) * x218) - ((sum62 - sum63) * x217)) ∧
    (∃ (xQueueA30 : Int),
    PureX [b, b1, b17, b21] Try.prog fn_impl_QueueApart #[.int .i64 x217, .int .i64 x218] wv23 (.int .i64 xQueueA30) ∧
    ((decide (((sum60 - sum61) * x218) - ((sum62 - sum63) * x217) > xQueueA30)) = false → InR .i64 (0 - (((sum60 - sum61) * x218) - ((sum62 - sum63) * x217)))) ∧
    (∃ (xQueueA31 : Int),
    ((decide (((sum60 - sum61) * x218) - ((sum62 - sum63) * x217) > xQueueA30)) = false → PureX [b, b1, b17, b21] Try.prog fn_impl_QueueApart #[.int .i64 x217, .int .i64 x218] wv23 (.int .i64 xQueueA31)) ∧
    (((decide (((sum60 - sum61) * x218) - ((sum62 - sum63) * x217) > xQueueA30)) || (decide (0 - (((sum60 - sum61) * x218) - ((sum62 - sum63) * x217)) > xQueueA31))) = true →
    (∀ wr64, ExtX [b, b1, b17, b21] wv23 wr64 → R (.bool false) wr64)) ∧
    (((decide (((sum60 - sum61) * x218) - ((sum62 - sum63) * x217) > xQueueA30)) || (decide (0 - (((sum60 - sum61) * x218) - ((sum62 - sum63) * x217)) > xQueueA31))) = false →
    InR .i64 (i2 + 1) ∧
    (∀ wr65, ExtX [b, b1, b17, b21] wv23 wr65 → (∀ bq ∈ ([b, b1, b17, b21, b22, b23] : List Nat), bq < wr65.heap.size) → xInv2 [.int .i64 i2, .int .i64 (i2 + 1), .int .i64 xQueueD45, .int .i64 xQueueD46, .int .i64 xQueueD47, .slice xQueueD48O xQueueD48L xQueueD48C, .int .i64 xQueueD45, .int .i64 xQueueD46, .int .i64 xQueueD47, .slice xQueueD48O xQueueD48L xQueueD48C] wr65 ∧ mu2 [.int .i64 i2, .int .i64 (i2 + 1), .int .i64 xQueueD45, .int .i64 xQueueD46, .int .i64 xQueueD47, .slice xQueueD48O xQueueD48L xQueueD48C, .int .i64 xQueueD45, .int .i64 xQueueD46, .int .i64 xQueueD47, .slice xQueueD48O xQueueD48L xQueueD48C] wr65 < mu2 [.int .i64 fromv2, .int .i64 i2, .int .i64 l4, .int .i64 l5, .int .i64 l6, .slice l7O l7L l7C, .int .i64 l8, .int .i64 l9, .int .i64 l10, .slice l11O l11L l11C] wv11))))))))) ∧
    ((decide (i2 ≥ 0)) = false →
    InR .i64 (i2 + 1) ∧
    (∀ wr66, ExtX [b, b1, b17, b21] wv23 wr66 → (∀ bq ∈ ([b, b1, b17, b21, b22, b23] : List Nat), bq < wr66.heap.size) → xInv2 [.int .i64 i2, .int .i64 (i2 + 1), .int .i64 xQueueD45, .int .i64 xQueueD46, .int .i64 xQueueD47, .slice xQueueD48O xQueueD48L xQueueD48C, .int .i64 xQueueD45, .int .i64 xQueueD46, .int .i64 xQueueD47, .slice xQueueD48O xQueueD48L xQueueD48C] wr66 ∧ mu2 [.int .i64 i2, .int .i64 (i2 + 1), .int .i64 xQueueD45, .int .i64 xQueueD46, .int .i64 xQueueD47, .slice xQueueD48O xQueueD48L xQueueD48C, .int .i64 xQueueD45, .int .i64 xQueueD46, .int .i64 xQueueD47, .slice xQueueD48O xQueueD48L xQueueD48C] wr66 < mu2 [.int .i64 fromv2, .int .i64 i2, .int .i64 l4, .int .i64 l5, .int .i64 l6, .slice l7O l7L l7C, .int .i64 l8, .int .i64 l9, .int .i64 l10, .slice l11O l11L l11C] wv11))) ∧
    ((((decide (fromv2 < 0)) && x017) && x018) = false →
    ((decide (fromv2 ≥ 0)) = true →
    Ix xQueueD38O xQueueD38L (Int.tmod stByte ((xGoodQu3L : Nat) : Int)) ∧
    (∃ (sum64 : Int),
    CellsX [b, b1, b17, b21] wv23 xQueueD38O (Int.toNat (Int.tmod stByte ((xGoodQu3L : Nat) : Int)) * 4 + 3) [.int .i64 sum64] ∧
    Ix l11O l11L (Int.tmod stByte ((xGoodQu3L : Nat) : Int)) ∧
    (∃ (sum65 : Int),
    CellsX [b, b1, b17, b21] wv23 l11O (Int.toNat (Int.tmod stByte ((xGoodQu3L : Nat) : Int)) * 4 + 3) [.int .i64 sum65] ∧
    InR .i64 (sum64 - sum65) ∧
    InR .i64 ((sum64 - sum65) * x218) ∧
    Ix xQueueD38O xQueueD38L (Int.tmod stByte1 ((xGoodQu3L : Nat) : Int)) ∧
    (∃ (sum66 : Int),
    CellsX [b, b1, b17, b21] wv23 xQueueD38O (Int.toNat (Int.tmod stByte1 ((xGoodQu3L : Nat) : Int)) * 4 + 3) [.int .i64 sum66] ∧
    Ix l11O l11L (Int.tmod stByte1 ((xGoodQu3L : Nat) : Int)) ∧
    (∃ (sum67 : Int),
    CellsX [b, b1, b17, b21] wv23 l11O (Int.toNat (Int.tmod stByte1 ((xGoodQu3L : Nat) : Int)) * 4 + 3) [.int .i64 sum67] ∧
    InR .i64 (sum66 - sum67) ∧
    InR .i64 ((sum66 - sum67) * x217) ∧
    InR .i64 (((sum64 - sum65) * x218) - ((sum66 - sum67) * x217)) ∧
    (∃ (xQueueA32 : Int),
    PureX [b, b1, b17, b21] Try.prog fn_impl_QueueApart #[.int .i64 x217, .int .i64 x218] wv23 (.int .i64 xQueueA32) ∧
    ((decide (((sum64 - sum65) * x218) - ((sum66 - sum67) * x217) > xQueueA32)) = false → InR .i64 (0 - (((sum64 - sum65) * x218) - ((sum66 - sum67) * x217)))) ∧
    (∃ (xQueueA33 : Int),
    ((decide (((sum64 - sum65) * x218) - ((sum66 - sum67) * x217) > xQueueA32)) = false → PureX [b, b1, b17, b21] Try.prog fn_impl_QueueApart #[.int .i64 x217, .int .i64 x218] wv23 (.int .i64 xQueueA33)) ∧
    (((decide (((sum64 - sum65) * x218) - ((sum66 - sum67) * x217) > xQueueA32)) || (decide (0 - (((sum64 - sum65) * x218) - ((sum66 - sum67) * x217)) > xQueueA33))) = true →
    (∀ wr67, ExtX [b, b1, b17, b21] wv23 wr67 → R (.bool false) wr67)) ∧
    (((decide (((sum64 - sum65) * x218) - ((sum66 - sum67) * x217) > xQueueA32)) || (decide (0 - (((sum64 - sum65) * x218) - ((sum66 - sum67) * x217)) > xQueueA33))) = false →
    InR .i64 (i2 + 1) ∧
    (∀ wr68, ExtX [b, b1, b17, b21] wv23 wr68 → (∀ bq ∈ ([b, b1, b17, b21, b22, b23] : List Nat), bq < wr68.heap.size) → xInv2 [.int .i64 fromv2, .int .i64 (i2 + 1), .int .i64 xQueueD45, .int .i64 xQueueD46, .int .i64 xQueueD47, .slice xQueueD48O xQueueD48L xQueueD48C, .int .i64 l8, .int .i64 l9, .int .i64 l10, .slice l11O l11L l11C] wr68 ∧ mu2 [.int .i64 fromv2, .int .i64 (i2 + 1), .int .i64 xQueueD45, .int .i64 xQueueD46, .int .i64 xQueueD47, .slice xQueueD48O xQueueD48L xQueueD48C, .int .i64 l8, .int .i64 l9, .int .i64 l10, .slice l11O l11L l11C] wr68 < mu2 [.int .i64 fromv2, .int .i64 i2, .int .i64 l4, .int .i64 l5, .int .i64 l6, .slice l7O l7L l7C, .int .i64 l8, .int .i64 l9, .int .i64 l10, .slice l11O l11L l11C] wv11))))))))) ∧
    ((decide (fromv2 ≥ 0)) = false →
    InR .i64 (i2 + 1) ∧
    (∀ wr69, ExtX [b, b1, b17, b21] wv23 wr69 → (∀ bq ∈ ([b, b1, b17, b21, b22, b23] : List Nat), bq < wr69.heap.size) → xInv2 [.int .i64 fromv2, .int .i64 (i2 + 1), .int .i64 xQueueD45, .int .i64 xQueueD46, .int .i64 xQueueD47, .slice xQueueD48O xQueueD48L xQueueD48C, .int .i64 l8, .int .i64 l9, .int .i64 l10, .slice l11O l11L l11C] wr69 ∧ mu2 [.int .i64 fromv2, .int .i64 (i2 + 1), .int .i64 xQueueD45, .int .i64 xQueueD46, .int .i64 xQueueD47, .slice xQueueD48O xQueueD48L xQueueD48C, .int .i64 l8, .int .i64 l9, .int .i64 l10, .slice l11O l11L l11C] wr69 < mu2 [.int .i64 fromv2, .int .i64 i2, .int .i64 l4, .int .i64 l5, .int .i64 l6, .slice l7O l7L l7C, .int .i64 l8, .int .i64 l9, .int .i64 l10, .slice l11O l11L l11C] wv11)))))))))))))))))))))))) ∧
    ((decide (i2 < ((xGoodQu4L : Nat) : Int))) = false →
    (∀ wr70, ExtX [b, b1] wv11 wr70 → R (.bool true) wr70))))))))))
theorem v_laws_FnQueueTop (codeO : Option Addr) (codeL : Nat) (codeC : Nat) (moreO : Option Addr) (moreL : Nat) (moreC : Nat) (w : World) (R : Value → World → Prop) : evFn c_laws_FnQueueTop s_laws_FnQueueTop [.slice codeO codeL codeC, .slice moreO moreL moreC] (bodyOf Try.f4) Try.f4.results.toList w R = V_laws_FnQueueTop codeO codeL codeC moreO moreL moreC w R := by kernel_rfl
theorem e_laws_FnQueueTop (codeO : Option Addr) (codeL : Nat) (codeC : Nat) (moreO : Option Addr) (moreL : Nat) (moreC : Nat) {w : World} {R : Value → World → Prop} (hvc : V_laws_FnQueueTop codeO codeL codeC moreO moreL moreC w R) : Calls Try.prog fn_laws_FnQueueTop #[.slice codeO codeL codeC, .slice moreO moreL moreC] w fun e0 wr0 => ∃ v0, e0 = .returned v0 ∧ R v0 wr0 :=
  eff_of_ev (C := c_laws_FnQueueTop) (sps := s_laws_FnQueueTop) (body := bodyOf Try.f4) (env _ _ _) Try.func4 rfl rfl (of_decide_eq_true (by kernel_rfl)) (of_decide_eq_true (by kernel_rfl)) rfl ((v_laws_FnQueueTop codeO codeL codeC moreO moreL moreC w _).mpr hvc)
noncomputable def c_laws_szEntryS : Cfg := { P := Try.prog, T := tblGet tbl, pf := pfT, ef := efT, tt := ttT, vis := [], n := 12, pm := true }
noncomputable def s_laws_szEntryS : List (Nat × LSpec) := []
def V_laws_szEntryS (aO : Option Addr) (aL : Nat) (aC : Nat) (leftv : Int) (w : World) (R : Value → World → Prop) : Prop :=
    InR .i64 (leftv - ((aL : Nat) : Int)) ∧
    ((decide (leftv - ((aL : Nat) : Int) < 0)) = true →
    R (.int .i64 (-1)) w) ∧
    ((decide (leftv - ((aL : Nat) : Int) < 0)) = false →
    R (.int .i64 (leftv - ((aL : Nat) : Int))) w)
theorem v_laws_szEntryS (aO : Option Addr) (aL : Nat) (aC : Nat) (leftv : Int) (w : World) (R : Value → World → Prop) : evFn c_laws_szEntryS s_laws_szEntryS [.slice aO aL aC, .int .i64 leftv] (bodyOf Try.f69) Try.f69.results.toList w R = V_laws_szEntryS aO aL aC leftv w R := by kernel_rfl
theorem p_laws_szEntryS (aO : Option Addr) (aL : Nat) (aC : Nat) (leftv : Int) {w : World} {bs : List Nat} {ret : Value} (hvc : ∀ wr0, ExtX bs w wr0 → V_laws_szEntryS aO aL aC leftv wr0 fun v0 _ => v0 = ret) : PureX bs Try.prog fn_laws_szEntryS #[.slice aO aL aC, .int .i64 leftv] w ret :=
  pure_of_ev (C := c_laws_szEntryS) (sps := s_laws_szEntryS) (body := bodyOf Try.f69) (env _ _ _) Try.func69 rfl rfl (of_decide_eq_true (by kernel_rfl)) (of_decide_eq_true (by kernel_rfl)) rfl fun wr0 hx0 => (v_laws_szEntryS aO aL aC leftv wr0 _).mpr (hvc wr0 hx0)
noncomputable def c_laws_szQueue : Cfg := { P := Try.prog, T := tblGet tbl, pf := pfT, ef := efT, tt := ttT, vis := [], n := 12, pm := true }
noncomputable def s_laws_szQueue : List (Nat × LSpec) := []
def V_laws_szQueue (a0 : Int) (a1 : Int) (a2 : Int) (a3O : Option Addr) (a3L : Nat) (a3C : Nat) (leftv : Int) (w : World) (R : Value → World → Prop) : Prop :=
    (∀ b, w.heap.size ≤ b →
    (∃ (szEntr : Int),
    PureX [] Try.prog fn_laws_szEntryS #[.slice a3O a3L a3C, .int .i64 leftv] w (.int .i64 szEntr) ∧
    ((decide (szEntr < 0)) = true →
    R (.int .i64 (-1)) w) ∧
    ((decide (szEntr < 0)) = false →
    R (.int .i64 szEntr) w)))
theorem v_laws_szQueue (a0 : Int) (a1 : Int) (a2 : Int) (a3O : Option Addr) (a3L : Nat) (a3C : Nat) (leftv : Int) (w : World) (R : Value → World → Prop) : evFn c_laws_szQueue s_laws_szQueue [.agg #[.int .i64 a0, .int .i64 a1, .int .i64 a2, .slice a3O a3L a3C], .int .i64 leftv] (bodyOf Try.f21) Try.f21.results.toList w R = V_laws_szQueue a0 a1 a2 a3O a3L a3C leftv w R := by kernel_rfl
theorem p_laws_szQueue (a0 : Int) (a1 : Int) (a2 : Int) (a3O : Option Addr) (a3L : Nat) (a3C : Nat) (leftv : Int) {w : World} {bs : List Nat} {ret : Value} (hvc : ∀ wr0, ExtX bs w wr0 → V_laws_szQueue a0 a1 a2 a3O a3L a3C leftv wr0 fun v0 _ => v0 = ret) : PureX bs Try.prog fn_laws_szQueue #[.agg #[.int .i64 a0, .int .i64 a1, .int .i64 a2, .slice a3O a3L a3C], .int .i64 leftv] w ret :=
  pure_of_ev (C := c_laws_szQueue) (sps := s_laws_szQueue) (body := bodyOf Try.f21) (env _ _ _) Try.func21 rfl rfl (of_decide_eq_true (by kernel_rfl)) (of_decide_eq_true (by kernel_rfl)) rfl fun wr0 hx0 => (v_laws_szQueue a0 a1 a2 a3O a3L a3C leftv wr0 _).mpr (hvc wr0 hx0)
noncomputable def c_laws_toEntry : Cfg := { P := Try.prog, T := tblGet tbl, pf := pfT, ef := efT, tt := ttT, vis := [], n := 17, pm := true }
noncomputable def s_laws_toEntry : List (Nat × LSpec) := []
def V_laws_toEntry (a0 : Bool) (a1 : Int) (a2 : Int) (a3 : Int) (w : World) (R : Value → World → Prop) : Prop :=
    (∀ b, w.heap.size ≤ b →
    (∀ b1, w.heap.size ≤ b1 →
    (∀ b2, w.heap.size ≤ b2 →
    R (.agg #[.bool a0, .int .i64 a1, .int .i64 a2, .int .i64 a3]) w)))
theorem v_laws_toEntry (a0 : Bool) (a1 : Int) (a2 : Int) (a3 : Int) (w : World) (R : Value → World → Prop) : evFn c_laws_toEntry s_laws_toEntry [.agg #[.bool a0, .int .i64 a1, .int .i64 a2, .int .i64 a3]] (bodyOf Try.f105) Try.f105.results.toList w R = V_laws_toEntry a0 a1 a2 a3 w R := by kernel_rfl
theorem p_laws_toEntry (a0 : Bool) (a1 : Int) (a2 : Int) (a3 : Int) {w : World} {bs : List Nat} {ret : Value} (hvc : ∀ wr0, ExtX bs w wr0 → V_laws_toEntry a0 a1 a2 a3 wr0 fun v0 _ => v0 = ret) : PureX bs Try.prog fn_laws_toEntry #[.agg #[.bool a0, .int .i64 a1, .int .i64 a2, .int .i64 a3]] w ret :=
  pure_of_ev (C := c_laws_toEntry) (sps := s_laws_toEntry) (body := bodyOf Try.f105) (env _ _ _) Try.func105 rfl rfl (of_decide_eq_true (by kernel_rfl)) (of_decide_eq_true (by kernel_rfl)) rfl fun wr0 hx0 => (v_laws_toEntry a0 a1 a2 a3 wr0 _).mpr (hvc wr0 hx0)
noncomputable def c_laws_toEntryS : Cfg := { P := Try.prog, T := tblGet tbl, pf := pfT, ef := efT, tt := ttT, vis := [], n := 23, pm := false }
noncomputable def s_laws_toEntryS : List (Nat × LSpec) := [(3, { chg := [(4, .int .i64)], chgL := [], keep := [0, 3] })]
def V_laws_toEntryS (aO : Option Addr) (aL : Nat) (aC : Nat) (w : World) (R : Value → World → Prop) : Prop :=
    (∀ wr, ExtX [] w wr → (∀ bq ∈ ([] : List Nat), bq < wr.heap.size) →
    (∃ (mkO : Option Addr) (mkL : Nat) (mkC : Nat),
    ∃ wv, ((Instr.makeSlice ty_sl_impl_Entry (.int .i64 ((aL : Nat) : Int)) (.int .i64 ((aL : Nat) : Int))) : Sem Value).run Try.prog wr = .ok (.slice mkO mkL mkC) wv ∧ Kept [] wr wv ∧
    (∃ (xInv : List Value → World → Prop) (mu : List Value → World → Nat), (∀ wr1, ExtX [] wv wr1 → (∀ bq ∈ ([] : List Nat), bq < wr1.heap.size) → xInv [.int .i64 0] wr1) ∧
    ∀ (i : Int) wv1, (∀ bq ∈ ([] : List Nat), bq < wv1.heap.size) → xInv [.int .i64 i] wv1 →
    ((decide (i < ((aL : Nat) : Int))) = true →
    Ix aO aL i ∧
    (∃ (x0 : Bool) (x1 : Int) (x2 : Int) (x3 : Int),
    CellsX [] wv1 aO (Int.toNat i * 4) [.bool x0, .int .i64 x1, .int .i64 x2, .int .i64 x3] ∧
    (∃ (toEntr : Bool) (toEntr1 : Int) (toEntr2 : Int) (toEntr3 : Int),
    PureX [] Try.prog fn_laws_toEntry #[.agg #[.bool x0, .int .i64 x1, .int .i64 x2, .int .i64 x3]] wv1 (.agg #[.bool toEntr, .int .i64 toEntr1, .int .i64 toEntr2, .int .i64 toEntr3]) ∧
    Ix mkO mkL i ∧
    WrX [] wv1 mkO (Int.toNat i * 4) 4 ∧
    InR .i64 (i + 1) ∧
    (∀ wr2, ExtX [] (sto wv1 mkO (Int.toNat i * 4) [.bool toEntr, .int .i64 toEntr1, .int .i64 toEntr2, .int .i64 toEntr3]) wr2 → (∀ bq ∈ ([] : List Nat), bq < wr2.heap.size) → xInv [.int .i64 (i + 1)] wr2 ∧ mu [.int .i64 (i + 1)] wr2 < mu [.int .i64 i] wv1)))) ∧
    ((decide (i < ((aL : Nat) : Int))) = false →
    (∀ wr3, ExtX [] wv1 wr3 → R (.slice mkO mkL mkC) wr3)))))
theorem v_laws_toEntryS (aO : Option Addr) (aL : Nat) (aC : Nat) (w : World) (R : Value → World → Prop) : evFn c_laws_toEntryS s_laws_toEntryS [.slice aO aL aC] (bodyOf Try.f70) Try.f70.results.toList w R = V_laws_toEntryS aO aL aC w R := by kernel_rfl
theorem e_laws_toEntryS (aO : Option Addr) (aL : Nat) (aC : Nat) {w : World} {R : Value → World → Prop} (hvc : V_laws_toEntryS aO aL aC w R) : Calls Try.prog fn_laws_toEntryS #[.slice aO aL aC] w fun e0 wr0 => ∃ v0, e0 = .returned v0 ∧ R v0 wr0 :=
  eff_of_ev (C := c_laws_toEntryS) (sps := s_laws_toEntryS) (body := bodyOf Try.f70) (env _ _ _) Try.func70 rfl rfl (of_decide_eq_true (by kernel_rfl)) (of_decide_eq_true (by kernel_rfl)) rfl ((v_laws_toEntryS aO aL aC w _).mpr hvc)
noncomputable def c_laws_toQueue : Cfg := { P := Try.prog, T := tblGet tbl, pf := pfT, ef := efT, tt := ttT, vis := [], n := 18, pm := false }
noncomputable def s_laws_toQueue : List (Nat × LSpec) := []
def V_laws_toQueue (a0 : Int) (a1 : Int) (a2 : Int) (a3O : Option Addr) (a3L : Nat) (a3C : Nat) (w : World) (R : Value → World → Prop) : Prop :=
    (∀ b, w.heap.size ≤ b →
    (∀ b1, w.heap.size ≤ b1 →
    (∀ b2, w.heap.size ≤ b2 →
    (∀ wr, ExtX [] w wr → (∀ bq ∈ ([b, b1, b2] : List Nat), bq < wr.heap.size) → 
    Calls Try.prog fn_laws_toEntryS #[.slice a3O a3L a3C] wr fun e wv =>
    (∃ (toEntrO : Option Addr) (toEntrL : Nat) (toEntrC : Nat),
    e = .returned (.slice toEntrO toEntrL toEntrC) ∧ Kept [b, b1, b2] wr wv ∧
    (∀ wr1, ExtX [b, b1, b2] wv wr1 → R (.agg #[.int .i64 a0, .int .i64 a1, .int .i64 a2, .slice toEntrO toEntrL toEntrC]) wr1))))))
theorem v_laws_toQueue (a0 : Int) (a1 : Int) (a2 : Int) (a3O : Option Addr) (a3L : Nat) (a3C : Nat) (w : World) (R : Value → World → Prop) : evFn c_laws_toQueue s_laws_toQueue [.agg #[.int .i64 a0, .int .i64 a1, .int .i64 a2, .slice a3O a3L a3C]] (bodyOf Try.f22) Try.f22.results.toList w R = V_laws_toQueue a0 a1 a2 a3O a3L a3C w R := by kernel_rfl
theorem e_laws_toQueue (a0 : Int) (a1 : Int) (a2 : Int) (a3O : Option Addr) (a3L : Nat) (a3C : Nat) {w : World} {R : Value → World → Prop} (hvc : V_laws_toQueue a0 a1 a2 a3O a3L a3C w R) : Calls Try.prog fn_laws_toQueue #[.agg #[.int .i64 a0, .int .i64 a1, .int .i64 a2, .slice a3O a3L a3C]] w fun e0 wr0 => ∃ v0, e0 = .returned v0 ∧ R v0 wr0 :=
  eff_of_ev (C := c_laws_toQueue) (sps := s_laws_toQueue) (body := bodyOf Try.f22) (env _ _ _) Try.func22 rfl rfl (of_decide_eq_true (by kernel_rfl)) (of_decide_eq_true (by kernel_rfl)) rfl ((v_laws_toQueue a0 a1 a2 a3O a3L a3C w _).mpr hvc)
noncomputable def c_laws_toQueueOp : Cfg := { P := Try.prog, T := tblGet tbl, pf := pfT, ef := efT, tt := ttT, vis := [], n := 14, pm := true }
noncomputable def s_laws_toQueueOp : List (Nat × LSpec) := []
def V_laws_toQueueOp (a0 : Int) (a1 : Int) (a2 : Int) (w : World) (R : Value → World → Prop) : Prop :=
    (∀ b, w.heap.size ≤ b →
    (∀ b1, w.heap.size ≤ b1 →
    (∀ b2, w.heap.size ≤ b2 →
    R (.agg #[.int .i64 a0, .int .i64 a1, .int .i64 a2]) w)))
theorem v_laws_toQueueOp (a0 : Int) (a1 : Int) (a2 : Int) (w : World) (R : Value → World → Prop) : evFn c_laws_toQueueOp s_laws_toQueueOp [.agg #[.int .i64 a0, .int .i64 a1, .int .i64 a2]] (bodyOf Try.f23) Try.f23.results.toList w R = V_laws_toQueueOp a0 a1 a2 w R := by kernel_rfl
theorem p_laws_toQueueOp (a0 : Int) (a1 : Int) (a2 : Int) {w : World} {bs : List Nat} {ret : Value} (hvc : ∀ wr0, ExtX bs w wr0 → V_laws_toQueueOp a0 a1 a2 wr0 fun v0 _ => v0 = ret) : PureX bs Try.prog fn_laws_toQueueOp #[.agg #[.int .i64 a0, .int .i64 a1, .int .i64 a2]] w ret :=
  pure_of_ev (C := c_laws_toQueueOp) (sps := s_laws_toQueueOp) (body := bodyOf Try.f23) (env _ _ _) Try.func23 rfl rfl (of_decide_eq_true (by kernel_rfl)) (of_decide_eq_true (by kernel_rfl)) rfl fun wr0 hx0 => (v_laws_toQueueOp a0 a1 a2 wr0 _).mpr (hvc wr0 hx0)
noncomputable def c_laws_eqEntry : Cfg := { P := Try.prog, T := tblGet tbl, pf := pfT, ef := efT, tt := ttT, vis := [], n := 25, pm := true }
noncomputable def s_laws_eqEntry : List (Nat × LSpec) := []
def V_laws_eqEntry (a0 : Bool) (a1 : Int) (a2 : Int) (a3 : Int) (b0 : Bool) (b1 : Int) (b2 : Int) (b3 : Int) (w : World) (R : Value → World → Prop) : Prop :=
    (∀ b, w.heap.size ≤ b →
    (∀ b4, w.heap.size ≤ b4 →
    ((!(a0 == b0)) = true →
    R (.bool false) w) ∧
    ((!(a0 == b0)) = false →
    ((a1 != b1) = true →
    R (.bool false) w) ∧
    ((a1 != b1) = false →
    ((a2 != b2) = true →
    R (.bool false) w) ∧
    ((a2 != b2) = false →
    ((a3 != b3) = true →
    R (.bool false) w) ∧
    ((a3 != b3) = false →
    R (.bool true) w))))))
theorem v_laws_eqEntry (a0 : Bool) (a1 : Int) (a2 : Int) (a3 : Int) (b0 : Bool) (b1 : Int) (b2 : Int) (b3 : Int) (w : World) (R : Value → World → Prop) : evFn c_laws_eqEntry s_laws_eqEntry [.agg #[.bool a0, .int .i64 a1, .int .i64 a2, .int .i64 a3], .agg #[.bool b0, .int .i64 b1, .int .i64 b2, .int .i64 b3]] (bodyOf Try.f106) Try.f106.results.toList w R = V_laws_eqEntry a0 a1 a2 a3 b0 b1 b2 b3 w R := by kernel_rfl
theorem p_laws_eqEntry (a0 : Bool) (a1 : Int) (a2 : Int) (a3 : Int) (b0 : Bool) (b1 : Int) (b2 : Int) (b3 : Int) {w : World} {bs : List Nat} {ret : Value} (hvc : ∀ wr0, ExtX bs w wr0 → V_laws_eqEntry a0 a1 a2 a3 b0 b1 b2 b3 wr0 fun v0 _ => v0 = ret) : PureX bs Try.prog fn_laws_eqEntry #[.agg #[.bool a0, .int .i64 a1, .int .i64 a2, .int .i64 a3], .agg #[.bool b0, .int .i64 b1, .int .i64 b2, .int .i64 b3]] w ret :=
  pure_of_ev (C := c_laws_eqEntry) (sps := s_laws_eqEntry) (body := bodyOf Try.f106) (env _ _ _) Try.func106 rfl rfl (of_decide_eq_true (by kernel_rfl)) (of_decide_eq_true (by kernel_rfl)) rfl fun wr0 hx0 => (v_laws_eqEntry a0 a1 a2 a3 b0 b1 b2 b3 wr0 _).mpr (hvc wr0 hx0)
noncomputable def c_laws_eqEntryS : Cfg := { P := Try.prog, T := tblGet tbl, pf := pfT, ef := efT, tt := ttT, vis := [], n := 27, pm := true }
noncomputable def s_laws_eqEntryS : List (Nat × LSpec) := [(4, { chg := [(5, .int .i64)], chgL := [], keep := [0, 1] })]
def V_laws_eqEntryS (aO : Option Addr) (aL : Nat) (aC : Nat) (bO : Option Addr) (bL : Nat) (bC : Nat) (w : World) (R : Value → World → Prop) : Prop :=
    ((((aL : Nat) : Int) != ((bL : Nat) : Int)) = true →
    R (.bool false) w) ∧
    ((((aL : Nat) : Int) != ((bL : Nat) : Int)) = false →
    (∃ (xInv : List Value → Prop) (mu : List Value → Nat), xInv [.int .i64 0] ∧
    ∀ (i : Int), xInv [.int .i64 i] →
    ((decide (i < ((aL : Nat) : Int))) = true →
    Ix aO aL i ∧
    (∃ (x0 : Bool) (x1 : Int) (x2 : Int) (x3 : Int),
    CellsX [] w aO (Int.toNat i * 4) [.bool x0, .int .i64 x1, .int .i64 x2, .int .i64 x3] ∧
    Ix bO bL i ∧
    (∃ (x01 : Bool) (x11 : Int) (x21 : Int) (x31 : Int),
    CellsX [] w bO (Int.toNat i * 4) [.bool x01, .int .i64 x11, .int .i64 x21, .int .i64 x31] ∧
    (∃ (eqEntr : Bool),
    PureX [] Try.prog fn_laws_eqEntry #[.agg #[.bool x0, .int .i64 x1, .int .i64 x2, .int .i64 x3], .agg #[.bool x01, .int .i64 x11, .int .i64 x21, .int .i64 x31]] w (.bool eqEntr) ∧
    ((!eqEntr) = true →
    R (.bool false) w) ∧
    ((!eqEntr) = false →
    InR .i64 (i + 1) ∧
    xInv [.int .i64 (i + 1)] ∧ mu [.int .i64 (i + 1)] < mu [.int .i64 i]))))) ∧
    ((decide (i < ((aL : Nat) : Int))) = false →
    R (.bool true) w)))
theorem v_laws_eqEntryS (aO : Option Addr) (aL : Nat) (aC : Nat) (bO : Option Addr) (bL : Nat) (bC : Nat) (w : World) (R : Value → World → Prop) : evFn c_laws_eqEntryS s_laws_eqEntryS [.slice aO aL aC, .slice bO bL bC] (bodyOf Try.f71) Try.f71.results.toList w R = V_laws_eqEntryS aO aL aC bO bL bC w R := by kernel_rfl
theorem p_laws_eqEntryS (aO : Option Addr) (aL : Nat) (aC : Nat) (bO : Option Addr) (bL : Nat) (bC : Nat) {w : World} {bs : List Nat} {ret : Value} (hvc : ∀ wr0, ExtX bs w wr0 → V_laws_eqEntryS aO aL aC bO bL bC wr0 fun v0 _ => v0 = ret) : PureX bs Try.prog fn_laws_eqEntryS #[.slice aO aL aC, .slice bO bL bC] w ret :=
  pure_of_ev (C := c_laws_eqEntryS) (sps := s_laws_eqEntryS) (body := bodyOf Try.f71) (env _ _ _) Try.func71 rfl rfl (of_decide_eq_true (by kernel_rfl)) (of_decide_eq_true (by kernel_rfl)) rfl fun wr0 hx0 => (v_laws_eqEntryS aO aL aC bO bL bC wr0 _).mpr (hvc wr0 hx0)
noncomputable def c_laws_eqQueue : Cfg := { P := Try.prog, T := tblGet tbl, pf := pfT, ef := efT, tt := ttT, vis := [], n := 26, pm := true }
noncomputable def s_laws_eqQueue : List (Nat × LSpec) := []
def V_laws_eqQueue (a0 : Int) (a1 : Int) (a2 : Int) (a3O : Option Addr) (a3L : Nat) (a3C : Nat) (b0 : Int) (b1 : Int) (b2 : Int) (b3O : Option Addr) (b3L : Nat) (b3C : Nat) (w : World) (R : Value → World → Prop) : Prop :=
    (∀ b, w.heap.size ≤ b →
    (∀ b4, w.heap.size ≤ b4 →
    ((a0 != b0) = true →
    R (.bool false) w) ∧
    ((a0 != b0) = false →
    ((a1 != b1) = true →
    R (.bool false) w) ∧
    ((a1 != b1) = false →
    ((a2 != b2) = true →
    R (.bool false) w) ∧
    ((a2 != b2) = false →
    (∃ (eqEntr : Bool),
    PureX [] Try.prog fn_laws_eqEntryS #[.slice a3O a3L a3C, .slice b3O b3L b3C] w (.bool eqEntr) ∧
    ((!eqEntr) = true →
    R (.bool false) w) ∧
    ((!eqEntr) = false →
    R (.bool true) w)))))))
theorem v_laws_eqQueue (a0 : Int) (a1 : Int) (a2 : Int) (a3O : Option Addr) (a3L : Nat) (a3C : Nat) (b0 : Int) (b1 : Int) (b2 : Int) (b3O : Option Addr) (b3L : Nat) (b3C : Nat) (w : World) (R : Value → World → Prop) : evFn c_laws_eqQueue s_laws_eqQueue [.agg #[.int .i64 a0, .int .i64 a1, .int .i64 a2, .slice a3O a3L a3C], .agg #[.int .i64 b0, .int .i64 b1, .int .i64 b2, .slice b3O b3L b3C]] (bodyOf Try.f24) Try.f24.results.toList w R = V_laws_eqQueue a0 a1 a2 a3O a3L a3C b0 b1 b2 b3O b3L b3C w R := by kernel_rfl
theorem p_laws_eqQueue (a0 : Int) (a1 : Int) (a2 : Int) (a3O : Option Addr) (a3L : Nat) (a3C : Nat) (b0 : Int) (b1 : Int) (b2 : Int) (b3O : Option Addr) (b3L : Nat) (b3C : Nat) {w : World} {bs : List Nat} {ret : Value} (hvc : ∀ wr0, ExtX bs w wr0 → V_laws_eqQueue a0 a1 a2 a3O a3L a3C b0 b1 b2 b3O b3L b3C wr0 fun v0 _ => v0 = ret) : PureX bs Try.prog fn_laws_eqQueue #[.agg #[.int .i64 a0, .int .i64 a1, .int .i64 a2, .slice a3O a3L a3C], .agg #[.int .i64 b0, .int .i64 b1, .int .i64 b2, .slice b3O b3L b3C]] w ret :=
  pure_of_ev (C := c_laws_eqQueue) (sps := s_laws_eqQueue) (body := bodyOf Try.f24) (env _ _ _) Try.func24 rfl rfl (of_decide_eq_true (by kernel_rfl)) (of_decide_eq_true (by kernel_rfl)) rfl fun wr0 hx0 => (v_laws_eqQueue a0 a1 a2 a3O a3L a3C b0 b1 b2 b3O b3L b3C wr0 _).mpr (hvc wr0 hx0)
noncomputable def c_laws_markEntryS : Cfg := { P := Try.prog, T := tblGet tbl, pf := pfT, ef := efT, tt := ttT, vis := [], n := 43, pm := false }
noncomputable def s_laws_markEntryS : List (Nat × LSpec) := [(2, { chg := [(1, .int .i64), (5, .int .i64)], chgL := [], keep := [0] })]
def V_laws_markEntryS (aO : Option Addr) (aL : Nat) (aC : Nat) (k : Int) (w : World) (R : Value → World → Prop) : Prop :=
    (∃ (xInv : List Value → World → Prop) (mu : List Value → World → Nat), (∀ wr, ExtX [] w wr → (∀ bq ∈ ([] : List Nat), bq < wr.heap.size) → xInv [.int .i64 k, .int .i64 0] wr) ∧
    ∀ (k1 : Int) (i : Int) wv, (∀ bq ∈ ([] : List Nat), bq < wv.heap.size) → xInv [.int .i64 k1, .int .i64 i] wv →
    ((decide (i < ((aL : Nat) : Int))) = true →
    (3 : Int) ≠ 0 ∧
    Ix aO aL i ∧
    WrX [] wv aO (Int.toNat i * 4 + 0) 1 ∧
    InR .i64 (k1 + 1) ∧
    Ix aO aL i ∧
    WrX [] (sto wv aO (Int.toNat i * 4 + 0) [.bool ((Int.tmod k1 3) == 0)]) aO (Int.toNat i * 4 + 1) 1 ∧
    InR .i64 ((k1 + 1) + 1) ∧
    Ix aO aL i ∧
    WrX [] (sto (sto wv aO (Int.toNat i * 4 + 0) [.bool ((Int.tmod k1 3) == 0)]) aO (Int.toNat i * 4 + 1) [.int .i64 (k1 + 1)]) aO (Int.toNat i * 4 + 2) 1 ∧
    InR .i64 (((k1 + 1) + 1) + 1) ∧
    Ix aO aL i ∧
    WrX [] (sto (sto (sto wv aO (Int.toNat i * 4 + 0) [.bool ((Int.tmod k1 3) == 0)]) aO (Int.toNat i * 4 + 1) [.int .i64 (k1 + 1)]) aO (Int.toNat i * 4 + 2) [.int .i64 ((k1 + 1) + 1)]) aO (Int.toNat i * 4 + 3) 1 ∧
    InR .i64 ((((k1 + 1) + 1) + 1) + 1) ∧
    InR .i64 (i + 1) ∧
    (∀ wr1, ExtX [] (sto (sto (sto (sto wv aO (Int.toNat i * 4 + 0) [.bool ((Int.tmod k1 3) == 0)]) aO (Int.toNat i * 4 + 1) [.int .i64 (k1 + 1)]) aO (Int.toNat i * 4 + 2) [.int .i64 ((k1 + 1) + 1)]) aO (Int.toNat i * 4 + 3) [.int .i64 (((k1 + 1) + 1) + 1)]) wr1 → (∀ bq ∈ ([] : List Nat), bq < wr1.heap.size) → xInv [.int .i64 ((((k1 + 1) + 1) + 1) + 1), .int .i64 (i + 1)] wr1 ∧ mu [.int .i64 ((((k1 + 1) + 1) + 1) + 1), .int .i64 (i + 1)] wr1 < mu [.int .i64 k1, .int .i64 i] wv)) ∧
    ((decide (i < ((aL : Nat) : Int))) = false →
    (∀ wr2, ExtX [] wv wr2 → R (.int .i64 k1) wr2)))
theorem v_laws_markEntryS (aO : Option Addr) (aL : Nat) (aC : Nat) (k : Int) (w : World) (R : Value → World → Prop) : evFn c_laws_markEntryS s_laws_markEntryS [.slice aO aL aC, .int .i64 k] (bodyOf Try.f72) Try.f72.results.toList w R = V_laws_markEntryS aO aL aC k w R := by kernel_rfl
theorem e_laws_markEntryS (aO : Option Addr) (aL : Nat) (aC : Nat) (k : Int) {w : World} {R : Value → World → Prop} (hvc : V_laws_markEntryS aO aL aC k w R) : Calls Try.prog fn_laws_markEntryS #[.slice aO aL aC, .int .i64 k] w fun e0 wr0 => ∃ v0, e0 = .returned v0 ∧ R v0 wr0 :=
  eff_of_ev (C := c_laws_markEntryS) (sps := s_laws_markEntryS) (body := bodyOf Try.f72) (env _ _ _) Try.func72 rfl rfl (of_decide_eq_true (by kernel_rfl)) (of_decide_eq_true (by kernel_rfl)) rfl ((v_laws_markEntryS aO aL aC k w _).mpr hvc)
noncomputable def c_laws_markQueue : Cfg := { P := Try.prog, T := tblGet tbl, pf := pfT, ef := efT, tt := ttT, vis := [], n := 10, pm := false }
noncomputable def s_laws_markQueue : List (Nat × LSpec) := []
def V_laws_markQueue (a0 : Int) (a1 : Int) (a2 : Int) (a3O : Option Addr) (a3L : Nat) (a3C : Nat) (k : Int) (w : World) (R : Value → World → Prop) : Prop :=
    (∀ b, w.heap.size ≤ b →
    (∀ wr, ExtX [] w wr → (∀ bq ∈ ([b] : List Nat), bq < wr.heap.size) → 
    Calls Try.prog fn_laws_markEntryS #[.slice a3O a3L a3C, .int .i64 k] wr fun e wv =>
    (∃ (markEn : Int),
    e = .returned (.int .i64 markEn) ∧ Kept [b] wr wv ∧
    (∀ wr1, ExtX [b] wv wr1 → R (.int .i64 markEn) wr1))))
theorem v_laws_markQueue (a0 : Int) (a1 : Int) (a2 : Int) (a3O : Option Addr) (a3L : Nat) (a3C : Nat) (k : Int) (w : World) (R : Value → World → Prop) : evFn c_laws_markQueue s_laws_markQueue [.agg #[.int .i64 a0, .int .i64 a1, .int .i64 a2, .slice a3O a3L a3C], .int .i64 k] (bodyOf Try.f25) Try.f25.results.toList w R = V_laws_markQueue a0 a1 a2 a3O a3L a3C k w R := by kernel_rfl
theorem e_laws_markQueue (a0 : Int) (a1 : Int) (a2 : Int) (a3O : Option Addr) (a3L : Nat) (a3C : Nat) (k : Int) {w : World} {R : Value → World → Prop} (hvc : V_laws_markQueue a0 a1 a2 a3O a3L a3C k w R) : Calls Try.prog fn_laws_markQueue #[.agg #[.int .i64 a0, .int .i64 a1, .int .i64 a2, .slice a3O a3L a3C], .int .i64 k] w fun e0 wr0 => ∃ v0, e0 = .returned v0 ∧ R v0 wr0 :=
  eff_of_ev (C := c_laws_markQueue) (sps := s_laws_markQueue) (body := bodyOf Try.f25) (env _ _ _) Try.func25 rfl rfl (of_decide_eq_true (by kernel_rfl)) (of_decide_eq_true (by kernel_rfl)) rfl ((v_laws_markQueue a0 a1 a2 a3O a3L a3C k w _).mpr hvc)
noncomputable def c_laws_heldEntryS : Cfg := { P := Try.prog, T := tblGet tbl, pf := pfT, ef := efT, tt := ttT, vis := [], n := 51, pm := true }
noncomputable def s_laws_heldEntryS : List (Nat × LSpec) := [(2, { chg := [(1, .int .i64), (5, .int .i64)], chgL := [], keep := [0] })]
def V_laws_heldEntryS (aO : Option Addr) (aL : Nat) (aC : Nat) (k : Int) (w : World) (R : Value → World → Prop) : Prop :=
    (∃ (xInv : List Value → Prop) (mu : List Value → Nat), xInv [.int .i64 k, .int .i64 0] ∧
    ∀ (k1 : Int) (i : Int), xInv [.int .i64 k1, .int .i64 i] →
    ((decide (i < ((aL : Nat) : Int))) = true →
    Ix aO aL i ∧
    (∃ (onv : Bool),
    CellsX [] w aO (Int.toNat i * 4 + 0) [.bool onv] ∧
    (3 : Int) ≠ 0 ∧
    ((!(onv == ((Int.tmod k1 3) == 0))) = true →
    R (.int .i64 (-1)) w) ∧
    ((!(onv == ((Int.tmod k1 3) == 0))) = false →
    InR .i64 (k1 + 1) ∧
    Ix aO aL i ∧
    (∃ (v : Int),
    CellsX [] w aO (Int.toNat i * 4 + 1) [.int .i64 v] ∧
    ((v != (k1 + 1)) = true →
    R (.int .i64 (-1)) w) ∧
    ((v != (k1 + 1)) = false →
    InR .i64 ((k1 + 1) + 1) ∧
    Ix aO aL i ∧
    (∃ (wv : Int),
    CellsX [] w aO (Int.toNat i * 4 + 2) [.int .i64 wv] ∧
    ((wv != ((k1 + 1) + 1)) = true →
    R (.int .i64 (-1)) w) ∧
    ((wv != ((k1 + 1) + 1)) = false →
    InR .i64 (((k1 + 1) + 1) + 1) ∧
    Ix aO aL i ∧
    (∃ (sum : Int),
    CellsX [] w aO (Int.toNat i * 4 + 3) [.int .i64 sum] ∧
    ((sum != (((k1 + 1) + 1) + 1)) = true →
    R (.int .i64 (-1)) w) ∧
    ((sum != (((k1 + 1) + 1) + 1)) = false →
    InR .i64 ((((k1 + 1) + 1) + 1) + 1) ∧
    InR .i64 (i + 1) ∧
    xInv [.int .i64 ((((k1 + 1) + 1) + 1) + 1), .int .i64 (i + 1)] ∧ mu [.int .i64 ((((k1 + 1) + 1) + 1) + 1), .int .i64 (i + 1)] < mu [.int .i64 k1, .int .i64 i]))))))))) ∧
    ((decide (i < ((aL : Nat) : Int))) = false →
    R (.int .i64 k1) w))
theorem v_laws_heldEntryS (aO : Option Addr) (aL : Nat) (aC : Nat) (k : Int) (w : World) (R : Value → World → Prop) : evFn c_laws_heldEntryS s_laws_heldEntryS [.slice aO aL aC, .int .i64 k] (bodyOf Try.f73) Try.f73.results.toList w R = V_laws_heldEntryS aO aL aC k w R := by kernel_rfl
theorem p_laws_heldEntryS (aO : Option Addr) (aL : Nat) (aC : Nat) (k : Int) {w : World} {bs : List Nat} {ret : Value} (hvc : ∀ wr0, ExtX bs w wr0 → V_laws_heldEntryS aO aL aC k wr0 fun v0 _ => v0 = ret) : PureX bs Try.prog fn_laws_heldEntryS #[.slice aO aL aC, .int .i64 k] w ret :=
  pure_of_ev (C := c_laws_heldEntryS) (sps := s_laws_heldEntryS) (body := bodyOf Try.f73) (env _ _ _) Try.func73 rfl rfl (of_decide_eq_true (by kernel_rfl)) (of_decide_eq_true (by kernel_rfl)) rfl fun wr0 hx0 => (v_laws_heldEntryS aO aL aC k wr0 _).mpr (hvc wr0 hx0)
noncomputable def c_laws_heldQueue : Cfg := { P := Try.prog, T := tblGet tbl, pf := pfT, ef := efT, tt := ttT, vis := [], n := 12, pm := true }
noncomputable def s_laws_heldQueue : List (Nat × LSpec) := []
def V_laws_heldQueue (a0 : Int) (a1 : Int) (a2 : Int) (a3O : Option Addr) (a3L : Nat) (a3C : Nat) (k : Int) (w : World) (R : Value → World → Prop) : Prop :=
    (∀ b, w.heap.size ≤ b →
    (∃ (heldEn : Int),
    PureX [] Try.prog fn_laws_heldEntryS #[.slice a3O a3L a3C, .int .i64 k] w (.int .i64 heldEn) ∧
    ((decide (heldEn < 0)) = true →
    R (.int .i64 (-1)) w) ∧
    ((decide (heldEn < 0)) = false →
    R (.int .i64 heldEn) w)))
theorem v_laws_heldQueue (a0 : Int) (a1 : Int) (a2 : Int) (a3O : Option Addr) (a3L : Nat) (a3C : Nat) (k : Int) (w : World) (R : Value → World → Prop) : evFn c_laws_heldQueue s_laws_heldQueue [.agg #[.int .i64 a0, .int .i64 a1, .int .i64 a2, .slice a3O a3L a3C], .int .i64 k] (bodyOf Try.f26) Try.f26.results.toList w R = V_laws_heldQueue a0 a1 a2 a3O a3L a3C k w R := by kernel_rfl
theorem p_laws_heldQueue (a0 : Int) (a1 : Int) (a2 : Int) (a3O : Option Addr) (a3L : Nat) (a3C : Nat) (k : Int) {w : World} {bs : List Nat} {ret : Value} (hvc : ∀ wr0, ExtX bs w wr0 → V_laws_heldQueue a0 a1 a2 a3O a3L a3C k wr0 fun v0 _ => v0 = ret) : PureX bs Try.prog fn_laws_heldQueue #[.agg #[.int .i64 a0, .int .i64 a1, .int .i64 a2, .slice a3O a3L a3C], .int .i64 k] w ret :=
  pure_of_ev (C := c_laws_heldQueue) (sps := s_laws_heldQueue) (body := bodyOf Try.f26) (env _ _ _) Try.func26 rfl rfl (of_decide_eq_true (by kernel_rfl)) (of_decide_eq_true (by kernel_rfl)) rfl fun wr0 hx0 => (v_laws_heldQueue a0 a1 a2 a3O a3L a3C k wr0 _).mpr (hvc wr0 hx0)
end Go.Proofs.Ythihcdljmddgfaa
