/- Printed by wip/tools/vc.py: what a function's text asks for. -/
import Derived.Test.YthojnihahmlboaaGreatTab
namespace Go.Proofs.YthojnihahmlboaaGreat
open Go.RowKit
set_option linter.unusedVariables false
set_option maxRecDepth 100000
set_option maxHeartbeats 1600000
noncomputable def c_spec_l12Busiest : Cfg := { P := Tryz.prog, T := tblGet tbl, pf := pfT, ef := efT, tt := ttT, vis := [], n := 62, pm := true, wr := false }
noncomputable def s_spec_l12Busiest : List (Nat × LSpec) := [(3, { chg := [(7, .int .i64), (8, .int .i64)], chgL := [], keep := [1, 2, 3] }), (7, { chg := [(7, .int .i64), (9, .int .i64)], chgL := [], keep := [1, 2, 3, 8] })]
def V_spec_l12Busiest (w0 : Int) (w1O : Option Addr) (w1L : Nat) (w1C : Nat) (w2O : Option Addr) (w2L : Nat) (w2C : Nat) (w3O : Option Addr) (w3L : Nat) (w3C : Nat) (m : Int) (c : Int) (w : World) (R : Value → World → Prop) : Prop :=
    (∀ b, w.heap.size ≤ b →
    (∃ (xInv : List Value → Prop) (mu : List Value → Nat), xInv [.int .i64 (-1), .int .i64 0] ∧
    ∀ (best : Int) (b1 : Int), xInv [.int .i64 best, .int .i64 b1] →
    ((decide (b1 < ((w1L : Nat) : Int))) = true →
    (∃ (xMaskHa : Bool),
    ((b1 == c) = false → PureX [] Tryz.prog fn_spec_MaskHas #[.int .i64 m, .int .i64 b1] w (.bool xMaskHa)) ∧
    (∃ (l12Loa : Int),
    ((decide (best ≥ 0)) = true → (((b1 == c) || (!xMaskHa)) = false → PureX [] Tryz.prog fn_spec_l12Load #[.agg #[.int .i64 w0, .slice w1O w1L w1C, .slice w2O w2L w2C, .slice w3O w3L w3C], .int .i64 b1] w (.int .i64 l12Loa))) ∧
    (∃ (l12Loa1 : Int),
    ((decide (best ≥ 0)) = true → (((b1 == c) || (!xMaskHa)) = false → PureX [] Tryz.prog fn_spec_l12Load #[.agg #[.int .i64 w0, .slice w1O w1L w1C, .slice w2O w2L w2C, .slice w3O w3L w3C], .int .i64 best] w (.int .i64 l12Loa1))) ∧
    ((((b1 == c) || (!xMaskHa)) || ((decide (best ≥ 0)) && (decide (l12Loa ≤ l12Loa1)))) = true →
    InR .i64 (b1 + 1) ∧
    xInv [.int .i64 best, .int .i64 (b1 + 1)] ∧ mu [.int .i64 best, .int .i64 (b1 + 1)] < mu [.int .i64 best, .int .i64 b1]) ∧
    ((((b1 == c) || (!xMaskHa)) || ((decide (best ≥ 0)) && (decide (l12Loa ≤ l12Loa1)))) = false →
    (∃ (xInv1 : List Value → Prop) (mu1 : List Value → Nat), xInv1 [.int .i64 best, .int .i64 0] ∧
    ∀ (best1 : Int) (t : Int), xInv1 [.int .i64 best1, .int .i64 t] →
    ((decide (t < ((w2L : Nat) : Int))) = true →
    Ix w2O w2L t ∧
    (∃ (cpu : Int),
    CellsX [] w w2O (Int.toNat t * 9 + 2) [.int .i64 cpu] ∧
    (∃ (l12Cou : Bool),
    ((cpu == b1) = true → PureX [] Tryz.prog fn_spec_l12Could #[.agg #[.int .i64 w0, .slice w1O w1L w1C, .slice w2O w2L w2C, .slice w3O w3L w3C], .int .i64 t, .int .i64 c] w (.bool l12Cou)) ∧
    (((cpu == b1) && l12Cou) = true →
    InR .i64 (t + 1) ∧
    xInv1 [.int .i64 b1, .int .i64 (t + 1)] ∧ mu1 [.int .i64 b1, .int .i64 (t + 1)] < mu1 [.int .i64 best1, .int .i64 t]) ∧
    (((cpu == b1) && l12Cou) = false →
    InR .i64 (t + 1) ∧
    xInv1 [.int .i64 best1, .int .i64 (t + 1)] ∧ mu1 [.int .i64 best1, .int .i64 (t + 1)] < mu1 [.int .i64 best1, .int .i64 t])))) ∧
    ((decide (t < ((w2L : Nat) : Int))) = false →
    InR .i64 (b1 + 1) ∧
    xInv [.int .i64 best1, .int .i64 (b1 + 1)] ∧ mu [.int .i64 best1, .int .i64 (b1 + 1)] < mu [.int .i64 best, .int .i64 b1]))))))) ∧
    ((decide (b1 < ((w1L : Nat) : Int))) = false →
    R (.int .i64 best) w)))
theorem v_spec_l12Busiest (w0 : Int) (w1O : Option Addr) (w1L : Nat) (w1C : Nat) (w2O : Option Addr) (w2L : Nat) (w2C : Nat) (w3O : Option Addr) (w3L : Nat) (w3C : Nat) (m : Int) (c : Int) (w : World) (R : Value → World → Prop) : evFn c_spec_l12Busiest s_spec_l12Busiest [.agg #[.int .i64 w0, .slice w1O w1L w1C, .slice w2O w2L w2C, .slice w3O w3L w3C], .int .i64 m, .int .i64 c] (bodyOf Tryz.f68) Tryz.f68.results.toList w R = V_spec_l12Busiest w0 w1O w1L w1C w2O w2L w2C w3O w3L w3C m c w R := by kernel_rfl
theorem p_spec_l12Busiest (w0 : Int) (w1O : Option Addr) (w1L : Nat) (w1C : Nat) (w2O : Option Addr) (w2L : Nat) (w2C : Nat) (w3O : Option Addr) (w3L : Nat) (w3C : Nat) (m : Int) (c : Int) {w : World} {bs : List Nat} {ret : Value} (hvc : ∀ wr0, ExtX bs w wr0 → V_spec_l12Busiest w0 w1O w1L w1C w2O w2L w2C w3O w3L w3C m c wr0 fun v0 _ => v0 = ret) : PureX bs Tryz.prog fn_spec_l12Busiest #[.agg #[.int .i64 w0, .slice w1O w1L w1C, .slice w2O w2L w2C, .slice w3O w3L w3C], .int .i64 m, .int .i64 c] w ret :=
  pure_of_ev (C := c_spec_l12Busiest) (sps := s_spec_l12Busiest) (body := bodyOf Tryz.f68) (env _ _ _ _) Tryz.func68 rfl rfl (of_decide_eq_true (by kernel_rfl)) (of_decide_eq_true (by kernel_rfl)) rfl fun wr0 hx0 => by rw [v_spec_l12Busiest]; exact hvc wr0 hx0
noncomputable def c_spec_DomainSpan : Cfg := { P := Tryz.prog, T := tblGet tbl, pf := pfT, ef := efT, tt := ttT, vis := [], n := 49, pm := true, wr := false }
noncomputable def s_spec_DomainSpan : List (Nat × LSpec) := [(5, { chg := [(7, .int .i64), (8, .int .i64)], chgL := [], keep := [0, 1, 2] })]
def V_spec_DomainSpan (cpus : Int) (cpu : Int) (level : Int) (w : World) (R : Value → World → Prop) : Prop :=
    (∃ (l1In : Bool),
    PureX [] Tryz.prog fn_spec_l1In #[.int .i64 cpus, .int .i64 1, .int .i64 4] w (.bool l1In) ∧
    ((!l1In) = false → InR .i64 (cpus - 1)) ∧
    (∃ (l1In1 : Bool),
    ((!l1In) = false → PureX [] Tryz.prog fn_spec_l1In #[.int .i64 cpu, .int .i64 0, .int .i64 (cpus - 1)] w (.bool l1In1)) ∧
    (∃ (xDomain : Int),
    (((!l1In) || (!l1In1)) = false → PureX [] Tryz.prog fn_spec_DomainLevels #[.int .i64 cpus] w (.int .i64 xDomain)) ∧
    (((!l1In) || (!l1In1)) = false → InR .i64 (xDomain - 1)) ∧
    (∃ (l1In2 : Bool),
    (((!l1In) || (!l1In1)) = false → PureX [] Tryz.prog fn_spec_l1In #[.int .i64 level, .int .i64 0, .int .i64 (xDomain - 1)] w (.bool l1In2)) ∧
    ((((!l1In) || (!l1In1)) || (!l1In2)) = true →
    R (.int .i64 0) w) ∧
    ((((!l1In) || (!l1In1)) || (!l1In2)) = false →
    (∃ (xInv : List Value → Prop) (mu : List Value → Nat), xInv [.int .i64 0, .int .i64 0] ∧
    ∀ (m : Int) (c : Int), xInv [.int .i64 m, .int .i64 c] →
    ((decide (c < cpus)) = true →
    InR .i64 (level + 1) ∧
    InR .u64 (level + 1) ∧
    0 ≤ level + 1 ∧
    InR .i64 (level + 1) ∧
    InR .u64 (level + 1) ∧
    0 ≤ level + 1 ∧
    (((Int.fdiv c (2 ^ (min (Int.toNat (level + 1)) 64))) == (Int.fdiv cpu (2 ^ (min (Int.toNat (level + 1)) 64)))) = true →
    InR .u64 c ∧
    (0 ≤ c ∧ InR .i64 (1 * 2 ^ (min (Int.toNat c) 64))) ∧
    InR .i64 (m + (1 * 2 ^ (min (Int.toNat c) 64))) ∧
    InR .i64 (c + 1) ∧
    xInv [.int .i64 (m + (1 * 2 ^ (min (Int.toNat c) 64))), .int .i64 (c + 1)] ∧ mu [.int .i64 (m + (1 * 2 ^ (min (Int.toNat c) 64))), .int .i64 (c + 1)] < mu [.int .i64 m, .int .i64 c]) ∧
    (((Int.fdiv c (2 ^ (min (Int.toNat (level + 1)) 64))) == (Int.fdiv cpu (2 ^ (min (Int.toNat (level + 1)) 64)))) = false →
    InR .i64 (c + 1) ∧
    xInv [.int .i64 m, .int .i64 (c + 1)] ∧ mu [.int .i64 m, .int .i64 (c + 1)] < mu [.int .i64 m, .int .i64 c])) ∧
    ((decide (c < cpus)) = false →
    R (.int .i64 m) w)))))))
theorem v_spec_DomainSpan (cpus : Int) (cpu : Int) (level : Int) (w : World) (R : Value → World → Prop) : evFn c_spec_DomainSpan s_spec_DomainSpan [.int .i64 cpus, .int .i64 cpu, .int .i64 level] (bodyOf Tryz.f69) Tryz.f69.results.toList w R = V_spec_DomainSpan cpus cpu level w R := by kernel_rfl
theorem p_spec_DomainSpan (cpus : Int) (cpu : Int) (level : Int) {w : World} {bs : List Nat} {ret : Value} (hvc : ∀ wr0, ExtX bs w wr0 → V_spec_DomainSpan cpus cpu level wr0 fun v0 _ => v0 = ret) : PureX bs Tryz.prog fn_spec_DomainSpan #[.int .i64 cpus, .int .i64 cpu, .int .i64 level] w ret :=
  pure_of_ev (C := c_spec_DomainSpan) (sps := s_spec_DomainSpan) (body := bodyOf Tryz.f69) (env _ _ _ _) Tryz.func69 rfl rfl (of_decide_eq_true (by kernel_rfl)) (of_decide_eq_true (by kernel_rfl)) rfl fun wr0 hx0 => by rw [v_spec_DomainSpan]; exact hvc wr0 hx0
noncomputable def c_spec_CpuBusiest : Cfg := { P := Tryz.prog, T := tblGet tbl, pf := pfT, ef := efT, tt := ttT, vis := [], n := 35, pm := true, wr := false }
noncomputable def s_spec_CpuBusiest : List (Nat × LSpec) := []
def V_spec_CpuBusiest (w0 : Int) (w1O : Option Addr) (w1L : Nat) (w1C : Nat) (w2O : Option Addr) (w2L : Nat) (w2C : Nat) (w3O : Option Addr) (w3L : Nat) (w3C : Nat) (cpu : Int) (level : Int) (w : World) (R : Value → World → Prop) : Prop :=
    (∀ b, w.heap.size ≤ b →
    (∃ (xWorldO : Bool),
    PureX [] Tryz.prog fn_spec_WorldOk #[.agg #[.int .i64 w0, .slice w1O w1L w1C, .slice w2O w2L w2C, .slice w3O w3L w3C]] w (.bool xWorldO) ∧
    (∃ (l9Up : Bool),
    ((!xWorldO) = false → PureX [] Tryz.prog fn_spec_l9Up #[.agg #[.int .i64 w0, .slice w1O w1L w1C, .slice w2O w2L w2C, .slice w3O w3L w3C], .int .i64 cpu] w (.bool l9Up)) ∧
    (∃ (xDomain : Int),
    (((!xWorldO) || (!l9Up)) = false → PureX [] Tryz.prog fn_spec_DomainLevels #[.int .i64 ((w1L : Nat) : Int)] w (.int .i64 xDomain)) ∧
    (((!xWorldO) || (!l9Up)) = false → InR .i64 (xDomain - 1)) ∧
    (∃ (l1In : Bool),
    (((!xWorldO) || (!l9Up)) = false → PureX [] Tryz.prog fn_spec_l1In #[.int .i64 level, .int .i64 0, .int .i64 (xDomain - 1)] w (.bool l1In)) ∧
    ((((!xWorldO) || (!l9Up)) || (!l1In)) = true →
    R (.int .i64 (-1)) w) ∧
    ((((!xWorldO) || (!l9Up)) || (!l1In)) = false →
    (∃ (xDomain1 : Int),
    PureX [] Tryz.prog fn_spec_DomainSpan #[.int .i64 ((w1L : Nat) : Int), .int .i64 cpu, .int .i64 level] w (.int .i64 xDomain1) ∧
    (∃ (l12Bus : Int),
    PureX [] Tryz.prog fn_spec_l12Busiest #[.agg #[.int .i64 w0, .slice w1O w1L w1C, .slice w2O w2L w2C, .slice w3O w3L w3C], .int .i64 xDomain1, .int .i64 cpu] w (.int .i64 l12Bus) ∧
    R (.int .i64 l12Bus) w))))))))
theorem v_spec_CpuBusiest (w0 : Int) (w1O : Option Addr) (w1L : Nat) (w1C : Nat) (w2O : Option Addr) (w2L : Nat) (w2C : Nat) (w3O : Option Addr) (w3L : Nat) (w3C : Nat) (cpu : Int) (level : Int) (w : World) (R : Value → World → Prop) : evFn c_spec_CpuBusiest s_spec_CpuBusiest [.agg #[.int .i64 w0, .slice w1O w1L w1C, .slice w2O w2L w2C, .slice w3O w3L w3C], .int .i64 cpu, .int .i64 level] (bodyOf Tryz.f25) Tryz.f25.results.toList w R = V_spec_CpuBusiest w0 w1O w1L w1C w2O w2L w2C w3O w3L w3C cpu level w R := by kernel_rfl
theorem p_spec_CpuBusiest (w0 : Int) (w1O : Option Addr) (w1L : Nat) (w1C : Nat) (w2O : Option Addr) (w2L : Nat) (w2C : Nat) (w3O : Option Addr) (w3L : Nat) (w3C : Nat) (cpu : Int) (level : Int) {w : World} {bs : List Nat} {ret : Value} (hvc : ∀ wr0, ExtX bs w wr0 → V_spec_CpuBusiest w0 w1O w1L w1C w2O w2L w2C w3O w3L w3C cpu level wr0 fun v0 _ => v0 = ret) : PureX bs Tryz.prog fn_spec_CpuBusiest #[.agg #[.int .i64 w0, .slice w1O w1L w1C, .slice w2O w2L w2C, .slice w3O w3L w3C], .int .i64 cpu, .int .i64 level] w ret :=
  pure_of_ev (C := c_spec_CpuBusiest) (sps := s_spec_CpuBusiest) (body := bodyOf Tryz.f25) (env _ _ _ _) Tryz.func25 rfl rfl (of_decide_eq_true (by kernel_rfl)) (of_decide_eq_true (by kernel_rfl)) rfl fun wr0 hx0 => by rw [v_spec_CpuBusiest]; exact hvc wr0 hx0
noncomputable def c_impl_DomainLevels : Cfg := { P := Tryz.prog, T := tblGet tbl, pf := pfT, ef := efT, tt := ttT, vis := [], n := 14, pm := true, wr := false }
noncomputable def s_impl_DomainLevels : List (Nat × LSpec) := [(4, { chg := [(3, .int .i64)], chgL := [], keep := [0] })]
def V_impl_DomainLevels (cpus : Int) (w : World) (R : Value → World → Prop) : Prop :=
    (∃ (inRang : Bool),
    PureX [] Tryz.prog fn_impl_inRange #[.int .i64 cpus, .int .i64 1, .int .i64 4] w (.bool inRang) ∧
    ((!inRang) = true →
    R (.int .i64 0) w) ∧
    ((!inRang) = false →
    (∃ (xInv : List Value → Prop) (mu : List Value → Nat), xInv [.int .i64 0] ∧
    ∀ (levels : Int), xInv [.int .i64 levels] →
    (0 ≤ levels ∧ InR .i64 (1 * 2 ^ (min (Int.toNat levels) 64))) ∧
    ((decide (1 * 2 ^ (min (Int.toNat levels) 64) < cpus)) = true →
    InR .i64 (levels + 1) ∧
    xInv [.int .i64 (levels + 1)] ∧ mu [.int .i64 (levels + 1)] < mu [.int .i64 levels]) ∧
    ((decide (1 * 2 ^ (min (Int.toNat levels) 64) < cpus)) = false →
    R (.int .i64 levels) w))))
theorem v_impl_DomainLevels (cpus : Int) (w : World) (R : Value → World → Prop) : evFn c_impl_DomainLevels s_impl_DomainLevels [.int .i64 cpus] (bodyOf Tryz.f71) Tryz.f71.results.toList w R = V_impl_DomainLevels cpus w R := by kernel_rfl
theorem p_impl_DomainLevels (cpus : Int) {w : World} {bs : List Nat} {ret : Value} (hvc : ∀ wr0, ExtX bs w wr0 → V_impl_DomainLevels cpus wr0 fun v0 _ => v0 = ret) : PureX bs Tryz.prog fn_impl_DomainLevels #[.int .i64 cpus] w ret :=
  pure_of_ev (C := c_impl_DomainLevels) (sps := s_impl_DomainLevels) (body := bodyOf Tryz.f71) (env _ _ _ _) Tryz.func71 rfl rfl (of_decide_eq_true (by kernel_rfl)) (of_decide_eq_true (by kernel_rfl)) rfl fun wr0 hx0 => by rw [v_impl_DomainLevels]; exact hvc wr0 hx0
noncomputable def c_impl_lane_busiest : Cfg := { P := Tryz.prog, T := tblGet tbl, pf := pfT, ef := efT, tt := ttT, vis := [2, 3], n := 18, pm := false, wr := false }
noncomputable def s_impl_lane_busiest : List (Nat × LSpec) := []
def V_impl_lane_busiest (p0 : Option Addr) (p1 : Int) (level : Int) (w : World) (R : Value → World → Prop) : Prop :=
    (∀ b wb, ExtX [] w wb → w.heap.size ≤ b → wb.heap[b]? = some (Obj.cells ([.pointer p0, .int .i64 p1] : List Value).toArray ty_impl_lane (0, 0)) → b ∉ ([] : List Nat) →
    (∀ b1 wb1, ExtX [] wb wb1 → wb.heap.size ≤ b1 → wb1.heap[b1]? = some (Obj.cells ([.int .i64 level] : List Value).toArray ty_int (0, 0)) → b1 ∉ ([] : List Nat) →
    (∀ wr, ExtX [] wb1 wr → (∀ bq ∈ ([] : List Nat), bq < wr.heap.size) → 
    Calls Tryz.prog fn_impl_best_int #[.func (.func fn_impl_lane_busiest_1) #[] #[.pointer ((some (Addr.mk b 0 none)).map (·.add 0)), .pointer ((some (Addr.mk b1 0 none)).map (·.add 0))], .func (.func fn_impl_lane_busiest_2) #[] #[.pointer ((some (Addr.mk b 0 none)).map (·.add 0))]] wr fun e wv =>
    (∃ (int : Int) (int1 : Bool),
    e = .returned (.tuple #[.int .i64 int, .bool int1]) ∧ Kept [] wr wv ∧
    ((!int1) = true →
    (∀ wr1, ExtX [] wv wr1 → R (.int .i64 (-1)) wr1)) ∧
    ((!int1) = false →
    (∀ wr2, ExtX [] wv wr2 → R (.int .i64 int) wr2))))))
theorem v_impl_lane_busiest (p0 : Option Addr) (p1 : Int) (level : Int) (w : World) (R : Value → World → Prop) : evFn c_impl_lane_busiest s_impl_lane_busiest [.agg #[.pointer p0, .int .i64 p1], .int .i64 level] (bodyOf Tryz.f72) Tryz.f72.results.toList w R = V_impl_lane_busiest p0 p1 level w R := by kernel_rfl
theorem e_impl_lane_busiest (p0 : Option Addr) (p1 : Int) (level : Int) {w : World} {R : Value → World → Prop} (hvc : V_impl_lane_busiest p0 p1 level w R) : Calls Tryz.prog fn_impl_lane_busiest #[.agg #[.pointer p0, .int .i64 p1], .int .i64 level] w fun e0 wr0 => ∃ v0, e0 = .returned v0 ∧ R v0 wr0 :=
  eff_of_ev (C := c_impl_lane_busiest) (sps := s_impl_lane_busiest) (body := bodyOf Tryz.f72) (env _ _ _ _) Tryz.func72 rfl rfl (of_decide_eq_true (by kernel_rfl)) (of_decide_eq_true (by kernel_rfl)) rfl (by rw [v_impl_lane_busiest]; exact hvc)
noncomputable def c_impl_CpuBusiest : Cfg := { P := Tryz.prog, T := tblGet tbl, pf := pfT, ef := efT, tt := ttT, vis := [3], n := 38, pm := false, wr := false }
noncomputable def s_impl_CpuBusiest : List (Nat × LSpec) := []
def V_impl_CpuBusiest (w0 : Int) (w1O : Option Addr) (w1L : Nat) (w1C : Nat) (w2O : Option Addr) (w2L : Nat) (w2C : Nat) (w3O : Option Addr) (w3L : Nat) (w3C : Nat) (cpu : Int) (level : Int) (w : World) (R : Value → World → Prop) : Prop :=
    (∀ b wb, ExtX [] w wb → w.heap.size ≤ b → wb.heap[b]? = some (Obj.cells ([.int .i64 w0, .slice w1O w1L w1C, .slice w2O w2L w2C, .slice w3O w3L w3C] : List Value).toArray ty_impl_World (0, 0)) → b ∉ ([] : List Nat) →
    (∃ (x0 : Int) (x1O : Option Addr) (x1L : Nat) (x1C : Nat) (x2O : Option Addr) (x2L : Nat) (x2C : Nat) (x3O : Option Addr) (x3L : Nat) (x3C : Nat),
    CellsX [] wb (some (Addr.mk b 0 none)) 0 [.int .i64 x0, .slice x1O x1L x1C, .slice x2O x2L x2C, .slice x3O x3L x3C] ∧
    (∃ (xWorldO : Bool),
    PureX [] Tryz.prog fn_impl_WorldOk #[.agg #[.int .i64 x0, .slice x1O x1L x1C, .slice x2O x2L x2C, .slice x3O x3L x3C]] wb (.bool xWorldO) ∧
    (∃ (cpuThe : Bool),
    ((!xWorldO) = false → PureX [] Tryz.prog fn_impl_World_cpuThere #[.pointer ((some (Addr.mk b 0 none)).map (·.add 0)), .int .i64 cpu] wb (.bool cpuThe)) ∧
    (∃ (cpusO : Option Addr) (cpusL : Nat) (cpusC : Nat),
    (((!xWorldO) || (!cpuThe)) = false → CellsX [] wb (some (Addr.mk b 0 none)) (0 + 1) [.slice cpusO cpusL cpusC]) ∧
    (((!xWorldO) || (!cpuThe)) = false → Ix cpusO cpusL cpu) ∧
    (∃ (up : Bool),
    (((!xWorldO) || (!cpuThe)) = false → CellsX [] wb cpusO (Int.toNat cpu * 5 + 0) [.bool up]) ∧
    (∃ (cpus1O : Option Addr) (cpus1L : Nat) (cpus1C : Nat),
    ((((!xWorldO) || (!cpuThe)) || (!up)) = false → CellsX [] wb (some (Addr.mk b 0 none)) (0 + 1) [.slice cpus1O cpus1L cpus1C]) ∧
    (∃ (xDomain : Int),
    ((((!xWorldO) || (!cpuThe)) || (!up)) = false → PureX [] Tryz.prog fn_impl_DomainLevels #[.int .i64 ((cpus1L : Nat) : Int)] wb (.int .i64 xDomain)) ∧
    ((((!xWorldO) || (!cpuThe)) || (!up)) = false → InR .i64 (xDomain - 1)) ∧
    (∃ (inRang : Bool),
    ((((!xWorldO) || (!cpuThe)) || (!up)) = false → PureX [] Tryz.prog fn_impl_inRange #[.int .i64 level, .int .i64 0, .int .i64 (xDomain - 1)] wb (.bool inRang)) ∧
    (((((!xWorldO) || (!cpuThe)) || (!up)) || (!inRang)) = true →
    (∀ wr, ExtX [] wb wr → R (.int .i64 (-1)) wr)) ∧
    (((((!xWorldO) || (!cpuThe)) || (!up)) || (!inRang)) = false →
    (∃ (lane : Option Addr) (lane1 : Int),
    PureX [] Tryz.prog fn_impl_World_lane #[.pointer ((some (Addr.mk b 0 none)).map (·.add 0)), .int .i64 cpu] wb (.agg #[.pointer lane, .int .i64 lane1]) ∧
    (∃ (busies : Int),
    PureX [] Tryz.prog fn_impl_lane_busiest #[.agg #[.pointer lane, .int .i64 lane1], .int .i64 level] wb (.int .i64 busies) ∧
    (∀ wr1, ExtX [] wb wr1 → R (.int .i64 busies) wr1)))))))))))))
theorem v_impl_CpuBusiest (w0 : Int) (w1O : Option Addr) (w1L : Nat) (w1C : Nat) (w2O : Option Addr) (w2L : Nat) (w2C : Nat) (w3O : Option Addr) (w3L : Nat) (w3C : Nat) (cpu : Int) (level : Int) (w : World) (R : Value → World → Prop) : evFn c_impl_CpuBusiest s_impl_CpuBusiest [.agg #[.int .i64 w0, .slice w1O w1L w1C, .slice w2O w2L w2C, .slice w3O w3L w3C], .int .i64 cpu, .int .i64 level] (bodyOf Tryz.f26) Tryz.f26.results.toList w R = V_impl_CpuBusiest w0 w1O w1L w1C w2O w2L w2C w3O w3L w3C cpu level w R := by kernel_rfl
theorem e_impl_CpuBusiest (w0 : Int) (w1O : Option Addr) (w1L : Nat) (w1C : Nat) (w2O : Option Addr) (w2L : Nat) (w2C : Nat) (w3O : Option Addr) (w3L : Nat) (w3C : Nat) (cpu : Int) (level : Int) {w : World} {R : Value → World → Prop} (hvc : V_impl_CpuBusiest w0 w1O w1L w1C w2O w2L w2C w3O w3L w3C cpu level w R) : Calls Tryz.prog fn_impl_CpuBusiest #[.agg #[.int .i64 w0, .slice w1O w1L w1C, .slice w2O w2L w2C, .slice w3O w3L w3C], .int .i64 cpu, .int .i64 level] w fun e0 wr0 => ∃ v0, e0 = .returned v0 ∧ R v0 wr0 :=
  eff_of_ev (C := c_impl_CpuBusiest) (sps := s_impl_CpuBusiest) (body := bodyOf Tryz.f26) (env _ _ _ _) Tryz.func26 rfl rfl (of_decide_eq_true (by kernel_rfl)) (of_decide_eq_true (by kernel_rfl)) rfl (by rw [v_impl_CpuBusiest]; exact hvc)
noncomputable def c_laws_FnExactCpuBusiest : Cfg := { P := Tryz.prog, T := tblGet tbl, pf := pfT, ef := efT, tt := ttT, vis := [], n := 35, pm := false, wr := false }
noncomputable def s_laws_FnExactCpuBusiest : List (Nat × LSpec) := []
def V_laws_FnExactCpuBusiest (aW0 : Int) (aW1O : Option Addr) (aW1L : Nat) (aW1C : Nat) (aW2O : Option Addr) (aW2L : Nat) (aW2C : Nat) (aW3O : Option Addr) (aW3L : Nat) (aW3C : Nat) (aCpu : Int) (aLevel : Int) (w : World) (R : Value → World → Prop) : Prop :=
    (∀ b, w.heap.size ≤ b →
    (∃ (szWorl : Int),
    PureX [] Tryz.prog fn_laws_szWorld #[.agg #[.int .i64 aW0, .slice aW1O aW1L aW1C, .slice aW2O aW2L aW2C, .slice aW3O aW3L aW3C], .int .i64 1048576] w (.int .i64 szWorl) ∧
    ((decide (szWorl < 0)) = true →
    (∀ wr, ExtX [] w wr → R (.bool true) wr)) ∧
    ((decide (szWorl < 0)) = false →
    (∀ wr1, ExtX [] w wr1 → (∀ bq ∈ ([b] : List Nat), bq < wr1.heap.size) → 
    Calls Tryz.prog fn_laws_toWorld #[.agg #[.int .i64 aW0, .slice aW1O aW1L aW1C, .slice aW2O aW2L aW2C, .slice aW3O aW3L aW3C]] wr1 fun e wv =>
    (∃ (toWorl : Int) (toWorl1O : Option Addr) (toWorl1L : Nat) (toWorl1C : Nat) (toWorl2O : Option Addr) (toWorl2L : Nat) (toWorl2C : Nat) (toWorl3O : Option Addr) (toWorl3L : Nat) (toWorl3C : Nat),
    e = .returned (.agg #[.int .i64 toWorl, .slice toWorl1O toWorl1L toWorl1C, .slice toWorl2O toWorl2L toWorl2C, .slice toWorl3O toWorl3L toWorl3C]) ∧ Kept [b] wr1 wv ∧
    (∃ (xCpuBus : Int),
    PureX [b] Tryz.prog fn_spec_CpuBusiest #[.agg #[.int .i64 toWorl, .slice toWorl1O toWorl1L toWorl1C, .slice toWorl2O toWorl2L toWorl2C, .slice toWorl3O toWorl3L toWorl3C], .int .i64 aCpu, .int .i64 aLevel] wv (.int .i64 xCpuBus) ∧
    (∀ wr2, ExtX [b] wv wr2 → (∀ bq ∈ ([b] : List Nat), bq < wr2.heap.size) → 
    Calls Tryz.prog fn_laws_toWorld #[.agg #[.int .i64 aW0, .slice aW1O aW1L aW1C, .slice aW2O aW2L aW2C, .slice aW3O aW3L aW3C]] wr2 fun e1 wv1 =>
    (∃ (toWorl4 : Int) (toWorl5O : Option Addr) (toWorl5L : Nat) (toWorl5C : Nat) (toWorl6O : Option Addr) (toWorl6L : Nat) (toWorl6C : Nat) (toWorl7O : Option Addr) (toWorl7L : Nat) (toWorl7C : Nat),
    e1 = .returned (.agg #[.int .i64 toWorl4, .slice toWorl5O toWorl5L toWorl5C, .slice toWorl6O toWorl6L toWorl6C, .slice toWorl7O toWorl7L toWorl7C]) ∧ Kept [b] wr2 wv1 ∧
    (∀ b1, wv1.heap.size ≤ b1 →
    (∃ (xCpuBus1 : Int),
    PureX [b] Tryz.prog fn_impl_CpuBusiest #[.agg #[.int .i64 toWorl4, .slice toWorl5O toWorl5L toWorl5C, .slice toWorl6O toWorl6L toWorl6C, .slice toWorl7O toWorl7L toWorl7C], .int .i64 aCpu, .int .i64 aLevel] wv1 (.int .i64 xCpuBus1) ∧
    ((xCpuBus1 != xCpuBus) = true →
    (∀ wr3, ExtX [b] wv1 wr3 → R (.bool false) wr3)) ∧
    ((xCpuBus1 != xCpuBus) = false →
    (∀ wr4, ExtX [b] wv1 wr4 → (∀ bq ∈ ([b, b1] : List Nat), bq < wr4.heap.size) → 
    Calls Tryz.prog fn_laws_toWorld #[.agg #[.int .i64 aW0, .slice aW1O aW1L aW1C, .slice aW2O aW2L aW2C, .slice aW3O aW3L aW3C]] wr4 fun e2 wv2 =>
    (∃ (toWorl8 : Int) (toWorl9O : Option Addr) (toWorl9L : Nat) (toWorl9C : Nat) (toWorl10O : Option Addr) (toWorl10L : Nat) (toWorl10C : Nat) (toWorl11O : Option Addr) (toWorl11L : Nat) (toWorl11C : Nat),
    e2 = .returned (.agg #[.int .i64 toWorl8, .slice toWorl9O toWorl9L toWorl9C, .slice toWorl10O toWorl10L toWorl10C, .slice toWorl11O toWorl11L toWorl11C]) ∧ Kept [b, b1] wr4 wv2 ∧
    (some (ty_impl_World, ([.int .i64 toWorl4, .slice toWorl5O toWorl5L toWorl5C, .slice toWorl6O toWorl6L toWorl6C, .slice toWorl7O toWorl7L toWorl7C] : List Value)) = some (ty_impl_World, ([.int .i64 toWorl4, .slice toWorl5O toWorl5L toWorl5C, .slice toWorl6O toWorl6L toWorl6C, .slice toWorl7O toWorl7L toWorl7C] : List Value))) ∧
    (∃ (eqWorl : Bool),
    PureX [b, b1] Tryz.prog fn_laws_eqWorld #[.agg #[.int .i64 toWorl4, .slice toWorl5O toWorl5L toWorl5C, .slice toWorl6O toWorl6L toWorl6C, .slice toWorl7O toWorl7L toWorl7C], .agg #[.int .i64 toWorl8, .slice toWorl9O toWorl9L toWorl9C, .slice toWorl10O toWorl10L toWorl10C, .slice toWorl11O toWorl11L toWorl11C]] wv2 (.bool eqWorl) ∧
    ((!eqWorl) = true →
    (∀ wr5, ExtX [b, b1] wv2 wr5 → R (.bool false) wr5)) ∧
    ((!eqWorl) = false →
    (∀ wr6, ExtX [b, b1] wv2 wr6 → R (.bool true) wr6))))))))))))))))
theorem v_laws_FnExactCpuBusiest (aW0 : Int) (aW1O : Option Addr) (aW1L : Nat) (aW1C : Nat) (aW2O : Option Addr) (aW2L : Nat) (aW2C : Nat) (aW3O : Option Addr) (aW3L : Nat) (aW3C : Nat) (aCpu : Int) (aLevel : Int) (w : World) (R : Value → World → Prop) : evFn c_laws_FnExactCpuBusiest s_laws_FnExactCpuBusiest [.agg #[.int .i64 aW0, .slice aW1O aW1L aW1C, .slice aW2O aW2L aW2C, .slice aW3O aW3L aW3C], .int .i64 aCpu, .int .i64 aLevel] (bodyOf Tryz.f8) Tryz.f8.results.toList w R = V_laws_FnExactCpuBusiest aW0 aW1O aW1L aW1C aW2O aW2L aW2C aW3O aW3L aW3C aCpu aLevel w R := by kernel_rfl
theorem e_laws_FnExactCpuBusiest (aW0 : Int) (aW1O : Option Addr) (aW1L : Nat) (aW1C : Nat) (aW2O : Option Addr) (aW2L : Nat) (aW2C : Nat) (aW3O : Option Addr) (aW3L : Nat) (aW3C : Nat) (aCpu : Int) (aLevel : Int) {w : World} {R : Value → World → Prop} (hvc : V_laws_FnExactCpuBusiest aW0 aW1O aW1L aW1C aW2O aW2L aW2C aW3O aW3L aW3C aCpu aLevel w R) : Calls Tryz.prog fn_laws_FnExactCpuBusiest #[.agg #[.int .i64 aW0, .slice aW1O aW1L aW1C, .slice aW2O aW2L aW2C, .slice aW3O aW3L aW3C], .int .i64 aCpu, .int .i64 aLevel] w fun e0 wr0 => ∃ v0, e0 = .returned v0 ∧ R v0 wr0 :=
  eff_of_ev (C := c_laws_FnExactCpuBusiest) (sps := s_laws_FnExactCpuBusiest) (body := bodyOf Tryz.f8) (env _ _ _ _) Tryz.func8 rfl rfl (of_decide_eq_true (by kernel_rfl)) (of_decide_eq_true (by kernel_rfl)) rfl (by rw [v_laws_FnExactCpuBusiest]; exact hvc)
noncomputable def c_spec_l12Fits : Cfg := { P := Tryz.prog, T := tblGet tbl, pf := pfT, ef := efT, tt := ttT, vis := [], n := 34, pm := true, wr := false }
noncomputable def s_spec_l12Fits : List (Nat × LSpec) := []
def V_spec_l12Fits (w0 : Int) (w1O : Option Addr) (w1L : Nat) (w1C : Nat) (w2O : Option Addr) (w2L : Nat) (w2C : Nat) (w3O : Option Addr) (w3L : Nat) (w3C : Nat) (t : Int) (fromv : Int) (tov : Int) (w : World) (R : Value → World → Prop) : Prop :=
    (∀ b, w.heap.size ≤ b →
    (∃ (l12Loa : Int),
    PureX [] Tryz.prog fn_spec_l12Load #[.agg #[.int .i64 w0, .slice w1O w1L w1C, .slice w2O w2L w2C, .slice w3O w3L w3C], .int .i64 tov] w (.int .i64 l12Loa) ∧
    Ix w2O w2L t ∧
    (∃ (nice : Int),
    CellsX [] w w2O (Int.toNat t * 9 + 3) [.int .i64 nice] ∧
    (∃ (xWeight : Int),
    PureX [] Tryz.prog fn_spec_WeightOf #[.int .i64 nice] w (.int .i64 xWeight) ∧
    ((l12Loa == 0) = false → InR .i64 (l12Loa + xWeight)) ∧
    (∃ (l12Loa1 : Int),
    ((l12Loa == 0) = false → PureX [] Tryz.prog fn_spec_l12Load #[.agg #[.int .i64 w0, .slice w1O w1L w1C, .slice w2O w2L w2C, .slice w3O w3L w3C], .int .i64 fromv] w (.int .i64 l12Loa1)) ∧
    ((l12Loa == 0) = false → InR .i64 (l12Loa1 - xWeight)) ∧
    R (.bool ((l12Loa == 0) || (decide (l12Loa + xWeight ≤ l12Loa1 - xWeight)))) w)))))
theorem v_spec_l12Fits (w0 : Int) (w1O : Option Addr) (w1L : Nat) (w1C : Nat) (w2O : Option Addr) (w2L : Nat) (w2C : Nat) (w3O : Option Addr) (w3L : Nat) (w3C : Nat) (t : Int) (fromv : Int) (tov : Int) (w : World) (R : Value → World → Prop) : evFn c_spec_l12Fits s_spec_l12Fits [.agg #[.int .i64 w0, .slice w1O w1L w1C, .slice w2O w2L w2C, .slice w3O w3L w3C], .int .i64 t, .int .i64 fromv, .int .i64 tov] (bodyOf Tryz.f121) Tryz.f121.results.toList w R = V_spec_l12Fits w0 w1O w1L w1C w2O w2L w2C w3O w3L w3C t fromv tov w R := by kernel_rfl
theorem p_spec_l12Fits (w0 : Int) (w1O : Option Addr) (w1L : Nat) (w1C : Nat) (w2O : Option Addr) (w2L : Nat) (w2C : Nat) (w3O : Option Addr) (w3L : Nat) (w3C : Nat) (t : Int) (fromv : Int) (tov : Int) {w : World} {bs : List Nat} {ret : Value} (hvc : ∀ wr0, ExtX bs w wr0 → V_spec_l12Fits w0 w1O w1L w1C w2O w2L w2C w3O w3L w3C t fromv tov wr0 fun v0 _ => v0 = ret) : PureX bs Tryz.prog fn_spec_l12Fits #[.agg #[.int .i64 w0, .slice w1O w1L w1C, .slice w2O w2L w2C, .slice w3O w3L w3C], .int .i64 t, .int .i64 fromv, .int .i64 tov] w ret :=
  pure_of_ev (C := c_spec_l12Fits) (sps := s_spec_l12Fits) (body := bodyOf Tryz.f121) (env _ _ _ _) Tryz.func121 rfl rfl (of_decide_eq_true (by kernel_rfl)) (of_decide_eq_true (by kernel_rfl)) rfl fun wr0 hx0 => by rw [v_spec_l12Fits]; exact hvc wr0 hx0
noncomputable def c_spec_l12Pull : Cfg := { P := Tryz.prog, T := tblGet tbl, pf := pfT, ef := efT, tt := ttT, vis := [], n := 56, pm := true, wr := false }
noncomputable def s_spec_l12Pull : List (Nat × LSpec) := [(2, { chg := [(5, .int .i64)], chgL := [], keep := [1, 2] }), (7, { chg := [(7, .int .i64)], chgL := [], keep := [1, 2, 5, 6] })]
def V_spec_l12Pull (w0 : Int) (w1O : Option Addr) (w1L : Nat) (w1C : Nat) (w2O : Option Addr) (w2L : Nat) (w2C : Nat) (w3O : Option Addr) (w3L : Nat) (w3C : Nat) (c : Int) (w : World) (R : Value → World → Prop) : Prop :=
    (∀ b, w.heap.size ≤ b →
    (∃ (xInv : List Value → Prop) (mu : List Value → Nat), xInv [.int .i64 0] ∧
    ∀ (k : Int), xInv [.int .i64 k] →
    (∃ (xDomain : Int),
    PureX [] Tryz.prog fn_spec_DomainLevels #[.int .i64 ((w1L : Nat) : Int)] w (.int .i64 xDomain) ∧
    ((decide (k < xDomain)) = true →
    (∃ (xDomain1 : Int),
    PureX [] Tryz.prog fn_spec_DomainSpan #[.int .i64 ((w1L : Nat) : Int), .int .i64 c, .int .i64 k] w (.int .i64 xDomain1) ∧
    (∃ (l12Bus : Int),
    PureX [] Tryz.prog fn_spec_l12Busiest #[.agg #[.int .i64 w0, .slice w1O w1L w1C, .slice w2O w2L w2C, .slice w3O w3L w3C], .int .i64 xDomain1, .int .i64 c] w (.int .i64 l12Bus) ∧
    ((decide (l12Bus < 0)) = true →
    InR .i64 (k + 1) ∧
    xInv [.int .i64 (k + 1)] ∧ mu [.int .i64 (k + 1)] < mu [.int .i64 k]) ∧
    ((decide (l12Bus < 0)) = false →
    (∃ (xInv1 : List Value → Prop) (mu1 : List Value → Nat), xInv1 [.int .i64 0] ∧
    ∀ (t : Int), xInv1 [.int .i64 t] →
    ((decide (t < ((w2L : Nat) : Int))) = true →
    Ix w2O w2L t ∧
    (∃ (cpu : Int),
    CellsX [] w w2O (Int.toNat t * 9 + 2) [.int .i64 cpu] ∧
    (∃ (l12Cou : Bool),
    ((cpu == l12Bus) = true → PureX [] Tryz.prog fn_spec_l12Could #[.agg #[.int .i64 w0, .slice w1O w1L w1C, .slice w2O w2L w2C, .slice w3O w3L w3C], .int .i64 t, .int .i64 c] w (.bool l12Cou)) ∧
    (∃ (l12Fit : Bool),
    (((cpu == l12Bus) && l12Cou) = true → PureX [] Tryz.prog fn_spec_l12Fits #[.agg #[.int .i64 w0, .slice w1O w1L w1C, .slice w2O w2L w2C, .slice w3O w3L w3C], .int .i64 t, .int .i64 l12Bus, .int .i64 c] w (.bool l12Fit)) ∧
    ((((cpu == l12Bus) && l12Cou) && l12Fit) = true →
    R (.int .i64 t) w) ∧
    ((((cpu == l12Bus) && l12Cou) && l12Fit) = false →
    InR .i64 (t + 1) ∧
    xInv1 [.int .i64 (t + 1)] ∧ mu1 [.int .i64 (t + 1)] < mu1 [.int .i64 t]))))) ∧
    ((decide (t < ((w2L : Nat) : Int))) = false →
    InR .i64 (k + 1) ∧
    xInv [.int .i64 (k + 1)] ∧ mu [.int .i64 (k + 1)] < mu [.int .i64 k])))))) ∧
    ((decide (k < xDomain)) = false →
    R (.int .i64 (-1)) w))))
theorem v_spec_l12Pull (w0 : Int) (w1O : Option Addr) (w1L : Nat) (w1C : Nat) (w2O : Option Addr) (w2L : Nat) (w2C : Nat) (w3O : Option Addr) (w3L : Nat) (w3C : Nat) (c : Int) (w : World) (R : Value → World → Prop) : evFn c_spec_l12Pull s_spec_l12Pull [.agg #[.int .i64 w0, .slice w1O w1L w1C, .slice w2O w2L w2C, .slice w3O w3L w3C], .int .i64 c] (bodyOf Tryz.f73) Tryz.f73.results.toList w R = V_spec_l12Pull w0 w1O w1L w1C w2O w2L w2C w3O w3L w3C c w R := by kernel_rfl
theorem p_spec_l12Pull (w0 : Int) (w1O : Option Addr) (w1L : Nat) (w1C : Nat) (w2O : Option Addr) (w2L : Nat) (w2C : Nat) (w3O : Option Addr) (w3L : Nat) (w3C : Nat) (c : Int) {w : World} {bs : List Nat} {ret : Value} (hvc : ∀ wr0, ExtX bs w wr0 → V_spec_l12Pull w0 w1O w1L w1C w2O w2L w2C w3O w3L w3C c wr0 fun v0 _ => v0 = ret) : PureX bs Tryz.prog fn_spec_l12Pull #[.agg #[.int .i64 w0, .slice w1O w1L w1C, .slice w2O w2L w2C, .slice w3O w3L w3C], .int .i64 c] w ret :=
  pure_of_ev (C := c_spec_l12Pull) (sps := s_spec_l12Pull) (body := bodyOf Tryz.f73) (env _ _ _ _) Tryz.func73 rfl rfl (of_decide_eq_true (by kernel_rfl)) (of_decide_eq_true (by kernel_rfl)) rfl fun wr0 hx0 => by rw [v_spec_l12Pull]; exact hvc wr0 hx0
noncomputable def c_spec_CpuPull : Cfg := { P := Tryz.prog, T := tblGet tbl, pf := pfT, ef := efT, tt := ttT, vis := [], n := 22, pm := true, wr := false }
noncomputable def s_spec_CpuPull : List (Nat × LSpec) := []
def V_spec_CpuPull (w0 : Int) (w1O : Option Addr) (w1L : Nat) (w1C : Nat) (w2O : Option Addr) (w2L : Nat) (w2C : Nat) (w3O : Option Addr) (w3L : Nat) (w3C : Nat) (cpu : Int) (w : World) (R : Value → World → Prop) : Prop :=
    (∀ b, w.heap.size ≤ b →
    (∃ (xWorldO : Bool),
    PureX [] Tryz.prog fn_spec_WorldOk #[.agg #[.int .i64 w0, .slice w1O w1L w1C, .slice w2O w2L w2C, .slice w3O w3L w3C]] w (.bool xWorldO) ∧
    (∃ (l9Up : Bool),
    ((!xWorldO) = false → PureX [] Tryz.prog fn_spec_l9Up #[.agg #[.int .i64 w0, .slice w1O w1L w1C, .slice w2O w2L w2C, .slice w3O w3L w3C], .int .i64 cpu] w (.bool l9Up)) ∧
    (((!xWorldO) || (!l9Up)) = true →
    R (.tuple #[.int .i64 0, .bool false]) w) ∧
    (((!xWorldO) || (!l9Up)) = false →
    (∃ (l12Pul : Int),
    PureX [] Tryz.prog fn_spec_l12Pull #[.agg #[.int .i64 w0, .slice w1O w1L w1C, .slice w2O w2L w2C, .slice w3O w3L w3C], .int .i64 cpu] w (.int .i64 l12Pul) ∧
    ((decide (l12Pul < 0)) = true →
    R (.tuple #[.int .i64 0, .bool false]) w) ∧
    ((decide (l12Pul < 0)) = false →
    R (.tuple #[.int .i64 l12Pul, .bool true]) w))))))
theorem v_spec_CpuPull (w0 : Int) (w1O : Option Addr) (w1L : Nat) (w1C : Nat) (w2O : Option Addr) (w2L : Nat) (w2C : Nat) (w3O : Option Addr) (w3L : Nat) (w3C : Nat) (cpu : Int) (w : World) (R : Value → World → Prop) : evFn c_spec_CpuPull s_spec_CpuPull [.agg #[.int .i64 w0, .slice w1O w1L w1C, .slice w2O w2L w2C, .slice w3O w3L w3C], .int .i64 cpu] (bodyOf Tryz.f27) Tryz.f27.results.toList w R = V_spec_CpuPull w0 w1O w1L w1C w2O w2L w2C w3O w3L w3C cpu w R := by kernel_rfl
theorem p_spec_CpuPull (w0 : Int) (w1O : Option Addr) (w1L : Nat) (w1C : Nat) (w2O : Option Addr) (w2L : Nat) (w2C : Nat) (w3O : Option Addr) (w3L : Nat) (w3C : Nat) (cpu : Int) {w : World} {bs : List Nat} {ret : Value} (hvc : ∀ wr0, ExtX bs w wr0 → V_spec_CpuPull w0 w1O w1L w1C w2O w2L w2C w3O w3L w3C cpu wr0 fun v0 _ => v0 = ret) : PureX bs Tryz.prog fn_spec_CpuPull #[.agg #[.int .i64 w0, .slice w1O w1L w1C, .slice w2O w2L w2C, .slice w3O w3L w3C], .int .i64 cpu] w ret :=
  pure_of_ev (C := c_spec_CpuPull) (sps := s_spec_CpuPull) (body := bodyOf Tryz.f27) (env _ _ _ _) Tryz.func27 rfl rfl (of_decide_eq_true (by kernel_rfl)) (of_decide_eq_true (by kernel_rfl)) rfl fun wr0 hx0 => by rw [v_spec_CpuPull]; exact hvc wr0 hx0
noncomputable def c_impl_lane_couldRun : Cfg := { P := Tryz.prog, T := tblGet tbl, pf := pfT, ef := efT, tt := ttT, vis := [], n := 70, pm := true, wr := false }
noncomputable def s_impl_lane_couldRun : List (Nat × LSpec) := [(8, { chg := [(7, .int .i64)], chgL := [], keep := [2] })]
def V_impl_lane_couldRun (p0 : Option Addr) (p1 : Int) (task : Int) (w : World) (R : Value → World → Prop) : Prop :=
    (∀ b, w.heap.size ≤ b →
    p0.isSome = true ∧
    (∃ (tasksO : Option Addr) (tasksL : Nat) (tasksC : Nat),
    CellsX [] w p0 (0 + 2) [.slice tasksO tasksL tasksC] ∧
    Ix tasksO tasksL task ∧
    (∃ (x0 : Int) (x1 : Int) (x2 : Int) (x3 : Int) (x4 : Int) (x5 : Int) (x6 : Int) (x7 : Int) (x8 : Int),
    CellsX [] w tasksO (Int.toNat task * 9) [.int .i64 x0, .int .i64 x1, .int .i64 x2, .int .i64 x3, .int .i64 x4, .int .i64 x5, .int .i64 x6, .int .i64 x7, .int .i64 x8] ∧
    (∀ b1, w.heap.size ≤ b1 →
    (((x0 != 1) || (x2 == p1)) = true →
    R (.bool false) w) ∧
    (((x0 != 1) || (x2 == p1)) = false →
    (∃ (lane : Option Addr) (lane1 : Int),
    PureX [] Tryz.prog fn_impl_World_lane #[.pointer p0, .int .i64 x2] w (.agg #[.pointer lane, .int .i64 lane1]) ∧
    (∀ b2, w.heap.size ≤ b2 →
    (∃ (inLine : Bool),
    PureX [] Tryz.prog fn_impl_lane_inLine #[.agg #[.pointer lane, .int .i64 lane1], .int .i64 task] w (.bool inLine) ∧
    (∃ (cpu : Option Addr),
    ((!inLine) = false → PureX [] Tryz.prog fn_impl_lane_cpu #[.agg #[.pointer lane, .int .i64 lane1]] w (.pointer cpu)) ∧
    ((!inLine) = false → cpu.isSome = true) ∧
    (∃ (cur : Int),
    ((!inLine) = false → CellsX [] w cpu (0 + 1) [.int .i64 cur]) ∧
    (∃ (allowe : Int),
    (((!inLine) || (cur == task)) = false → PureX [] Tryz.prog fn_impl_World_allowed #[.pointer p0, .int .i64 task] w (.int .i64 allowe)) ∧
    (∃ (xMaskHa : Bool),
    (((!inLine) || (cur == task)) = false → PureX [] Tryz.prog fn_impl_MaskHas #[.int .i64 allowe, .int .i64 p1] w (.bool xMaskHa)) ∧
    ((((!inLine) || (cur == task)) || (!xMaskHa)) = true →
    R (.bool false) w) ∧
    ((((!inLine) || (cur == task)) || (!xMaskHa)) = false →
    (∃ (xInv : List Value → Prop) (mu : List Value → Nat), xInv [.int .i64 x1] ∧
    ∀ (g : Int), xInv [.int .i64 g] →
    ((g != (-1)) = true →
    (∃ (dry : Bool),
    PureX [] Tryz.prog fn_impl_lane_dry #[.agg #[.pointer p0, .int .i64 p1], .int .i64 g] w (.bool dry) ∧
    (dry = true →
    R (.bool false) w) ∧
    (dry = false →
    p0.isSome = true ∧
    (∃ (groupsO : Option Addr) (groupsL : Nat) (groupsC : Nat),
    CellsX [] w p0 (0 + 3) [.slice groupsO groupsL groupsC] ∧
    Ix groupsO groupsL g ∧
    (∃ (parent : Int),
    CellsX [] w groupsO (Int.toNat g * 14 + 1) [.int .i64 parent] ∧
    xInv [.int .i64 parent] ∧ mu [.int .i64 parent] < mu [.int .i64 g]))))) ∧
    ((g != (-1)) = false →
    R (.bool true) w)))))))))))))))
theorem v_impl_lane_couldRun (p0 : Option Addr) (p1 : Int) (task : Int) (w : World) (R : Value → World → Prop) : evFn c_impl_lane_couldRun s_impl_lane_couldRun [.agg #[.pointer p0, .int .i64 p1], .int .i64 task] (bodyOf Tryz.f118) Tryz.f118.results.toList w R = V_impl_lane_couldRun p0 p1 task w R := by kernel_rfl
theorem p_impl_lane_couldRun (p0 : Option Addr) (p1 : Int) (task : Int) {w : World} {bs : List Nat} {ret : Value} (hvc : ∀ wr0, ExtX bs w wr0 → V_impl_lane_couldRun p0 p1 task wr0 fun v0 _ => v0 = ret) : PureX bs Tryz.prog fn_impl_lane_couldRun #[.agg #[.pointer p0, .int .i64 p1], .int .i64 task] w ret :=
  pure_of_ev (C := c_impl_lane_couldRun) (sps := s_impl_lane_couldRun) (body := bodyOf Tryz.f118) (env _ _ _ _) Tryz.func118 rfl rfl (of_decide_eq_true (by kernel_rfl)) (of_decide_eq_true (by kernel_rfl)) rfl fun wr0 hx0 => by rw [v_impl_lane_couldRun]; exact hvc wr0 hx0
noncomputable def c_impl_lane_pull : Cfg := { P := Tryz.prog, T := tblGet tbl, pf := pfT, ef := efT, tt := ttT, vis := [], n := 72, pm := true, wr := false }
noncomputable def s_impl_lane_pull : List (Nat × LSpec) := [(3, { chg := [(20, .int .i64)], chgL := [], keep := [1, 4, 19] }), (9, { chg := [(39, .int .i64)], chgL := [], keep := [1, 4, 6, 7, 19, 20, 37, 38] })]
def V_impl_lane_pull (p0 : Option Addr) (p1 : Int) (w : World) (R : Value → World → Prop) : Prop :=
    (∀ b, w.heap.size ≤ b →
    (∃ (load : Int),
    PureX [] Tryz.prog fn_impl_lane_load #[.agg #[.pointer p0, .int .i64 p1]] w (.int .i64 load) ∧
    p0.isSome = true ∧
    (∃ (cpusO : Option Addr) (cpusL : Nat) (cpusC : Nat),
    CellsX [] w p0 (0 + 1) [.slice cpusO cpusL cpusC] ∧
    (∃ (xDomain : Int),
    PureX [] Tryz.prog fn_impl_DomainLevels #[.int .i64 ((cpusL : Nat) : Int)] w (.int .i64 xDomain) ∧
    (∃ (xInv : List Value → Prop) (mu : List Value → Nat), xInv [.int .i64 0] ∧
    ∀ (x : Int), xInv [.int .i64 x] →
    ((decide (x < xDomain)) = true →
    (∃ (busies : Int),
    PureX [] Tryz.prog fn_impl_lane_busiest #[.agg #[.pointer p0, .int .i64 p1], .int .i64 x] w (.int .i64 busies) ∧
    ((decide (busies < 0)) = true →
    InR .i64 (x + 1) ∧
    xInv [.int .i64 (x + 1)] ∧ mu [.int .i64 (x + 1)] < mu [.int .i64 x]) ∧
    ((decide (busies < 0)) = false →
    (∃ (lane : Option Addr) (lane1 : Int),
    PureX [] Tryz.prog fn_impl_World_lane #[.pointer p0, .int .i64 busies] w (.agg #[.pointer lane, .int .i64 lane1]) ∧
    (∃ (load1 : Int),
    PureX [] Tryz.prog fn_impl_lane_load #[.agg #[.pointer lane, .int .i64 lane1]] w (.int .i64 load1) ∧
    p0.isSome = true ∧
    (∃ (tasksO : Option Addr) (tasksL : Nat) (tasksC : Nat),
    CellsX [] w p0 (0 + 2) [.slice tasksO tasksL tasksC] ∧
    (∃ (xInv1 : List Value → Prop) (mu1 : List Value → Nat), xInv1 [.int .i64 0] ∧
    ∀ (x1 : Int), xInv1 [.int .i64 x1] →
    ((decide (x1 < ((tasksL : Nat) : Int))) = true →
    Ix tasksO tasksL x1 ∧
    (∃ (x0 : Int) (x11 : Int) (x2 : Int) (x3 : Int) (x4 : Int) (x5 : Int) (x6 : Int) (x7 : Int) (x8 : Int),
    CellsX [] w tasksO (Int.toNat x1 * 9) [.int .i64 x0, .int .i64 x11, .int .i64 x2, .int .i64 x3, .int .i64 x4, .int .i64 x5, .int .i64 x6, .int .i64 x7, .int .i64 x8] ∧
    (∀ b1, w.heap.size ≤ b1 →
    (∃ (couldR : Bool),
    ((x2 != busies) = false → PureX [] Tryz.prog fn_impl_lane_couldRun #[.agg #[.pointer p0, .int .i64 p1], .int .i64 x1] w (.bool couldR)) ∧
    (((x2 != busies) || (!couldR)) = true →
    InR .i64 (x1 + 1) ∧
    xInv1 [.int .i64 (x1 + 1)] ∧ mu1 [.int .i64 (x1 + 1)] < mu1 [.int .i64 x1]) ∧
    (((x2 != busies) || (!couldR)) = false →
    (∃ (weight : Int),
    PureX [] Tryz.prog fn_impl_World_weight #[.pointer p0, .int .i64 x1] w (.int .i64 weight) ∧
    ((load == 0) = false → InR .i64 (load + weight)) ∧
    ((load == 0) = false → InR .i64 (load1 - weight)) ∧
    (((load == 0) || (decide (load + weight ≤ load1 - weight))) = true →
    R (.tuple #[.int .i64 x1, .bool true]) w) ∧
    (((load == 0) || (decide (load + weight ≤ load1 - weight))) = false →
    InR .i64 (x1 + 1) ∧
    xInv1 [.int .i64 (x1 + 1)] ∧ mu1 [.int .i64 (x1 + 1)] < mu1 [.int .i64 x1]))))))) ∧
    ((decide (x1 < ((tasksL : Nat) : Int))) = false →
    InR .i64 (x + 1) ∧
    xInv [.int .i64 (x + 1)] ∧ mu [.int .i64 (x + 1)] < mu [.int .i64 x])))))))) ∧
    ((decide (x < xDomain)) = false →
    R (.tuple #[.int .i64 0, .bool false]) w))))))
theorem v_impl_lane_pull (p0 : Option Addr) (p1 : Int) (w : World) (R : Value → World → Prop) : evFn c_impl_lane_pull s_impl_lane_pull [.agg #[.pointer p0, .int .i64 p1]] (bodyOf Tryz.f74) Tryz.f74.results.toList w R = V_impl_lane_pull p0 p1 w R := by kernel_rfl
theorem p_impl_lane_pull (p0 : Option Addr) (p1 : Int) {w : World} {bs : List Nat} {ret : Value} (hvc : ∀ wr0, ExtX bs w wr0 → V_impl_lane_pull p0 p1 wr0 fun v0 _ => v0 = ret) : PureX bs Tryz.prog fn_impl_lane_pull #[.agg #[.pointer p0, .int .i64 p1]] w ret :=
  pure_of_ev (C := c_impl_lane_pull) (sps := s_impl_lane_pull) (body := bodyOf Tryz.f74) (env _ _ _ _) Tryz.func74 rfl rfl (of_decide_eq_true (by kernel_rfl)) (of_decide_eq_true (by kernel_rfl)) rfl fun wr0 hx0 => by rw [v_impl_lane_pull]; exact hvc wr0 hx0
noncomputable def c_impl_CpuPull : Cfg := { P := Tryz.prog, T := tblGet tbl, pf := pfT, ef := efT, tt := ttT, vis := [2], n := 28, pm := false, wr := false }
noncomputable def s_impl_CpuPull : List (Nat × LSpec) := []
def V_impl_CpuPull (w0 : Int) (w1O : Option Addr) (w1L : Nat) (w1C : Nat) (w2O : Option Addr) (w2L : Nat) (w2C : Nat) (w3O : Option Addr) (w3L : Nat) (w3C : Nat) (cpu : Int) (w : World) (R : Value → World → Prop) : Prop :=
    (∀ b wb, ExtX [] w wb → w.heap.size ≤ b → wb.heap[b]? = some (Obj.cells ([.int .i64 w0, .slice w1O w1L w1C, .slice w2O w2L w2C, .slice w3O w3L w3C] : List Value).toArray ty_impl_World (0, 0)) → b ∉ ([] : List Nat) →
    (∃ (x0 : Int) (x1O : Option Addr) (x1L : Nat) (x1C : Nat) (x2O : Option Addr) (x2L : Nat) (x2C : Nat) (x3O : Option Addr) (x3L : Nat) (x3C : Nat),
    CellsX [] wb (some (Addr.mk b 0 none)) 0 [.int .i64 x0, .slice x1O x1L x1C, .slice x2O x2L x2C, .slice x3O x3L x3C] ∧
    (∃ (xWorldO : Bool),
    PureX [] Tryz.prog fn_impl_WorldOk #[.agg #[.int .i64 x0, .slice x1O x1L x1C, .slice x2O x2L x2C, .slice x3O x3L x3C]] wb (.bool xWorldO) ∧
    (∃ (cpuThe : Bool),
    ((!xWorldO) = false → PureX [] Tryz.prog fn_impl_World_cpuThere #[.pointer ((some (Addr.mk b 0 none)).map (·.add 0)), .int .i64 cpu] wb (.bool cpuThe)) ∧
    (∃ (cpusO : Option Addr) (cpusL : Nat) (cpusC : Nat),
    (((!xWorldO) || (!cpuThe)) = false → CellsX [] wb (some (Addr.mk b 0 none)) (0 + 1) [.slice cpusO cpusL cpusC]) ∧
    (((!xWorldO) || (!cpuThe)) = false → Ix cpusO cpusL cpu) ∧
    (∃ (up : Bool),
    (((!xWorldO) || (!cpuThe)) = false → CellsX [] wb cpusO (Int.toNat cpu * 5 + 0) [.bool up]) ∧
    ((((!xWorldO) || (!cpuThe)) || (!up)) = true →
    (∀ wr, ExtX [] wb wr → R (.tuple #[.int .i64 0, .bool false]) wr)) ∧
    ((((!xWorldO) || (!cpuThe)) || (!up)) = false →
    (∃ (lane : Option Addr) (lane1 : Int),
    PureX [] Tryz.prog fn_impl_World_lane #[.pointer ((some (Addr.mk b 0 none)).map (·.add 0)), .int .i64 cpu] wb (.agg #[.pointer lane, .int .i64 lane1]) ∧
    (∃ (pull : Int) (pull1 : Bool),
    PureX [] Tryz.prog fn_impl_lane_pull #[.agg #[.pointer lane, .int .i64 lane1]] wb (.tuple #[.int .i64 pull, .bool pull1]) ∧
    (∀ wr1, ExtX [] wb wr1 → R (.tuple #[.int .i64 pull, .bool pull1]) wr1))))))))))
theorem v_impl_CpuPull (w0 : Int) (w1O : Option Addr) (w1L : Nat) (w1C : Nat) (w2O : Option Addr) (w2L : Nat) (w2C : Nat) (w3O : Option Addr) (w3L : Nat) (w3C : Nat) (cpu : Int) (w : World) (R : Value → World → Prop) : evFn c_impl_CpuPull s_impl_CpuPull [.agg #[.int .i64 w0, .slice w1O w1L w1C, .slice w2O w2L w2C, .slice w3O w3L w3C], .int .i64 cpu] (bodyOf Tryz.f28) Tryz.f28.results.toList w R = V_impl_CpuPull w0 w1O w1L w1C w2O w2L w2C w3O w3L w3C cpu w R := by kernel_rfl
theorem e_impl_CpuPull (w0 : Int) (w1O : Option Addr) (w1L : Nat) (w1C : Nat) (w2O : Option Addr) (w2L : Nat) (w2C : Nat) (w3O : Option Addr) (w3L : Nat) (w3C : Nat) (cpu : Int) {w : World} {R : Value → World → Prop} (hvc : V_impl_CpuPull w0 w1O w1L w1C w2O w2L w2C w3O w3L w3C cpu w R) : Calls Tryz.prog fn_impl_CpuPull #[.agg #[.int .i64 w0, .slice w1O w1L w1C, .slice w2O w2L w2C, .slice w3O w3L w3C], .int .i64 cpu] w fun e0 wr0 => ∃ v0, e0 = .returned v0 ∧ R v0 wr0 :=
  eff_of_ev (C := c_impl_CpuPull) (sps := s_impl_CpuPull) (body := bodyOf Tryz.f28) (env _ _ _ _) Tryz.func28 rfl rfl (of_decide_eq_true (by kernel_rfl)) (of_decide_eq_true (by kernel_rfl)) rfl (by rw [v_impl_CpuPull]; exact hvc)
noncomputable def c_laws_FnExactCpuPull : Cfg := { P := Tryz.prog, T := tblGet tbl, pf := pfT, ef := efT, tt := ttT, vis := [], n := 44, pm := false, wr := false }
noncomputable def s_laws_FnExactCpuPull : List (Nat × LSpec) := []
def V_laws_FnExactCpuPull (aW0 : Int) (aW1O : Option Addr) (aW1L : Nat) (aW1C : Nat) (aW2O : Option Addr) (aW2L : Nat) (aW2C : Nat) (aW3O : Option Addr) (aW3L : Nat) (aW3C : Nat) (aCpu : Int) (w : World) (R : Value → World → Prop) : Prop :=
    (∀ b, w.heap.size ≤ b →
    (∃ (szWorl : Int),
    PureX [] Tryz.prog fn_laws_szWorld #[.agg #[.int .i64 aW0, .slice aW1O aW1L aW1C, .slice aW2O aW2L aW2C, .slice aW3O aW3L aW3C], .int .i64 1048576] w (.int .i64 szWorl) ∧
    ((decide (szWorl < 0)) = true →
    (∀ wr, ExtX [] w wr → R (.bool true) wr)) ∧
    ((decide (szWorl < 0)) = false →
    (∀ wr1, ExtX [] w wr1 → (∀ bq ∈ ([b] : List Nat), bq < wr1.heap.size) → 
    Calls Tryz.prog fn_laws_toWorld #[.agg #[.int .i64 aW0, .slice aW1O aW1L aW1C, .slice aW2O aW2L aW2C, .slice aW3O aW3L aW3C]] wr1 fun e wv =>
    (∃ (toWorl : Int) (toWorl1O : Option Addr) (toWorl1L : Nat) (toWorl1C : Nat) (toWorl2O : Option Addr) (toWorl2L : Nat) (toWorl2C : Nat) (toWorl3O : Option Addr) (toWorl3L : Nat) (toWorl3C : Nat),
    e = .returned (.agg #[.int .i64 toWorl, .slice toWorl1O toWorl1L toWorl1C, .slice toWorl2O toWorl2L toWorl2C, .slice toWorl3O toWorl3L toWorl3C]) ∧ Kept [b] wr1 wv ∧
    (∃ (xCpuPul : Int) (xCpuPul1 : Bool),
    PureX [b] Tryz.prog fn_spec_CpuPull #[.agg #[.int .i64 toWorl, .slice toWorl1O toWorl1L toWorl1C, .slice toWorl2O toWorl2L toWorl2C, .slice toWorl3O toWorl3L toWorl3C], .int .i64 aCpu] wv (.tuple #[.int .i64 xCpuPul, .bool xCpuPul1]) ∧
    (∀ wr2, ExtX [b] wv wr2 → (∀ bq ∈ ([b] : List Nat), bq < wr2.heap.size) → 
    Calls Tryz.prog fn_laws_toWorld #[.agg #[.int .i64 aW0, .slice aW1O aW1L aW1C, .slice aW2O aW2L aW2C, .slice aW3O aW3L aW3C]] wr2 fun e1 wv1 =>
    (∃ (toWorl4 : Int) (toWorl5O : Option Addr) (toWorl5L : Nat) (toWorl5C : Nat) (toWorl6O : Option Addr) (toWorl6L : Nat) (toWorl6C : Nat) (toWorl7O : Option Addr) (toWorl7L : Nat) (toWorl7C : Nat),
    e1 = .returned (.agg #[.int .i64 toWorl4, .slice toWorl5O toWorl5L toWorl5C, .slice toWorl6O toWorl6L toWorl6C, .slice toWorl7O toWorl7L toWorl7C]) ∧ Kept [b] wr2 wv1 ∧
    (∀ b1, wv1.heap.size ≤ b1 →
    (∃ (xCpuPul2 : Int) (xCpuPul3 : Bool),
    PureX [b] Tryz.prog fn_impl_CpuPull #[.agg #[.int .i64 toWorl4, .slice toWorl5O toWorl5L toWorl5C, .slice toWorl6O toWorl6L toWorl6C, .slice toWorl7O toWorl7L toWorl7C], .int .i64 aCpu] wv1 (.tuple #[.int .i64 xCpuPul2, .bool xCpuPul3]) ∧
    (((xCpuPul2 != xCpuPul) || (!(xCpuPul3 == xCpuPul1))) = true →
    (∀ wr3, ExtX [b] wv1 wr3 → R (.bool false) wr3)) ∧
    (((xCpuPul2 != xCpuPul) || (!(xCpuPul3 == xCpuPul1))) = false →
    (∀ wr4, ExtX [b] wv1 wr4 → (∀ bq ∈ ([b, b1] : List Nat), bq < wr4.heap.size) → 
    Calls Tryz.prog fn_laws_toWorld #[.agg #[.int .i64 aW0, .slice aW1O aW1L aW1C, .slice aW2O aW2L aW2C, .slice aW3O aW3L aW3C]] wr4 fun e2 wv2 =>
    (∃ (toWorl8 : Int) (toWorl9O : Option Addr) (toWorl9L : Nat) (toWorl9C : Nat) (toWorl10O : Option Addr) (toWorl10L : Nat) (toWorl10C : Nat) (toWorl11O : Option Addr) (toWorl11L : Nat) (toWorl11C : Nat),
    e2 = .returned (.agg #[.int .i64 toWorl8, .slice toWorl9O toWorl9L toWorl9C, .slice toWorl10O toWorl10L toWorl10C, .slice toWorl11O toWorl11L toWorl11C]) ∧ Kept [b, b1] wr4 wv2 ∧
    (some (ty_impl_World, ([.int .i64 toWorl4, .slice toWorl5O toWorl5L toWorl5C, .slice toWorl6O toWorl6L toWorl6C, .slice toWorl7O toWorl7L toWorl7C] : List Value)) = some (ty_impl_World, ([.int .i64 toWorl4, .slice toWorl5O toWorl5L toWorl5C, .slice toWorl6O toWorl6L toWorl6C, .slice toWorl7O toWorl7L toWorl7C] : List Value))) ∧
    (∃ (eqWorl : Bool),
    PureX [b, b1] Tryz.prog fn_laws_eqWorld #[.agg #[.int .i64 toWorl4, .slice toWorl5O toWorl5L toWorl5C, .slice toWorl6O toWorl6L toWorl6C, .slice toWorl7O toWorl7L toWorl7C], .agg #[.int .i64 toWorl8, .slice toWorl9O toWorl9L toWorl9C, .slice toWorl10O toWorl10L toWorl10C, .slice toWorl11O toWorl11L toWorl11C]] wv2 (.bool eqWorl) ∧
    ((!eqWorl) = true →
    (∀ wr5, ExtX [b, b1] wv2 wr5 → R (.bool false) wr5)) ∧
    ((!eqWorl) = false →
    (∀ wr6, ExtX [b, b1] wv2 wr6 → R (.bool true) wr6))))))))))))))))
theorem v_laws_FnExactCpuPull (aW0 : Int) (aW1O : Option Addr) (aW1L : Nat) (aW1C : Nat) (aW2O : Option Addr) (aW2L : Nat) (aW2C : Nat) (aW3O : Option Addr) (aW3L : Nat) (aW3C : Nat) (aCpu : Int) (w : World) (R : Value → World → Prop) : evFn c_laws_FnExactCpuPull s_laws_FnExactCpuPull [.agg #[.int .i64 aW0, .slice aW1O aW1L aW1C, .slice aW2O aW2L aW2C, .slice aW3O aW3L aW3C], .int .i64 aCpu] (bodyOf Tryz.f9) Tryz.f9.results.toList w R = V_laws_FnExactCpuPull aW0 aW1O aW1L aW1C aW2O aW2L aW2C aW3O aW3L aW3C aCpu w R := by kernel_rfl
theorem e_laws_FnExactCpuPull (aW0 : Int) (aW1O : Option Addr) (aW1L : Nat) (aW1C : Nat) (aW2O : Option Addr) (aW2L : Nat) (aW2C : Nat) (aW3O : Option Addr) (aW3L : Nat) (aW3C : Nat) (aCpu : Int) {w : World} {R : Value → World → Prop} (hvc : V_laws_FnExactCpuPull aW0 aW1O aW1L aW1C aW2O aW2L aW2C aW3O aW3L aW3C aCpu w R) : Calls Tryz.prog fn_laws_FnExactCpuPull #[.agg #[.int .i64 aW0, .slice aW1O aW1L aW1C, .slice aW2O aW2L aW2C, .slice aW3O aW3L aW3C], .int .i64 aCpu] w fun e0 wr0 => ∃ v0, e0 = .returned v0 ∧ R v0 wr0 :=
  eff_of_ev (C := c_laws_FnExactCpuPull) (sps := s_laws_FnExactCpuPull) (body := bodyOf Tryz.f9) (env _ _ _ _) Tryz.func9 rfl rfl (of_decide_eq_true (by kernel_rfl)) (of_decide_eq_true (by kernel_rfl)) rfl (by rw [v_laws_FnExactCpuPull]; exact hvc)
noncomputable def c_spec_l8Least : Cfg := { P := Tryz.prog, T := tblGet tbl, pf := pfT, ef := efT, tt := ttT, vis := [], n := 111, pm := true, wr := false }
noncomputable def s_spec_l8Least : List (Nat × LSpec) := [(4, { chg := [(8, .int .i64), (9, .bool), (10, .int .i64)], chgL := [], keep := [1, 2, 3] }), (11, { chg := [(8, .int .i64), (9, .bool), (12, .int .i64)], chgL := [], keep := [1, 2, 3] })]
def V_spec_l8Least (w0 : Int) (w1O : Option Addr) (w1L : Nat) (w1C : Nat) (w2O : Option Addr) (w2L : Nat) (w2C : Nat) (w3O : Option Addr) (w3L : Nat) (w3C : Nat) (g : Int) (c : Int) (w : World) (R : Value → World → Prop) : Prop :=
    (∀ b, w.heap.size ≤ b →
    (∃ (xInv : List Value → Prop) (mu : List Value → Nat), xInv [.int .i64 0, .bool false, .int .i64 0] ∧
    ∀ (best : Int) (somev : Bool) (t : Int), xInv [.int .i64 best, .bool somev, .int .i64 t] →
    ((decide (t < ((w2L : Nat) : Int))) = true →
    Ix w2O w2L t ∧
    (∃ (x0 : Int) (x1 : Int) (x2 : Int) (x3 : Int) (x4 : Int) (x5 : Int) (x6 : Int) (x7 : Int) (x8 : Int),
    CellsX [] w w2O (Int.toNat t * 9) [.int .i64 x0, .int .i64 x1, .int .i64 x2, .int .i64 x3, .int .i64 x4, .int .i64 x5, .int .i64 x6, .int .i64 x7, .int .i64 x8] ∧
    (∀ b1, w.heap.size ≤ b1 →
    (((((x0 == 1) && (x1 == g)) && (x2 == c)) && ((!somev) || (decide (x5 < best)))) = true →
    InR .i64 (t + 1) ∧
    xInv [.int .i64 x5, .bool true, .int .i64 (t + 1)] ∧ mu [.int .i64 x5, .bool true, .int .i64 (t + 1)] < mu [.int .i64 best, .bool somev, .int .i64 t]) ∧
    (((((x0 == 1) && (x1 == g)) && (x2 == c)) && ((!somev) || (decide (x5 < best)))) = false →
    InR .i64 (t + 1) ∧
    xInv [.int .i64 best, .bool somev, .int .i64 (t + 1)] ∧ mu [.int .i64 best, .bool somev, .int .i64 (t + 1)] < mu [.int .i64 best, .bool somev, .int .i64 t])))) ∧
    ((decide (t < ((w2L : Nat) : Int))) = false →
    (∃ (xInv1 : List Value → Prop) (mu1 : List Value → Nat), xInv1 [.int .i64 best, .bool somev, .int .i64 1] ∧
    ∀ (best1 : Int) (somev1 : Bool) (h : Int), xInv1 [.int .i64 best1, .bool somev1, .int .i64 h] →
    ((decide (h < ((w3L : Nat) : Int))) = true →
    Ix w3O w3L h ∧
    (∃ (used : Bool),
    CellsX [] w w3O (Int.toNat h * 14 + 0) [.bool used] ∧
    (used = true → Ix w3O w3L h) ∧
    (∃ (parent : Int),
    (used = true → CellsX [] w w3O (Int.toNat h * 14 + 1) [.int .i64 parent]) ∧
    (∃ (l8Queu : Bool),
    ((used && (parent == g)) = true → PureX [] Tryz.prog fn_spec_l8Queued #[.agg #[.int .i64 w0, .slice w1O w1L w1C, .slice w2O w2L w2C, .slice w3O w3L w3C], .int .i64 h, .int .i64 c] w (.bool l8Queu)) ∧
    ((!somev1) = false → (((used && (parent == g)) && l8Queu) = true → Ix w3O w3L h)) ∧
    (∃ (shelvesO : Option Addr) (shelvesL : Nat) (shelvesC : Nat),
    ((!somev1) = false → (((used && (parent == g)) && l8Queu) = true → CellsX [] w w3O (Int.toNat h * 14 + 13) [.slice shelvesO shelvesL shelvesC])) ∧
    ((!somev1) = false → (((used && (parent == g)) && l8Queu) = true → Ix shelvesO shelvesL c)) ∧
    (∃ (v : Int),
    ((!somev1) = false → (((used && (parent == g)) && l8Queu) = true → CellsX [] w shelvesO (Int.toNat c * 5 + 2) [.int .i64 v])) ∧
    ((((used && (parent == g)) && l8Queu) && ((!somev1) || (decide (v < best1)))) = true →
    Ix w3O w3L h ∧
    (∃ (shelves1O : Option Addr) (shelves1L : Nat) (shelves1C : Nat),
    CellsX [] w w3O (Int.toNat h * 14 + 13) [.slice shelves1O shelves1L shelves1C] ∧
    Ix shelves1O shelves1L c ∧
    (∃ (v1 : Int),
    CellsX [] w shelves1O (Int.toNat c * 5 + 2) [.int .i64 v1] ∧
    InR .i64 (h + 1) ∧
    xInv1 [.int .i64 v1, .bool true, .int .i64 (h + 1)] ∧ mu1 [.int .i64 v1, .bool true, .int .i64 (h + 1)] < mu1 [.int .i64 best1, .bool somev1, .int .i64 h]))) ∧
    ((((used && (parent == g)) && l8Queu) && ((!somev1) || (decide (v < best1)))) = false →
    InR .i64 (h + 1) ∧
    xInv1 [.int .i64 best1, .bool somev1, .int .i64 (h + 1)] ∧ mu1 [.int .i64 best1, .bool somev1, .int .i64 (h + 1)] < mu1 [.int .i64 best1, .bool somev1, .int .i64 h]))))))) ∧
    ((decide (h < ((w3L : Nat) : Int))) = false →
    R (.tuple #[.int .i64 best1, .bool somev1]) w)))))
theorem v_spec_l8Least (w0 : Int) (w1O : Option Addr) (w1L : Nat) (w1C : Nat) (w2O : Option Addr) (w2L : Nat) (w2C : Nat) (w3O : Option Addr) (w3L : Nat) (w3C : Nat) (g : Int) (c : Int) (w : World) (R : Value → World → Prop) : evFn c_spec_l8Least s_spec_l8Least [.agg #[.int .i64 w0, .slice w1O w1L w1C, .slice w2O w2L w2C, .slice w3O w3L w3C], .int .i64 g, .int .i64 c] (bodyOf Tryz.f173) Tryz.f173.results.toList w R = V_spec_l8Least w0 w1O w1L w1C w2O w2L w2C w3O w3L w3C g c w R := by kernel_rfl
theorem p_spec_l8Least (w0 : Int) (w1O : Option Addr) (w1L : Nat) (w1C : Nat) (w2O : Option Addr) (w2L : Nat) (w2C : Nat) (w3O : Option Addr) (w3L : Nat) (w3C : Nat) (g : Int) (c : Int) {w : World} {bs : List Nat} {ret : Value} (hvc : ∀ wr0, ExtX bs w wr0 → V_spec_l8Least w0 w1O w1L w1C w2O w2L w2C w3O w3L w3C g c wr0 fun v0 _ => v0 = ret) : PureX bs Tryz.prog fn_spec_l8Least #[.agg #[.int .i64 w0, .slice w1O w1L w1C, .slice w2O w2L w2C, .slice w3O w3L w3C], .int .i64 g, .int .i64 c] w ret :=
  pure_of_ev (C := c_spec_l8Least) (sps := s_spec_l8Least) (body := bodyOf Tryz.f173) (env _ _ _ _) Tryz.func173 rfl rfl (of_decide_eq_true (by kernel_rfl)) (of_decide_eq_true (by kernel_rfl)) rfl fun wr0 hx0 => by rw [v_spec_l8Least]; exact hvc wr0 hx0
noncomputable def c_spec_l9Next : Cfg := { P := Tryz.prog, T := tblGet tbl, pf := pfT, ef := efT, tt := ttT, vis := [], n := 102, pm := true, wr := false }
noncomputable def s_spec_l9Next : List (Nat × LSpec) := [(5, { chg := [(9, .int .i64)], chgL := [], keep := [1, 2, 3, 7] }), (11, { chg := [(11, .int .i64)], chgL := [], keep := [1, 2, 3, 7] })]
def V_spec_l9Next (w0 : Int) (w1O : Option Addr) (w1L : Nat) (w1C : Nat) (w2O : Option Addr) (w2L : Nat) (w2C : Nat) (w3O : Option Addr) (w3L : Nat) (w3C : Nat) (g : Int) (c : Int) (w : World) (R : Value → World → Prop) : Prop :=
    (∀ b, w.heap.size ≤ b →
    (∃ (l8Leas : Int) (l8Leas1 : Bool),
    PureX [] Tryz.prog fn_spec_l8Least #[.agg #[.int .i64 w0, .slice w1O w1L w1C, .slice w2O w2L w2C, .slice w3O w3L w3C], .int .i64 g, .int .i64 c] w (.tuple #[.int .i64 l8Leas, .bool l8Leas1]) ∧
    ((!l8Leas1) = true →
    R (.int .i64 (-1)) w) ∧
    ((!l8Leas1) = false →
    (∃ (xInv : List Value → Prop) (mu : List Value → Nat), xInv [.int .i64 0] ∧
    ∀ (t : Int), xInv [.int .i64 t] →
    ((decide (t < ((w2L : Nat) : Int))) = true →
    Ix w2O w2L t ∧
    (∃ (x0 : Int) (x1 : Int) (x2 : Int) (x3 : Int) (x4 : Int) (x5 : Int) (x6 : Int) (x7 : Int) (x8 : Int),
    CellsX [] w w2O (Int.toNat t * 9) [.int .i64 x0, .int .i64 x1, .int .i64 x2, .int .i64 x3, .int .i64 x4, .int .i64 x5, .int .i64 x6, .int .i64 x7, .int .i64 x8] ∧
    (∀ b1, w.heap.size ≤ b1 →
    (((((x0 == 1) && (x1 == g)) && (x2 == c)) && (x5 == l8Leas)) = true →
    R (.int .i64 t) w) ∧
    (((((x0 == 1) && (x1 == g)) && (x2 == c)) && (x5 == l8Leas)) = false →
    InR .i64 (t + 1) ∧
    xInv [.int .i64 (t + 1)] ∧ mu [.int .i64 (t + 1)] < mu [.int .i64 t])))) ∧
    ((decide (t < ((w2L : Nat) : Int))) = false →
    (∃ (xInv1 : List Value → Prop) (mu1 : List Value → Nat), xInv1 [.int .i64 1] ∧
    ∀ (h : Int), xInv1 [.int .i64 h] →
    ((decide (h < ((w3L : Nat) : Int))) = true →
    Ix w3O w3L h ∧
    (∃ (used : Bool),
    CellsX [] w w3O (Int.toNat h * 14 + 0) [.bool used] ∧
    (used = true → Ix w3O w3L h) ∧
    (∃ (parent : Int),
    (used = true → CellsX [] w w3O (Int.toNat h * 14 + 1) [.int .i64 parent]) ∧
    (∃ (l8Queu : Bool),
    ((used && (parent == g)) = true → PureX [] Tryz.prog fn_spec_l8Queued #[.agg #[.int .i64 w0, .slice w1O w1L w1C, .slice w2O w2L w2C, .slice w3O w3L w3C], .int .i64 h, .int .i64 c] w (.bool l8Queu)) ∧
    (((used && (parent == g)) && l8Queu) = true → Ix w3O w3L h) ∧
    (∃ (shelvesO : Option Addr) (shelvesL : Nat) (shelvesC : Nat),
    (((used && (parent == g)) && l8Queu) = true → CellsX [] w w3O (Int.toNat h * 14 + 13) [.slice shelvesO shelvesL shelvesC]) ∧
    (((used && (parent == g)) && l8Queu) = true → Ix shelvesO shelvesL c) ∧
    (∃ (v : Int),
    (((used && (parent == g)) && l8Queu) = true → CellsX [] w shelvesO (Int.toNat c * 5 + 2) [.int .i64 v]) ∧
    ((((used && (parent == g)) && l8Queu) && (v == l8Leas)) = true →
    (∃ (l9Next : Int),
    PureX [] Tryz.prog fn_spec_l9Next #[.agg #[.int .i64 w0, .slice w1O w1L w1C, .slice w2O w2L w2C, .slice w3O w3L w3C], .int .i64 h, .int .i64 c] w (.int .i64 l9Next) ∧
    R (.int .i64 l9Next) w)) ∧
    ((((used && (parent == g)) && l8Queu) && (v == l8Leas)) = false →
    InR .i64 (h + 1) ∧
    xInv1 [.int .i64 (h + 1)] ∧ mu1 [.int .i64 (h + 1)] < mu1 [.int .i64 h]))))))) ∧
    ((decide (h < ((w3L : Nat) : Int))) = false →
    R (.int .i64 (-1)) w)))))))
theorem v_spec_l9Next (w0 : Int) (w1O : Option Addr) (w1L : Nat) (w1C : Nat) (w2O : Option Addr) (w2L : Nat) (w2C : Nat) (w3O : Option Addr) (w3L : Nat) (w3C : Nat) (g : Int) (c : Int) (w : World) (R : Value → World → Prop) : evFn c_spec_l9Next s_spec_l9Next [.agg #[.int .i64 w0, .slice w1O w1L w1C, .slice w2O w2L w2C, .slice w3O w3L w3C], .int .i64 g, .int .i64 c] (bodyOf Tryz.f122) Tryz.f122.results.toList w R = V_spec_l9Next w0 w1O w1L w1C w2O w2L w2C w3O w3L w3C g c w R := by kernel_rfl
theorem p_spec_l9Next (w0 : Int) (w1O : Option Addr) (w1L : Nat) (w1C : Nat) (w2O : Option Addr) (w2L : Nat) (w2C : Nat) (w3O : Option Addr) (w3L : Nat) (w3C : Nat) (g : Int) (c : Int) {w : World} {bs : List Nat} {ret : Value} (hvc : ∀ wr0, ExtX bs w wr0 → V_spec_l9Next w0 w1O w1L w1C w2O w2L w2C w3O w3L w3C g c wr0 fun v0 _ => v0 = ret) : PureX bs Tryz.prog fn_spec_l9Next #[.agg #[.int .i64 w0, .slice w1O w1L w1C, .slice w2O w2L w2C, .slice w3O w3L w3C], .int .i64 g, .int .i64 c] w ret :=
  pure_of_ev (C := c_spec_l9Next) (sps := s_spec_l9Next) (body := bodyOf Tryz.f122) (env _ _ _ _) Tryz.func122 rfl rfl (of_decide_eq_true (by kernel_rfl)) (of_decide_eq_true (by kernel_rfl)) rfl fun wr0 hx0 => by rw [v_spec_l9Next]; exact hvc wr0 hx0
noncomputable def c_spec_l9Pick : Cfg := { P := Tryz.prog, T := tblGet tbl, pf := pfT, ef := efT, tt := ttT, vis := [], n := 30, pm := true, wr := false }
noncomputable def s_spec_l9Pick : List (Nat × LSpec) := []
def V_spec_l9Pick (w0 : Int) (w1O : Option Addr) (w1L : Nat) (w1C : Nat) (w2O : Option Addr) (w2L : Nat) (w2C : Nat) (w3O : Option Addr) (w3L : Nat) (w3C : Nat) (c : Int) (w : World) (R : Value → World → Prop) : Prop :=
    (∀ b, w.heap.size ≤ b →
    Ix w1O w1L c ∧
    (∃ (cur : Int),
    CellsX [] w w1O (Int.toNat c * 5 + 1) [.int .i64 cur] ∧
    ((decide (cur ≥ 0)) = true → Ix w1O w1L c) ∧
    (∃ (ran : Int),
    ((decide (cur ≥ 0)) = true → CellsX [] w w1O (Int.toNat c * 5 + 2) [.int .i64 ran]) ∧
    (((decide (cur ≥ 0)) && (decide (ran < 50))) = true →
    Ix w1O w1L c ∧
    (∃ (cur1 : Int),
    CellsX [] w w1O (Int.toNat c * 5 + 1) [.int .i64 cur1] ∧
    R (.int .i64 cur1) w)) ∧
    (((decide (cur ≥ 0)) && (decide (ran < 50))) = false →
    (∃ (l9Next : Int),
    PureX [] Tryz.prog fn_spec_l9Next #[.agg #[.int .i64 w0, .slice w1O w1L w1C, .slice w2O w2L w2C, .slice w3O w3L w3C], .int .i64 0, .int .i64 c] w (.int .i64 l9Next) ∧
    R (.int .i64 l9Next) w)))))
theorem v_spec_l9Pick (w0 : Int) (w1O : Option Addr) (w1L : Nat) (w1C : Nat) (w2O : Option Addr) (w2L : Nat) (w2C : Nat) (w3O : Option Addr) (w3L : Nat) (w3C : Nat) (c : Int) (w : World) (R : Value → World → Prop) : evFn c_spec_l9Pick s_spec_l9Pick [.agg #[.int .i64 w0, .slice w1O w1L w1C, .slice w2O w2L w2C, .slice w3O w3L w3C], .int .i64 c] (bodyOf Tryz.f75) Tryz.f75.results.toList w R = V_spec_l9Pick w0 w1O w1L w1C w2O w2L w2C w3O w3L w3C c w R := by kernel_rfl
theorem p_spec_l9Pick (w0 : Int) (w1O : Option Addr) (w1L : Nat) (w1C : Nat) (w2O : Option Addr) (w2L : Nat) (w2C : Nat) (w3O : Option Addr) (w3L : Nat) (w3C : Nat) (c : Int) {w : World} {bs : List Nat} {ret : Value} (hvc : ∀ wr0, ExtX bs w wr0 → V_spec_l9Pick w0 w1O w1L w1C w2O w2L w2C w3O w3L w3C c wr0 fun v0 _ => v0 = ret) : PureX bs Tryz.prog fn_spec_l9Pick #[.agg #[.int .i64 w0, .slice w1O w1L w1C, .slice w2O w2L w2C, .slice w3O w3L w3C], .int .i64 c] w ret :=
  pure_of_ev (C := c_spec_l9Pick) (sps := s_spec_l9Pick) (body := bodyOf Tryz.f75) (env _ _ _ _) Tryz.func75 rfl rfl (of_decide_eq_true (by kernel_rfl)) (of_decide_eq_true (by kernel_rfl)) rfl fun wr0 hx0 => by rw [v_spec_l9Pick]; exact hvc wr0 hx0
noncomputable def c_spec_WorldPick : Cfg := { P := Tryz.prog, T := tblGet tbl, pf := pfT, ef := efT, tt := ttT, vis := [], n := 17, pm := true, wr := false }
noncomputable def s_spec_WorldPick : List (Nat × LSpec) := []
def V_spec_WorldPick (w0 : Int) (w1O : Option Addr) (w1L : Nat) (w1C : Nat) (w2O : Option Addr) (w2L : Nat) (w2C : Nat) (w3O : Option Addr) (w3L : Nat) (w3C : Nat) (cpu : Int) (w : World) (R : Value → World → Prop) : Prop :=
    (∀ b, w.heap.size ≤ b →
    (∃ (xWorldO : Bool),
    PureX [] Tryz.prog fn_spec_WorldOk #[.agg #[.int .i64 w0, .slice w1O w1L w1C, .slice w2O w2L w2C, .slice w3O w3L w3C]] w (.bool xWorldO) ∧
    (∃ (l9Up : Bool),
    ((!xWorldO) = false → PureX [] Tryz.prog fn_spec_l9Up #[.agg #[.int .i64 w0, .slice w1O w1L w1C, .slice w2O w2L w2C, .slice w3O w3L w3C], .int .i64 cpu] w (.bool l9Up)) ∧
    (((!xWorldO) || (!l9Up)) = true →
    R (.int .i64 (-1)) w) ∧
    (((!xWorldO) || (!l9Up)) = false →
    (∃ (l9Pick : Int),
    PureX [] Tryz.prog fn_spec_l9Pick #[.agg #[.int .i64 w0, .slice w1O w1L w1C, .slice w2O w2L w2C, .slice w3O w3L w3C], .int .i64 cpu] w (.int .i64 l9Pick) ∧
    R (.int .i64 l9Pick) w)))))
theorem v_spec_WorldPick (w0 : Int) (w1O : Option Addr) (w1L : Nat) (w1C : Nat) (w2O : Option Addr) (w2L : Nat) (w2C : Nat) (w3O : Option Addr) (w3L : Nat) (w3C : Nat) (cpu : Int) (w : World) (R : Value → World → Prop) : evFn c_spec_WorldPick s_spec_WorldPick [.agg #[.int .i64 w0, .slice w1O w1L w1C, .slice w2O w2L w2C, .slice w3O w3L w3C], .int .i64 cpu] (bodyOf Tryz.f29) Tryz.f29.results.toList w R = V_spec_WorldPick w0 w1O w1L w1C w2O w2L w2C w3O w3L w3C cpu w R := by kernel_rfl
theorem p_spec_WorldPick (w0 : Int) (w1O : Option Addr) (w1L : Nat) (w1C : Nat) (w2O : Option Addr) (w2L : Nat) (w2C : Nat) (w3O : Option Addr) (w3L : Nat) (w3C : Nat) (cpu : Int) {w : World} {bs : List Nat} {ret : Value} (hvc : ∀ wr0, ExtX bs w wr0 → V_spec_WorldPick w0 w1O w1L w1C w2O w2L w2C w3O w3L w3C cpu wr0 fun v0 _ => v0 = ret) : PureX bs Tryz.prog fn_spec_WorldPick #[.agg #[.int .i64 w0, .slice w1O w1L w1C, .slice w2O w2L w2C, .slice w3O w3L w3C], .int .i64 cpu] w ret :=
  pure_of_ev (C := c_spec_WorldPick) (sps := s_spec_WorldPick) (body := bodyOf Tryz.f29) (env _ _ _ _) Tryz.func29 rfl rfl (of_decide_eq_true (by kernel_rfl)) (of_decide_eq_true (by kernel_rfl)) rfl fun wr0 hx0 => by rw [v_spec_WorldPick]; exact hvc wr0 hx0
noncomputable def c_impl_lane_members : Cfg := { P := Tryz.prog, T := tblGet tbl, pf := pfT, ef := efT, tt := ttT, vis := [], n := 58, pm := false, wr := false }
noncomputable def s_impl_lane_members : List (Nat × LSpec) := [(3, { chg := [(5, .slice), (15, .int .i64)], chgL := [], keep := [1, 2, 13, 14] }), (9, { chg := [(5, .slice), (38, .int .i64)], chgL := [], keep := [1, 2, 37] })]
def V_impl_lane_members (p0 : Option Addr) (p1 : Int) (g : Int) (w : World) (R : Value → World → Prop) : Prop :=
    (∀ b, w.heap.size ≤ b →
    p0.isSome = true ∧
    (∃ (tasksO : Option Addr) (tasksL : Nat) (tasksC : Nat),
    CellsX [] w p0 (0 + 2) [.slice tasksO tasksL tasksC] ∧
    (∃ (xInv : List Value → World → Prop) (mu : List Value → World → Nat), (∀ wr, ExtX [] w wr → (∀ bq ∈ ([b] : List Nat), bq < wr.heap.size) → xInv [.slice none 0 0, .int .i64 0] wr) ∧
    ∀ (allO : Option Addr) (allL : Nat) (allC : Nat) (x : Int) wv, (∀ bq ∈ ([b] : List Nat), bq < wv.heap.size) → xInv [.slice allO allL allC, .int .i64 x] wv →
    ((decide (x < ((tasksL : Nat) : Int))) = true →
    Ix tasksO tasksL x ∧
    (∃ (x0 : Int) (x1 : Int) (x2 : Int) (x3 : Int) (x4 : Int) (x5 : Int) (x6 : Int) (x7 : Int) (x8 : Int),
    CellsX [b] wv tasksO (Int.toNat x * 9) [.int .i64 x0, .int .i64 x1, .int .i64 x2, .int .i64 x3, .int .i64 x4, .int .i64 x5, .int .i64 x6, .int .i64 x7, .int .i64 x8] ∧
    (∀ b1, wv.heap.size ≤ b1 →
    (∃ (queues : Bool),
    PureX [b] Tryz.prog fn_impl_lane_queues #[.agg #[.pointer p0, .int .i64 p1], .int .i64 x, .int .i64 g] wv (.bool queues) ∧
    (queues = true →
    (∀ b2, wv.heap.size ≤ b2 →
    (∀ wr1, ExtX [b] wv wr1 → (∀ bq ∈ ([b, b1, b2] : List Nat), bq < wr1.heap.size) → wr1.heap[b2]? = some (Obj.cells ([.iface ty_impl_taskMember (.agg #[.int .i64 x, .int .i64 x0, .int .i64 x1, .int .i64 x2, .int .i64 x3, .int .i64 x4, .int .i64 x5, .int .i64 x6, .int .i64 x7, .int .i64 x8])] : List Value).toArray ty_impl_member (0, 0)) → 
    (∃ (apO : Option Addr) (apL : Nat) (apC : Nat),
    ∃ wv1, (builtin .append #[ty_sl_impl_member, ty_sl_impl_member] ty_sl_impl_member #[false, false] #[.slice allO allL allC, .slice (some (Addr.mk b2 0 none)) 1 1]).run Tryz.prog wr1 = .ok (.value (.slice apO apL apC)) wv1 ∧ Kept [b, b1, b2] wr1 wv1 ∧
    InR .i64 (x + 1) ∧
    (∀ wr2, ExtX [b, b1, b2] wv1 wr2 → (∀ bq ∈ ([b, b1, b2] : List Nat), bq < wr2.heap.size) → xInv [.slice apO apL apC, .int .i64 (x + 1)] wr2 ∧ mu [.slice apO apL apC, .int .i64 (x + 1)] wr2 < mu [.slice allO allL allC, .int .i64 x] wv))))) ∧
    (queues = false →
    InR .i64 (x + 1) ∧
    (∀ wr3, ExtX [b] wv wr3 → (∀ bq ∈ ([b, b1] : List Nat), bq < wr3.heap.size) → xInv [.slice allO allL allC, .int .i64 (x + 1)] wr3 ∧ mu [.slice allO allL allC, .int .i64 (x + 1)] wr3 < mu [.slice allO allL allC, .int .i64 x] wv)))))) ∧
    ((decide (x < ((tasksL : Nat) : Int))) = false →
    p0.isSome = true ∧
    (∃ (groupsO : Option Addr) (groupsL : Nat) (groupsC : Nat),
    CellsX [b] wv p0 (0 + 3) [.slice groupsO groupsL groupsC] ∧
    (∃ (xInv1 : List Value → World → Prop) (mu1 : List Value → World → Nat), (∀ wr4, ExtX [b] wv wr4 → (∀ bq ∈ ([b] : List Nat), bq < wr4.heap.size) → xInv1 [.slice allO allL allC, .int .i64 0] wr4) ∧
    ∀ (all1O : Option Addr) (all1L : Nat) (all1C : Nat) (x9 : Int) wv2, (∀ bq ∈ ([b] : List Nat), bq < wv2.heap.size) → xInv1 [.slice all1O all1L all1C, .int .i64 x9] wv2 →
    ((decide (x9 < ((groupsL : Nat) : Int))) = true →
    (∃ (holds : Bool),
    PureX [b] Tryz.prog fn_impl_lane_holds #[.agg #[.pointer p0, .int .i64 p1], .int .i64 x9, .int .i64 g] wv2 (.bool holds) ∧
    (holds = true →
    (∃ (shelf : Option Addr),
    PureX [b] Tryz.prog fn_impl_lane_shelf #[.agg #[.pointer p0, .int .i64 p1], .int .i64 x9] wv2 (.pointer shelf) ∧
    shelf.isSome = true ∧
    (∃ (x01 : Int) (x11 : Bool) (x21 : Int) (x31 : Int) (x41 : Int),
    CellsX [b] wv2 shelf 0 [.int .i64 x01, .bool x11, .int .i64 x21, .int .i64 x31, .int .i64 x41] ∧
    (∀ b3, wv2.heap.size ≤ b3 →
    (∀ wr5, ExtX [b] wv2 wr5 → (∀ bq ∈ ([b, b3] : List Nat), bq < wr5.heap.size) → wr5.heap[b3]? = some (Obj.cells ([.iface ty_impl_groupMember (.agg #[.int .i64 x9, .int .i64 x01, .bool x11, .int .i64 x21, .int .i64 x31, .int .i64 x41])] : List Value).toArray ty_impl_member (0, 0)) → 
    (∃ (ap1O : Option Addr) (ap1L : Nat) (ap1C : Nat),
    ∃ wv3, (builtin .append #[ty_sl_impl_member, ty_sl_impl_member] ty_sl_impl_member #[false, false] #[.slice all1O all1L all1C, .slice (some (Addr.mk b3 0 none)) 1 1]).run Tryz.prog wr5 = .ok (.value (.slice ap1O ap1L ap1C)) wv3 ∧ Kept [b, b3] wr5 wv3 ∧
    InR .i64 (x9 + 1) ∧
    (∀ wr6, ExtX [b, b3] wv3 wr6 → (∀ bq ∈ ([b, b3] : List Nat), bq < wr6.heap.size) → xInv1 [.slice ap1O ap1L ap1C, .int .i64 (x9 + 1)] wr6 ∧ mu1 [.slice ap1O ap1L ap1C, .int .i64 (x9 + 1)] wr6 < mu1 [.slice all1O all1L all1C, .int .i64 x9] wv2))))))) ∧
    (holds = false →
    InR .i64 (x9 + 1) ∧
    (∀ wr7, ExtX [b] wv2 wr7 → (∀ bq ∈ ([b] : List Nat), bq < wr7.heap.size) → xInv1 [.slice all1O all1L all1C, .int .i64 (x9 + 1)] wr7 ∧ mu1 [.slice all1O all1L all1C, .int .i64 (x9 + 1)] wr7 < mu1 [.slice all1O all1L all1C, .int .i64 x9] wv2)))) ∧
    ((decide (x9 < ((groupsL : Nat) : Int))) = false →
    (∀ wr8, ExtX [b] wv2 wr8 → R (.slice all1O all1L all1C) wr8))))))))
theorem v_impl_lane_members (p0 : Option Addr) (p1 : Int) (g : Int) (w : World) (R : Value → World → Prop) : evFn c_impl_lane_members s_impl_lane_members [.agg #[.pointer p0, .int .i64 p1], .int .i64 g] (bodyOf Tryz.f123) Tryz.f123.results.toList w R = V_impl_lane_members p0 p1 g w R := by kernel_rfl
theorem e_impl_lane_members (p0 : Option Addr) (p1 : Int) (g : Int) {w : World} {R : Value → World → Prop} (hvc : V_impl_lane_members p0 p1 g w R) : Calls Tryz.prog fn_impl_lane_members #[.agg #[.pointer p0, .int .i64 p1], .int .i64 g] w fun e0 wr0 => ∃ v0, e0 = .returned v0 ∧ R v0 wr0 :=
  eff_of_ev (C := c_impl_lane_members) (sps := s_impl_lane_members) (body := bodyOf Tryz.f123) (env _ _ _ _) Tryz.func123 rfl rfl (of_decide_eq_true (by kernel_rfl)) (of_decide_eq_true (by kernel_rfl)) rfl (by rw [v_impl_lane_members]; exact hvc)
noncomputable def c_slices_MinFunc_impl_member_impl_member : Cfg := { P := Tryz.prog, T := tblGet tbl, pf := pfT, ef := efT, tt := ttT, vis := [], n := 33, pm := false, wr := false }
noncomputable def s_slices_MinFunc_impl_member_impl_member : List (Nat × LSpec) := [(5, { chg := [(5, .other), (6, .int .i64)], chgL := [], keep := [0, 1] })]
def V_slices_MinFunc_impl_member_impl_member (xO : Option Addr) (xL : Nat) (xC : Nat) (cmpF : FuncId) (cmpA : Array Value) (cmpK : Array Value) (w : World) (R : Value → World → Prop) : Prop :=
    ((decide (((xL : Nat) : Int) < 1)) = true →
    False) ∧
    ((decide (((xL : Nat) : Int) < 1)) = false →
    Ix xO xL 0 ∧
    (∃ (x1 : Value),
    CellsX [] w xO (Int.toNat 0 * 1) [x1] ∧
    (∃ (xInv : List Value → World → Prop) (mu : List Value → World → Nat), (∀ wr, ExtX [] w wr → (∀ bq ∈ ([] : List Nat), bq < wr.heap.size) → xInv [x1, .int .i64 1] wr) ∧
    ∀ (m : Value) (i : Int) wv, (∀ bq ∈ ([] : List Nat), bq < wv.heap.size) → xInv [m, .int .i64 i] wv →
    ((decide (i < ((xL : Nat) : Int))) = true →
    Ix xO xL i ∧
    (∃ (x2 : Value),
    CellsX [] wv xO (Int.toNat i * 1) [x2] ∧
    (∀ wr1, ExtX [] wv wr1 → (∀ bq ∈ ([] : List Nat), bq < wr1.heap.size) → 
    (∃ (ff : FuncId) (aa : Array Value), (callV (.func (.func cmpF) cmpA cmpK) [x2, m]).run Tryz.prog wr1 = .ok (.enter ff aa) wr1 ∧
    Calls Tryz.prog ff aa wr1 fun e wv1 =>
    (∃ (rv : Int),
    e = .returned (.int .i64 rv) ∧ Kept [] wr1 wv1 ∧
    ((decide (rv < 0)) = true →
    Ix xO xL i ∧
    (∃ (x3 : Value),
    CellsX [] wv1 xO (Int.toNat i * 1) [x3] ∧
    InR .i64 (i + 1) ∧
    (∀ wr2, ExtX [] wv1 wr2 → (∀ bq ∈ ([] : List Nat), bq < wr2.heap.size) → xInv [x3, .int .i64 (i + 1)] wr2 ∧ mu [x3, .int .i64 (i + 1)] wr2 < mu [m, .int .i64 i] wv))) ∧
    ((decide (rv < 0)) = false →
    InR .i64 (i + 1) ∧
    (∀ wr3, ExtX [] wv1 wr3 → (∀ bq ∈ ([] : List Nat), bq < wr3.heap.size) → xInv [m, .int .i64 (i + 1)] wr3 ∧ mu [m, .int .i64 (i + 1)] wr3 < mu [m, .int .i64 i] wv))))))) ∧
    ((decide (i < ((xL : Nat) : Int))) = false →
    (∀ wr4, ExtX [] wv wr4 → R m wr4)))))
theorem v_slices_MinFunc_impl_member_impl_member (xO : Option Addr) (xL : Nat) (xC : Nat) (cmpF : FuncId) (cmpA : Array Value) (cmpK : Array Value) (w : World) (R : Value → World → Prop) : evFn c_slices_MinFunc_impl_member_impl_member s_slices_MinFunc_impl_member_impl_member [.slice xO xL xC, .func (.func cmpF) cmpA cmpK] (bodyOf Tryz.f124) Tryz.f124.results.toList w R = V_slices_MinFunc_impl_member_impl_member xO xL xC cmpF cmpA cmpK w R := by kernel_rfl
theorem e_slices_MinFunc_impl_member_impl_member (xO : Option Addr) (xL : Nat) (xC : Nat) (cmpF : FuncId) (cmpA : Array Value) (cmpK : Array Value) {w : World} {R : Value → World → Prop} (hvc : V_slices_MinFunc_impl_member_impl_member xO xL xC cmpF cmpA cmpK w R) : Calls Tryz.prog fn_slices_MinFunc_impl_member_impl_member #[.slice xO xL xC, .func (.func cmpF) cmpA cmpK] w fun e0 wr0 => ∃ v0, e0 = .returned v0 ∧ R v0 wr0 :=
  eff_of_ev (C := c_slices_MinFunc_impl_member_impl_member) (sps := s_slices_MinFunc_impl_member_impl_member) (body := bodyOf Tryz.f124) (env _ _ _ _) Tryz.func124 rfl rfl (of_decide_eq_true (by kernel_rfl)) (of_decide_eq_true (by kernel_rfl)) rfl (by rw [v_slices_MinFunc_impl_member_impl_member]; exact hvc)
noncomputable def c_cmp_isNaN_int : Cfg := { P := Tryz.prog, T := tblGet tbl, pf := pfT, ef := efT, tt := ttT, vis := [], n := 6, pm := true, wr := false }
noncomputable def s_cmp_isNaN_int : List (Nat × LSpec) := []
def V_cmp_isNaN_int (x : Int) (w : World) (R : Value → World → Prop) : Prop :=
    R (.bool (x != x)) w
theorem v_cmp_isNaN_int (x : Int) (w : World) (R : Value → World → Prop) : evFn c_cmp_isNaN_int s_cmp_isNaN_int [.int .i64 x] (bodyOf Tryz.f176) Tryz.f176.results.toList w R = V_cmp_isNaN_int x w R := by kernel_rfl
theorem p_cmp_isNaN_int (x : Int) {w : World} {bs : List Nat} {ret : Value} (hvc : ∀ wr0, ExtX bs w wr0 → V_cmp_isNaN_int x wr0 fun v0 _ => v0 = ret) : PureX bs Tryz.prog fn_cmp_isNaN_int #[.int .i64 x] w ret :=
  pure_of_ev (C := c_cmp_isNaN_int) (sps := s_cmp_isNaN_int) (body := bodyOf Tryz.f176) (env _ _ _ _) Tryz.func176 rfl rfl (of_decide_eq_true (by kernel_rfl)) (of_decide_eq_true (by kernel_rfl)) rfl fun wr0 hx0 => by rw [v_cmp_isNaN_int]; exact hvc wr0 hx0
noncomputable def c_cmp_Compare_int : Cfg := { P := Tryz.prog, T := tblGet tbl, pf := pfT, ef := efT, tt := ttT, vis := [], n := 20, pm := true, wr := false }
noncomputable def s_cmp_Compare_int : List (Nat × LSpec) := []
def V_cmp_Compare_int (x : Int) (y : Int) (w : World) (R : Value → World → Prop) : Prop :=
    (∃ (int : Bool),
    PureX [] Tryz.prog fn_cmp_isNaN_int #[.int .i64 x] w (.bool int) ∧
    (∃ (int1 : Bool),
    PureX [] Tryz.prog fn_cmp_isNaN_int #[.int .i64 y] w (.bool int1) ∧
    (int = true →
    (int1 = true →
    R (.int .i64 0) w) ∧
    (int1 = false →
    R (.int .i64 (-1)) w)) ∧
    (int = false →
    (int1 = true →
    R (.int .i64 1) w) ∧
    (int1 = false →
    ((decide (x < y)) = true →
    R (.int .i64 (-1)) w) ∧
    ((decide (x < y)) = false →
    ((decide (x > y)) = true →
    R (.int .i64 1) w) ∧
    ((decide (x > y)) = false →
    R (.int .i64 0) w))))))
theorem v_cmp_Compare_int (x : Int) (y : Int) (w : World) (R : Value → World → Prop) : evFn c_cmp_Compare_int s_cmp_Compare_int [.int .i64 x, .int .i64 y] (bodyOf Tryz.f126) Tryz.f126.results.toList w R = V_cmp_Compare_int x y w R := by kernel_rfl
theorem p_cmp_Compare_int (x : Int) (y : Int) {w : World} {bs : List Nat} {ret : Value} (hvc : ∀ wr0, ExtX bs w wr0 → V_cmp_Compare_int x y wr0 fun v0 _ => v0 = ret) : PureX bs Tryz.prog fn_cmp_Compare_int #[.int .i64 x, .int .i64 y] w ret :=
  pure_of_ev (C := c_cmp_Compare_int) (sps := s_cmp_Compare_int) (body := bodyOf Tryz.f126) (env _ _ _ _) Tryz.func126 rfl rfl (of_decide_eq_true (by kernel_rfl)) (of_decide_eq_true (by kernel_rfl)) rfl fun wr0 hx0 => by rw [v_cmp_Compare_int]; exact hvc wr0 hx0
noncomputable def c_impl_lane_pick_1 : Cfg := { P := Tryz.prog, T := tblGet tbl, pf := pfT, ef := efT, tt := ttT, vis := [], n := 10, pm := false, wr := false }
noncomputable def s_impl_lane_pick_1 : List (Nat × LSpec) := []
def V_impl_lane_pick_1 (a : Value) (b : Value) (w : World) (R : Value → World → Prop) : Prop :=
    (∀ wr, ExtX [] w wr → (∀ bq ∈ ([] : List Nat), bq < wr.heap.size) → 
    (∃ (ff : FuncId) (aa : Array Value), (callM "loop.example/stint/impl.time" a []).run Tryz.prog wr = .ok (.enter ff aa) wr ∧
    Calls Tryz.prog ff aa wr fun e wv =>
    (∃ (rv : Int),
    e = .returned (.int .i64 rv) ∧ Kept [] wr wv ∧
    (∀ wr1, ExtX [] wv wr1 → (∀ bq ∈ ([] : List Nat), bq < wr1.heap.size) → 
    (∃ (ff1 : FuncId) (aa1 : Array Value), (callM "loop.example/stint/impl.time" b []).run Tryz.prog wr1 = .ok (.enter ff1 aa1) wr1 ∧
    Calls Tryz.prog ff1 aa1 wr1 fun e1 wv1 =>
    (∃ (rv1 : Int),
    e1 = .returned (.int .i64 rv1) ∧ Kept [] wr1 wv1 ∧
    (∃ (int : Int),
    PureX [] Tryz.prog fn_cmp_Compare_int #[.int .i64 rv, .int .i64 rv1] wv1 (.int .i64 int) ∧
    (∀ wr2, ExtX [] wv1 wr2 → R (.int .i64 int) wr2))))))))
theorem v_impl_lane_pick_1 (a : Value) (b : Value) (w : World) (R : Value → World → Prop) : evFn c_impl_lane_pick_1 s_impl_lane_pick_1 [a, b] (bodyOf Tryz.f125) Tryz.f125.results.toList w R = V_impl_lane_pick_1 a b w R := by kernel_rfl
theorem e_impl_lane_pick_1 (a : Value) (b : Value) {w : World} {R : Value → World → Prop} (hvc : V_impl_lane_pick_1 a b w R) : Calls Tryz.prog fn_impl_lane_pick_1 #[a, b] w fun e0 wr0 => ∃ v0, e0 = .returned v0 ∧ R v0 wr0 :=
  eff_of_ev (C := c_impl_lane_pick_1) (sps := s_impl_lane_pick_1) (body := bodyOf Tryz.f125) (env _ _ _ _) Tryz.func125 rfl rfl (of_decide_eq_true (by kernel_rfl)) (of_decide_eq_true (by kernel_rfl)) rfl (by rw [v_impl_lane_pick_1]; exact hvc)
noncomputable def c_impl_lane_pick : Cfg := { P := Tryz.prog, T := tblGet tbl, pf := pfT, ef := efT, tt := ttT, vis := [], n := 51, pm := false, wr := false }
noncomputable def s_impl_lane_pick : List (Nat × LSpec) := [(7, { chg := [(4, .int .i64)], chgL := [], keep := [1] })]
def V_impl_lane_pick (p0 : Option Addr) (p1 : Int) (w : World) (R : Value → World → Prop) : Prop :=
    (∀ b, w.heap.size ≤ b →
    (∃ (cpu : Option Addr),
    PureX [] Tryz.prog fn_impl_lane_cpu #[.agg #[.pointer p0, .int .i64 p1]] w (.pointer cpu) ∧
    cpu.isSome = true ∧
    (∃ (up : Bool),
    CellsX [] w cpu (0 + 0) [.bool up] ∧
    ((!up) = true →
    (∀ wr, ExtX [] w wr → R (.int .i64 (-1)) wr)) ∧
    ((!up) = false →
    cpu.isSome = true ∧
    (∃ (cur : Int),
    CellsX [] w cpu (0 + 1) [.int .i64 cur] ∧
    ((cur != (-1)) = true → cpu.isSome = true) ∧
    (∃ (ran : Int),
    ((cur != (-1)) = true → CellsX [] w cpu (0 + 2) [.int .i64 ran]) ∧
    (((cur != (-1)) && (decide (ran < 50))) = true →
    cpu.isSome = true ∧
    (∃ (cur1 : Int),
    CellsX [] w cpu (0 + 1) [.int .i64 cur1] ∧
    (∀ wr1, ExtX [] w wr1 → R (.int .i64 cur1) wr1))) ∧
    (((cur != (-1)) && (decide (ran < 50))) = false →
    (∃ (xInv : List Value → World → Prop) (mu : List Value → World → Nat), (∀ wr2, ExtX [] w wr2 → (∀ bq ∈ ([b] : List Nat), bq < wr2.heap.size) → xInv [.int .i64 0] wr2) ∧
    ∀ (g : Int) wv, (∀ bq ∈ ([b] : List Nat), bq < wv.heap.size) → xInv [.int .i64 g] wv →
    (∀ wr3, ExtX [b] wv wr3 → (∀ bq ∈ ([b] : List Nat), bq < wr3.heap.size) → 
    Calls Tryz.prog fn_impl_lane_members #[.agg #[.pointer p0, .int .i64 p1], .int .i64 g] wr3 fun e wv1 =>
    (∃ (memberO : Option Addr) (memberL : Nat) (memberC : Nat),
    e = .returned (.slice memberO memberL memberC) ∧ Kept [b] wr3 wv1 ∧
    ((((memberL : Nat) : Int) == 0) = true →
    (∀ wr4, ExtX [b] wv1 wr4 → R (.int .i64 (-1)) wr4)) ∧
    ((((memberL : Nat) : Int) == 0) = false →
    (∀ wr5, ExtX [b] wv1 wr5 → (∀ bq ∈ ([b] : List Nat), bq < wr5.heap.size) → 
    Calls Tryz.prog fn_slices_MinFunc_impl_member_impl_member #[.slice memberO memberL memberC, .func (.func fn_impl_lane_pick_1) #[] #[]] wr5 fun e1 wv2 =>
    (∃ (member1 : Value),
    e1 = .returned member1 ∧ Kept [b] wr5 wv2 ∧
    (∃ (ta : Int) (ta1 : Int) (ta2 : Int) (ta3 : Int) (ta4 : Int) (ta5 : Int) (ta6 : Int) (ta7 : Int) (ta8 : Int) (ta9 : Int) (ta10 : Bool),
    (∀ wq, (Instr.typeAssert member1 ty_impl_member ty_impl_taskMember true).run Tryz.prog wq = .ok (.tuple #[.agg #[.int .i64 ta, .int .i64 ta1, .int .i64 ta2, .int .i64 ta3, .int .i64 ta4, .int .i64 ta5, .int .i64 ta6, .int .i64 ta7, .int .i64 ta8, .int .i64 ta9], .bool ta10]) wq) ∧
    (ta10 = true →
    (∀ b1, wv2.heap.size ≤ b1 →
    (∀ wr6, ExtX [b] wv2 wr6 → R (.int .i64 ta) wr6))) ∧
    (ta10 = false →
    (∃ (ta11 : Int) (ta12 : Int) (ta13 : Bool) (ta14 : Int) (ta15 : Int) (ta16 : Int) (ta17 : Bool),
    (∀ wq1, (Instr.typeAssert member1 ty_impl_member ty_impl_groupMember true).run Tryz.prog wq1 = .ok (.tuple #[.agg #[.int .i64 ta11, .int .i64 ta12, .bool ta13, .int .i64 ta14, .int .i64 ta15, .int .i64 ta16], .bool ta17]) wq1) ∧
    (ta17 = true →
    (∀ b2, wv2.heap.size ≤ b2 →
    (∀ wr7, ExtX [b] wv2 wr7 → (∀ bq ∈ ([b, b2] : List Nat), bq < wr7.heap.size) → xInv [.int .i64 ta11] wr7 ∧ mu [.int .i64 ta11] wr7 < mu [.int .i64 g] wv))) ∧
    (ta17 = false →
    (∀ wr8, ExtX [b] wv2 wr8 → (∀ bq ∈ ([b] : List Nat), bq < wr8.heap.size) → xInv [.int .i64 g] wr8 ∧ mu [.int .i64 g] wr8 < mu [.int .i64 g] wv))))))))))))))))))
theorem v_impl_lane_pick (p0 : Option Addr) (p1 : Int) (w : World) (R : Value → World → Prop) : evFn c_impl_lane_pick s_impl_lane_pick [.agg #[.pointer p0, .int .i64 p1]] (bodyOf Tryz.f76) Tryz.f76.results.toList w R = V_impl_lane_pick p0 p1 w R := by kernel_rfl
theorem e_impl_lane_pick (p0 : Option Addr) (p1 : Int) {w : World} {R : Value → World → Prop} (hvc : V_impl_lane_pick p0 p1 w R) : Calls Tryz.prog fn_impl_lane_pick #[.agg #[.pointer p0, .int .i64 p1]] w fun e0 wr0 => ∃ v0, e0 = .returned v0 ∧ R v0 wr0 :=
  eff_of_ev (C := c_impl_lane_pick) (sps := s_impl_lane_pick) (body := bodyOf Tryz.f76) (env _ _ _ _) Tryz.func76 rfl rfl (of_decide_eq_true (by kernel_rfl)) (of_decide_eq_true (by kernel_rfl)) rfl (by rw [v_impl_lane_pick]; exact hvc)
noncomputable def c_impl_WorldPick : Cfg := { P := Tryz.prog, T := tblGet tbl, pf := pfT, ef := efT, tt := ttT, vis := [2], n := 16, pm := false, wr := false }
noncomputable def s_impl_WorldPick : List (Nat × LSpec) := []
def V_impl_WorldPick (w0 : Int) (w1O : Option Addr) (w1L : Nat) (w1C : Nat) (w2O : Option Addr) (w2L : Nat) (w2C : Nat) (w3O : Option Addr) (w3L : Nat) (w3C : Nat) (cpu : Int) (w : World) (R : Value → World → Prop) : Prop :=
    (∀ b wb, ExtX [] w wb → w.heap.size ≤ b → wb.heap[b]? = some (Obj.cells ([.int .i64 w0, .slice w1O w1L w1C, .slice w2O w2L w2C, .slice w3O w3L w3C] : List Value).toArray ty_impl_World (0, 0)) → b ∉ ([] : List Nat) →
    (∃ (x0 : Int) (x1O : Option Addr) (x1L : Nat) (x1C : Nat) (x2O : Option Addr) (x2L : Nat) (x2C : Nat) (x3O : Option Addr) (x3L : Nat) (x3C : Nat),
    CellsX [] wb (some (Addr.mk b 0 none)) 0 [.int .i64 x0, .slice x1O x1L x1C, .slice x2O x2L x2C, .slice x3O x3L x3C] ∧
    (∃ (xWorldO : Bool),
    PureX [] Tryz.prog fn_impl_WorldOk #[.agg #[.int .i64 x0, .slice x1O x1L x1C, .slice x2O x2L x2C, .slice x3O x3L x3C]] wb (.bool xWorldO) ∧
    (∃ (cpuThe : Bool),
    ((!xWorldO) = false → PureX [] Tryz.prog fn_impl_World_cpuThere #[.pointer ((some (Addr.mk b 0 none)).map (·.add 0)), .int .i64 cpu] wb (.bool cpuThe)) ∧
    (((!xWorldO) || (!cpuThe)) = true →
    (∀ wr, ExtX [] wb wr → R (.int .i64 (-1)) wr)) ∧
    (((!xWorldO) || (!cpuThe)) = false →
    (∃ (lane : Option Addr) (lane1 : Int),
    PureX [] Tryz.prog fn_impl_World_lane #[.pointer ((some (Addr.mk b 0 none)).map (·.add 0)), .int .i64 cpu] wb (.agg #[.pointer lane, .int .i64 lane1]) ∧
    (∃ (pick : Int),
    PureX [] Tryz.prog fn_impl_lane_pick #[.agg #[.pointer lane, .int .i64 lane1]] wb (.int .i64 pick) ∧
    (∀ wr1, ExtX [] wb wr1 → R (.int .i64 pick) wr1))))))))
theorem v_impl_WorldPick (w0 : Int) (w1O : Option Addr) (w1L : Nat) (w1C : Nat) (w2O : Option Addr) (w2L : Nat) (w2C : Nat) (w3O : Option Addr) (w3L : Nat) (w3C : Nat) (cpu : Int) (w : World) (R : Value → World → Prop) : evFn c_impl_WorldPick s_impl_WorldPick [.agg #[.int .i64 w0, .slice w1O w1L w1C, .slice w2O w2L w2C, .slice w3O w3L w3C], .int .i64 cpu] (bodyOf Tryz.f30) Tryz.f30.results.toList w R = V_impl_WorldPick w0 w1O w1L w1C w2O w2L w2C w3O w3L w3C cpu w R := by kernel_rfl
theorem e_impl_WorldPick (w0 : Int) (w1O : Option Addr) (w1L : Nat) (w1C : Nat) (w2O : Option Addr) (w2L : Nat) (w2C : Nat) (w3O : Option Addr) (w3L : Nat) (w3C : Nat) (cpu : Int) {w : World} {R : Value → World → Prop} (hvc : V_impl_WorldPick w0 w1O w1L w1C w2O w2L w2C w3O w3L w3C cpu w R) : Calls Tryz.prog fn_impl_WorldPick #[.agg #[.int .i64 w0, .slice w1O w1L w1C, .slice w2O w2L w2C, .slice w3O w3L w3C], .int .i64 cpu] w fun e0 wr0 => ∃ v0, e0 = .returned v0 ∧ R v0 wr0 :=
  eff_of_ev (C := c_impl_WorldPick) (sps := s_impl_WorldPick) (body := bodyOf Tryz.f30) (env _ _ _ _) Tryz.func30 rfl rfl (of_decide_eq_true (by kernel_rfl)) (of_decide_eq_true (by kernel_rfl)) rfl (by rw [v_impl_WorldPick]; exact hvc)
noncomputable def c_laws_FnExactWorldPick : Cfg := { P := Tryz.prog, T := tblGet tbl, pf := pfT, ef := efT, tt := ttT, vis := [], n := 31, pm := false, wr := false }
noncomputable def s_laws_FnExactWorldPick : List (Nat × LSpec) := []
def V_laws_FnExactWorldPick (aW0 : Int) (aW1O : Option Addr) (aW1L : Nat) (aW1C : Nat) (aW2O : Option Addr) (aW2L : Nat) (aW2C : Nat) (aW3O : Option Addr) (aW3L : Nat) (aW3C : Nat) (aCpu : Int) (w : World) (R : Value → World → Prop) : Prop :=
    (∀ b, w.heap.size ≤ b →
    (∃ (szWorl : Int),
    PureX [] Tryz.prog fn_laws_szWorld #[.agg #[.int .i64 aW0, .slice aW1O aW1L aW1C, .slice aW2O aW2L aW2C, .slice aW3O aW3L aW3C], .int .i64 1048576] w (.int .i64 szWorl) ∧
    ((decide (szWorl < 0)) = true →
    (∀ wr, ExtX [] w wr → R (.bool true) wr)) ∧
    ((decide (szWorl < 0)) = false →
    (∀ wr1, ExtX [] w wr1 → (∀ bq ∈ ([b] : List Nat), bq < wr1.heap.size) → 
    Calls Tryz.prog fn_laws_toWorld #[.agg #[.int .i64 aW0, .slice aW1O aW1L aW1C, .slice aW2O aW2L aW2C, .slice aW3O aW3L aW3C]] wr1 fun e wv =>
    (∃ (toWorl : Int) (toWorl1O : Option Addr) (toWorl1L : Nat) (toWorl1C : Nat) (toWorl2O : Option Addr) (toWorl2L : Nat) (toWorl2C : Nat) (toWorl3O : Option Addr) (toWorl3L : Nat) (toWorl3C : Nat),
    e = .returned (.agg #[.int .i64 toWorl, .slice toWorl1O toWorl1L toWorl1C, .slice toWorl2O toWorl2L toWorl2C, .slice toWorl3O toWorl3L toWorl3C]) ∧ Kept [b] wr1 wv ∧
    (∃ (xWorldP : Int),
    PureX [b] Tryz.prog fn_spec_WorldPick #[.agg #[.int .i64 toWorl, .slice toWorl1O toWorl1L toWorl1C, .slice toWorl2O toWorl2L toWorl2C, .slice toWorl3O toWorl3L toWorl3C], .int .i64 aCpu] wv (.int .i64 xWorldP) ∧
    (∀ wr2, ExtX [b] wv wr2 → (∀ bq ∈ ([b] : List Nat), bq < wr2.heap.size) → 
    Calls Tryz.prog fn_laws_toWorld #[.agg #[.int .i64 aW0, .slice aW1O aW1L aW1C, .slice aW2O aW2L aW2C, .slice aW3O aW3L aW3C]] wr2 fun e1 wv1 =>
    (∃ (toWorl4 : Int) (toWorl5O : Option Addr) (toWorl5L : Nat) (toWorl5C : Nat) (toWorl6O : Option Addr) (toWorl6L : Nat) (toWorl6C : Nat) (toWorl7O : Option Addr) (toWorl7L : Nat) (toWorl7C : Nat),
    e1 = .returned (.agg #[.int .i64 toWorl4, .slice toWorl5O toWorl5L toWorl5C, .slice toWorl6O toWorl6L toWorl6C, .slice toWorl7O toWorl7L toWorl7C]) ∧ Kept [b] wr2 wv1 ∧
    (∀ b1, wv1.heap.size ≤ b1 →
    (∃ (xWorldP1 : Int),
    PureX [b] Tryz.prog fn_impl_WorldPick #[.agg #[.int .i64 toWorl4, .slice toWorl5O toWorl5L toWorl5C, .slice toWorl6O toWorl6L toWorl6C, .slice toWorl7O toWorl7L toWorl7C], .int .i64 aCpu] wv1 (.int .i64 xWorldP1) ∧
    ((xWorldP1 != xWorldP) = true →
    (∀ wr3, ExtX [b] wv1 wr3 → R (.bool false) wr3)) ∧
    ((xWorldP1 != xWorldP) = false →
    (∀ wr4, ExtX [b] wv1 wr4 → (∀ bq ∈ ([b, b1] : List Nat), bq < wr4.heap.size) → 
    Calls Tryz.prog fn_laws_toWorld #[.agg #[.int .i64 aW0, .slice aW1O aW1L aW1C, .slice aW2O aW2L aW2C, .slice aW3O aW3L aW3C]] wr4 fun e2 wv2 =>
    (∃ (toWorl8 : Int) (toWorl9O : Option Addr) (toWorl9L : Nat) (toWorl9C : Nat) (toWorl10O : Option Addr) (toWorl10L : Nat) (toWorl10C : Nat) (toWorl11O : Option Addr) (toWorl11L : Nat) (toWorl11C : Nat),
    e2 = .returned (.agg #[.int .i64 toWorl8, .slice toWorl9O toWorl9L toWorl9C, .slice toWorl10O toWorl10L toWorl10C, .slice toWorl11O toWorl11L toWorl11C]) ∧ Kept [b, b1] wr4 wv2 ∧
    (some (ty_impl_World, ([.int .i64 toWorl4, .slice toWorl5O toWorl5L toWorl5C, .slice toWorl6O toWorl6L toWorl6C, .slice toWorl7O toWorl7L toWorl7C] : List Value)) = some (ty_impl_World, ([.int .i64 toWorl4, .slice toWorl5O toWorl5L toWorl5C, .slice toWorl6O toWorl6L toWorl6C, .slice toWorl7O toWorl7L toWorl7C] : List Value))) ∧
    (∃ (eqWorl : Bool),
    PureX [b, b1] Tryz.prog fn_laws_eqWorld #[.agg #[.int .i64 toWorl4, .slice toWorl5O toWorl5L toWorl5C, .slice toWorl6O toWorl6L toWorl6C, .slice toWorl7O toWorl7L toWorl7C], .agg #[.int .i64 toWorl8, .slice toWorl9O toWorl9L toWorl9C, .slice toWorl10O toWorl10L toWorl10C, .slice toWorl11O toWorl11L toWorl11C]] wv2 (.bool eqWorl) ∧
    ((!eqWorl) = true →
    (∀ wr5, ExtX [b, b1] wv2 wr5 → R (.bool false) wr5)) ∧
    ((!eqWorl) = false →
    (∀ wr6, ExtX [b, b1] wv2 wr6 → R (.bool true) wr6))))))))))))))))
theorem v_laws_FnExactWorldPick (aW0 : Int) (aW1O : Option Addr) (aW1L : Nat) (aW1C : Nat) (aW2O : Option Addr) (aW2L : Nat) (aW2C : Nat) (aW3O : Option Addr) (aW3L : Nat) (aW3C : Nat) (aCpu : Int) (w : World) (R : Value → World → Prop) : evFn c_laws_FnExactWorldPick s_laws_FnExactWorldPick [.agg #[.int .i64 aW0, .slice aW1O aW1L aW1C, .slice aW2O aW2L aW2C, .slice aW3O aW3L aW3C], .int .i64 aCpu] (bodyOf Tryz.f10) Tryz.f10.results.toList w R = V_laws_FnExactWorldPick aW0 aW1O aW1L aW1C aW2O aW2L aW2C aW3O aW3L aW3C aCpu w R := by kernel_rfl
theorem e_laws_FnExactWorldPick (aW0 : Int) (aW1O : Option Addr) (aW1L : Nat) (aW1C : Nat) (aW2O : Option Addr) (aW2L : Nat) (aW2C : Nat) (aW3O : Option Addr) (aW3L : Nat) (aW3C : Nat) (aCpu : Int) {w : World} {R : Value → World → Prop} (hvc : V_laws_FnExactWorldPick aW0 aW1O aW1L aW1C aW2O aW2L aW2C aW3O aW3L aW3C aCpu w R) : Calls Tryz.prog fn_laws_FnExactWorldPick #[.agg #[.int .i64 aW0, .slice aW1O aW1L aW1C, .slice aW2O aW2L aW2C, .slice aW3O aW3L aW3C], .int .i64 aCpu] w fun e0 wr0 => ∃ v0, e0 = .returned v0 ∧ R v0 wr0 :=
  eff_of_ev (C := c_laws_FnExactWorldPick) (sps := s_laws_FnExactWorldPick) (body := bodyOf Tryz.f10) (env _ _ _ _) Tryz.func10 rfl rfl (of_decide_eq_true (by kernel_rfl)) (of_decide_eq_true (by kernel_rfl)) rfl (by rw [v_laws_FnExactWorldPick]; exact hvc)
noncomputable def c_spec_l14Find : Cfg := { P := Tryz.prog, T := tblGet tbl, pf := pfT, ef := efT, tt := ttT, vis := [], n := 44, pm := false, wr := false }
noncomputable def s_spec_l14Find : List (Nat × LSpec) := []
def V_spec_l14Find (w0 : Int) (w1O : Option Addr) (w1L : Nat) (w1C : Nat) (w2O : Option Addr) (w2L : Nat) (w2C : Nat) (w3O : Option Addr) (w3L : Nat) (w3C : Nat) (path : ByteArray) (w : World) (R : Value → World → Prop) : Prop :=
    (∀ b, w.heap.size ≤ b →
    (∃ (l14Spl : ByteArray) (l14Spl1 : ByteArray) (l14Spl2 : Bool),
    PureX [] Tryz.prog fn_spec_l14Split #[.string path] w (.tuple #[.string l14Spl, .string l14Spl1, .bool l14Spl2]) ∧
    ((!l14Spl2) = true →
    (∀ wr, ExtX [] w wr → R (.tuple #[.int .i64 0, .string (ByteArray.mk [].toArray), .int .i64 1]) wr)) ∧
    ((!l14Spl2) = false →
    (∀ wr1, ExtX [] w wr1 → (∀ bq ∈ ([b] : List Nat), bq < wr1.heap.size) → 
    Calls Tryz.prog fn_spec_TreeFind #[.slice w3O w3L w3C, .string l14Spl] wr1 fun e wv =>
    (∃ (xTreeFi : Int),
    e = .returned (.int .i64 xTreeFi) ∧ Kept [b] wr1 wv ∧
    (∃ (l6File : Bool),
    ((decide (xTreeFi < 0)) = false → PureX [b] Tryz.prog fn_spec_l6File #[.string l14Spl1] wv (.bool l6File)) ∧
    ((((decide (xTreeFi < 0)) || (!l6File)) || (((xTreeFi == 0) && (!strEq l14Spl1 (ByteArray.mk [112, 114, 111, 99, 115].toArray))) && (!strEq l14Spl1 (ByteArray.mk [115, 116, 97, 116].toArray)))) = true →
    (∀ wr2, ExtX [b] wv wr2 → R (.tuple #[.int .i64 0, .string (ByteArray.mk [].toArray), .int .i64 2]) wr2)) ∧
    ((((decide (xTreeFi < 0)) || (!l6File)) || (((xTreeFi == 0) && (!strEq l14Spl1 (ByteArray.mk [112, 114, 111, 99, 115].toArray))) && (!strEq l14Spl1 (ByteArray.mk [115, 116, 97, 116].toArray)))) = false →
    (∀ wr3, ExtX [b] wv wr3 → R (.tuple #[.int .i64 xTreeFi, .string l14Spl1, .int .i64 0]) wr3))))))))
theorem v_spec_l14Find (w0 : Int) (w1O : Option Addr) (w1L : Nat) (w1C : Nat) (w2O : Option Addr) (w2L : Nat) (w2C : Nat) (w3O : Option Addr) (w3L : Nat) (w3C : Nat) (path : ByteArray) (w : World) (R : Value → World → Prop) : evFn c_spec_l14Find s_spec_l14Find [.agg #[.int .i64 w0, .slice w1O w1L w1C, .slice w2O w2L w2C, .slice w3O w3L w3C], .string path] (bodyOf Tryz.f77) Tryz.f77.results.toList w R = V_spec_l14Find w0 w1O w1L w1C w2O w2L w2C w3O w3L w3C path w R := by kernel_rfl
theorem e_spec_l14Find (w0 : Int) (w1O : Option Addr) (w1L : Nat) (w1C : Nat) (w2O : Option Addr) (w2L : Nat) (w2C : Nat) (w3O : Option Addr) (w3L : Nat) (w3C : Nat) (path : ByteArray) {w : World} {R : Value → World → Prop} (hvc : V_spec_l14Find w0 w1O w1L w1C w2O w2L w2C w3O w3L w3C path w R) : Calls Tryz.prog fn_spec_l14Find #[.agg #[.int .i64 w0, .slice w1O w1L w1C, .slice w2O w2L w2C, .slice w3O w3L w3C], .string path] w fun e0 wr0 => ∃ v0, e0 = .returned v0 ∧ R v0 wr0 :=
  eff_of_ev (C := c_spec_l14Find) (sps := s_spec_l14Find) (body := bodyOf Tryz.f77) (env _ _ _ _) Tryz.func77 rfl rfl (of_decide_eq_true (by kernel_rfl)) (of_decide_eq_true (by kernel_rfl)) rfl (by rw [v_spec_l14Find]; exact hvc)
noncomputable def c_spec_l14Dec : Cfg := { P := Tryz.prog, T := tblGet tbl, pf := pfT, ef := efT, tt := ttT, vis := [], n := 28, pm := false, wr := false }
noncomputable def s_spec_l14Dec : List (Nat × LSpec) := []
def V_spec_l14Dec (n : Int) (w : World) (R : Value → World → Prop) : Prop :=
    ((decide (n < (-9223372036854775807))) = true →
    (∀ wr, ExtX [] w wr → R (.string (ByteArray.mk [45, 57, 50, 50, 51, 51, 55, 50, 48, 51, 54, 56, 53, 52, 55, 55, 53, 56, 48, 56].toArray)) wr)) ∧
    ((decide (n < (-9223372036854775807))) = false →
    ((decide (n < 0)) = true →
    InR .i64 (0 - n) ∧
    (∀ wr1, ExtX [] w wr1 → (∀ bq ∈ ([] : List Nat), bq < wr1.heap.size) → 
    Calls Tryz.prog fn_spec_l14Dec #[.int .i64 (0 - n)] wr1 fun e wv =>
    (∃ (l14Dec : ByteArray),
    e = .returned (.string l14Dec) ∧ Kept [] wr1 wv ∧
    (ByteArray.mk [45].toArray).size + l14Dec.size ≤ 9223372036854775807 ∧
    (∀ wr2, ExtX [] wv wr2 → R (.string ((ByteArray.mk [45].toArray) ++ l14Dec)) wr2)))) ∧
    ((decide (n < 0)) = false →
    ((decide (n < 10)) = true →
    InR .i64 (48 + n) ∧
    InR .u8 (48 + n) ∧
    (∀ b, w.heap.size ≤ b →
    (∀ wr3, ExtX [] w wr3 → (∀ bq ∈ ([b] : List Nat), bq < wr3.heap.size) →
    (∃ (cv : ByteArray),
    ∃ wv1, ((convert ty_sl_uint8 ty_string (.slice (some (Addr.mk b 0 none)) 1 1)) : Sem Value).run Tryz.prog wr3 = .ok (.string cv) wv1 ∧ Kept [b] wr3 wv1 ∧
    (∀ wr4, ExtX [b] wv1 wr4 → R (.string cv) wr4))))) ∧
    ((decide (n < 10)) = false →
    ((10 : Int) ≠ 0 ∧ InR .i64 (Int.tdiv n 10)) ∧
    (10 : Int) ≠ 0 ∧
    InR .i64 (48 + (Int.tmod n 10)) ∧
    InR .u8 (48 + (Int.tmod n 10)) ∧
    ((∀ wr5, ExtX [] w wr5 → (∀ bq ∈ ([] : List Nat), bq < wr5.heap.size) → 
    Calls Tryz.prog fn_spec_l14Dec #[.int .i64 (Int.tdiv n 10)] wr5 fun e1 wv2 =>
    (∃ (l14Dec1 : ByteArray),
    e1 = .returned (.string l14Dec1) ∧ Kept [] wr5 wv2 ∧
    (∀ b1, wv2.heap.size ≤ b1 →
    (∀ wr6, ExtX [] wv2 wr6 → (∀ bq ∈ ([b1] : List Nat), bq < wr6.heap.size) →
    (∃ (cv1 : ByteArray),
    ∃ wv3, ((convert ty_sl_uint8 ty_string (.slice (some (Addr.mk b1 0 none)) 1 1)) : Sem Value).run Tryz.prog wr6 = .ok (.string cv1) wv3 ∧ Kept [b1] wr6 wv3 ∧
    l14Dec1.size + cv1.size ≤ 9223372036854775807 ∧
    (∀ wr7, ExtX [b1] wv3 wr7 → R (.string (l14Dec1 ++ cv1)) wr7))))))) ∧
    ((∀ b2, w.heap.size ≤ b2 →
    ((∀ wr8, ExtX [] w wr8 → (∀ bq ∈ ([b2] : List Nat), bq < wr8.heap.size) → 
    Calls Tryz.prog fn_spec_l14Dec #[.int .i64 (Int.tdiv n 10)] wr8 fun e2 wv4 =>
    (∃ (l14Dec2 : ByteArray),
    e2 = .returned (.string l14Dec2) ∧ Kept [b2] wr8 wv4 ∧
    (∀ wr9, ExtX [b2] wv4 wr9 → (∀ bq ∈ ([b2] : List Nat), bq < wr9.heap.size) →
    (∃ (cv2 : ByteArray),
    ∃ wv5, ((convert ty_sl_uint8 ty_string (.slice (some (Addr.mk b2 0 none)) 1 1)) : Sem Value).run Tryz.prog wr9 = .ok (.string cv2) wv5 ∧ Kept [b2] wr9 wv5 ∧
    l14Dec2.size + cv2.size ≤ 9223372036854775807 ∧
    (∀ wr10, ExtX [b2] wv5 wr10 → R (.string (l14Dec2 ++ cv2)) wr10)))))) ∧
    ((∀ wr11, ExtX [] w wr11 → (∀ bq ∈ ([b2] : List Nat), bq < wr11.heap.size) →
    (∃ (cv3 : ByteArray),
    ∃ wv6, ((convert ty_sl_uint8 ty_string (.slice (some (Addr.mk b2 0 none)) 1 1)) : Sem Value).run Tryz.prog wr11 = .ok (.string cv3) wv6 ∧ Kept [b2] wr11 wv6 ∧
    (∀ wr12, ExtX [b2] wv6 wr12 → (∀ bq ∈ ([b2] : List Nat), bq < wr12.heap.size) → 
    Calls Tryz.prog fn_spec_l14Dec #[.int .i64 (Int.tdiv n 10)] wr12 fun e3 wv7 =>
    (∃ (l14Dec3 : ByteArray),
    e3 = .returned (.string l14Dec3) ∧ Kept [b2] wr12 wv7 ∧
    l14Dec3.size + cv3.size ≤ 9223372036854775807 ∧
    (∀ wr13, ExtX [b2] wv7 wr13 → R (.string (l14Dec3 ++ cv3)) wr13)))))))))))
theorem v_spec_l14Dec (n : Int) (w : World) (R : Value → World → Prop) : evFn c_spec_l14Dec s_spec_l14Dec [.int .i64 n] (bodyOf Tryz.f78) Tryz.f78.results.toList w R = V_spec_l14Dec n w R := by kernel_rfl
theorem e_spec_l14Dec (n : Int) {w : World} {R : Value → World → Prop} (hvc : V_spec_l14Dec n w R) : Calls Tryz.prog fn_spec_l14Dec #[.int .i64 n] w fun e0 wr0 => ∃ v0, e0 = .returned v0 ∧ R v0 wr0 :=
  eff_of_ev (C := c_spec_l14Dec) (sps := s_spec_l14Dec) (body := bodyOf Tryz.f78) (env _ _ _ _) Tryz.func78 rfl rfl (of_decide_eq_true (by kernel_rfl)) (of_decide_eq_true (by kernel_rfl)) rfl (by rw [v_spec_l14Dec]; exact hvc)
noncomputable def c_spec_l2Digit : Cfg := { P := Tryz.prog, T := tblGet tbl, pf := pfT, ef := efT, tt := ttT, vis := [], n := 8, pm := false, wr := false }
noncomputable def s_spec_l2Digit : List (Nat × LSpec) := []
def V_spec_l2Digit (cpu : Int) (w : World) (R : Value → World → Prop) : Prop :=
    InR .i64 (48 + cpu) ∧
    InR .u8 (48 + cpu) ∧
    (∀ b, w.heap.size ≤ b →
    (∀ wr, ExtX [] w wr → (∀ bq ∈ ([b] : List Nat), bq < wr.heap.size) →
    (∃ (cv : ByteArray),
    ∃ wv, ((convert ty_sl_uint8 ty_string (.slice (some (Addr.mk b 0 none)) 1 1)) : Sem Value).run Tryz.prog wr = .ok (.string cv) wv ∧ Kept [b] wr wv ∧
    (∀ wr1, ExtX [b] wv wr1 → R (.string cv) wr1))))
theorem v_spec_l2Digit (cpu : Int) (w : World) (R : Value → World → Prop) : evFn c_spec_l2Digit s_spec_l2Digit [.int .i64 cpu] (bodyOf Tryz.f128) Tryz.f128.results.toList w R = V_spec_l2Digit cpu w R := by kernel_rfl
theorem e_spec_l2Digit (cpu : Int) {w : World} {R : Value → World → Prop} (hvc : V_spec_l2Digit cpu w R) : Calls Tryz.prog fn_spec_l2Digit #[.int .i64 cpu] w fun e0 wr0 => ∃ v0, e0 = .returned v0 ∧ R v0 wr0 :=
  eff_of_ev (C := c_spec_l2Digit) (sps := s_spec_l2Digit) (body := bodyOf Tryz.f128) (env _ _ _ _) Tryz.func128 rfl rfl (of_decide_eq_true (by kernel_rfl)) (of_decide_eq_true (by kernel_rfl)) rfl (by rw [v_spec_l2Digit]; exact hvc)
noncomputable def c_spec_MaskText : Cfg := { P := Tryz.prog, T := tblGet tbl, pf := pfT, ef := efT, tt := ttT, vis := [], n := 48, pm := false, wr := false }
noncomputable def s_spec_MaskText : List (Nat × LSpec) := [(3, { chg := [(3, .str), (4, .int .i64)], chgL := [], keep := [0] }), (7, { chg := [(5, .int .i64)], chgL := [], keep := [0, 3, 4] })]
def V_spec_MaskText (m : Int) (w : World) (R : Value → World → Prop) : Prop :=
    (∃ (xInv : List Value → World → Prop) (mu : List Value → World → Nat), (∀ wr, ExtX [] w wr → (∀ bq ∈ ([] : List Nat), bq < wr.heap.size) → xInv [.string (ByteArray.mk [].toArray), .int .i64 0] wr) ∧
    ∀ (s : ByteArray) (c : Int) wv, (∀ bq ∈ ([] : List Nat), bq < wv.heap.size) → xInv [.string s, .int .i64 c] wv →
    ((decide (c < 4)) = true →
    (∃ (xMaskHa : Bool),
    PureX [] Tryz.prog fn_spec_MaskHas #[.int .i64 m, .int .i64 c] wv (.bool xMaskHa) ∧
    ((decide (c > 0)) = true → ((!xMaskHa) = false → InR .i64 (c - 1))) ∧
    (∃ (xMaskHa1 : Bool),
    ((decide (c > 0)) = true → ((!xMaskHa) = false → PureX [] Tryz.prog fn_spec_MaskHas #[.int .i64 m, .int .i64 (c - 1)] wv (.bool xMaskHa1))) ∧
    (((!xMaskHa) || ((decide (c > 0)) && xMaskHa1)) = true →
    InR .i64 (c + 1) ∧
    (∀ wr1, ExtX [] wv wr1 → (∀ bq ∈ ([] : List Nat), bq < wr1.heap.size) → xInv [.string s, .int .i64 (c + 1)] wr1 ∧ mu [.string s, .int .i64 (c + 1)] wr1 < mu [.string s, .int .i64 c] wv)) ∧
    (((!xMaskHa) || ((decide (c > 0)) && xMaskHa1)) = false →
    (∃ (xInv1 : List Value → World → Prop) (mu1 : List Value → World → Nat), (∀ wr2, ExtX [] wv wr2 → (∀ bq ∈ ([] : List Nat), bq < wr2.heap.size) → xInv1 [.int .i64 c] wr2) ∧
    ∀ (e : Int) wv1, (∀ bq ∈ ([] : List Nat), bq < wv1.heap.size) → xInv1 [.int .i64 e] wv1 →
    InR .i64 (e + 1) ∧
    (∃ (xMaskHa2 : Bool),
    PureX [] Tryz.prog fn_spec_MaskHas #[.int .i64 m, .int .i64 (e + 1)] wv1 (.bool xMaskHa2) ∧
    (xMaskHa2 = true →
    InR .i64 (e + 1) ∧
    (∀ wr3, ExtX [] wv1 wr3 → (∀ bq ∈ ([] : List Nat), bq < wr3.heap.size) → xInv1 [.int .i64 (e + 1)] wr3 ∧ mu1 [.int .i64 (e + 1)] wr3 < mu1 [.int .i64 e] wv1)) ∧
    (xMaskHa2 = false →
    ((!strEq s (ByteArray.mk [].toArray)) = true →
    s.size + (ByteArray.mk [44].toArray).size ≤ 9223372036854775807 ∧
    (∀ wr4, ExtX [] wv1 wr4 → (∀ bq ∈ ([] : List Nat), bq < wr4.heap.size) → 
    Calls Tryz.prog fn_spec_l2Digit #[.int .i64 c] wr4 fun e1 wv2 =>
    (∃ (l2Digi : ByteArray),
    e1 = .returned (.string l2Digi) ∧ Kept [] wr4 wv2 ∧
    (s ++ (ByteArray.mk [44].toArray)).size + l2Digi.size ≤ 9223372036854775807 ∧
    ((decide (e > c)) = true →
    ((s ++ (ByteArray.mk [44].toArray)) ++ l2Digi).size + (ByteArray.mk [45].toArray).size ≤ 9223372036854775807 ∧
    (∀ wr5, ExtX [] wv2 wr5 → (∀ bq ∈ ([] : List Nat), bq < wr5.heap.size) → 
    Calls Tryz.prog fn_spec_l2Digit #[.int .i64 e] wr5 fun e2 wv3 =>
    (∃ (l2Digi1 : ByteArray),
    e2 = .returned (.string l2Digi1) ∧ Kept [] wr5 wv3 ∧
    (((s ++ (ByteArray.mk [44].toArray)) ++ l2Digi) ++ (ByteArray.mk [45].toArray)).size + l2Digi1.size ≤ 9223372036854775807 ∧
    InR .i64 (c + 1) ∧
    (∀ wr6, ExtX [] wv3 wr6 → (∀ bq ∈ ([] : List Nat), bq < wr6.heap.size) → xInv [.string ((((s ++ (ByteArray.mk [44].toArray)) ++ l2Digi) ++ (ByteArray.mk [45].toArray)) ++ l2Digi1), .int .i64 (c + 1)] wr6 ∧ mu [.string ((((s ++ (ByteArray.mk [44].toArray)) ++ l2Digi) ++ (ByteArray.mk [45].toArray)) ++ l2Digi1), .int .i64 (c + 1)] wr6 < mu [.string s, .int .i64 c] wv)))) ∧
    ((decide (e > c)) = false →
    InR .i64 (c + 1) ∧
    (∀ wr7, ExtX [] wv2 wr7 → (∀ bq ∈ ([] : List Nat), bq < wr7.heap.size) → xInv [.string ((s ++ (ByteArray.mk [44].toArray)) ++ l2Digi), .int .i64 (c + 1)] wr7 ∧ mu [.string ((s ++ (ByteArray.mk [44].toArray)) ++ l2Digi), .int .i64 (c + 1)] wr7 < mu [.string s, .int .i64 c] wv))))) ∧
    ((!strEq s (ByteArray.mk [].toArray)) = false →
    (∀ wr8, ExtX [] wv1 wr8 → (∀ bq ∈ ([] : List Nat), bq < wr8.heap.size) → 
    Calls Tryz.prog fn_spec_l2Digit #[.int .i64 c] wr8 fun e3 wv4 =>
    (∃ (l2Digi2 : ByteArray),
    e3 = .returned (.string l2Digi2) ∧ Kept [] wr8 wv4 ∧
    s.size + l2Digi2.size ≤ 9223372036854775807 ∧
    ((decide (e > c)) = true →
    (s ++ l2Digi2).size + (ByteArray.mk [45].toArray).size ≤ 9223372036854775807 ∧
    (∀ wr9, ExtX [] wv4 wr9 → (∀ bq ∈ ([] : List Nat), bq < wr9.heap.size) → 
    Calls Tryz.prog fn_spec_l2Digit #[.int .i64 e] wr9 fun e4 wv5 =>
    (∃ (l2Digi3 : ByteArray),
    e4 = .returned (.string l2Digi3) ∧ Kept [] wr9 wv5 ∧
    ((s ++ l2Digi2) ++ (ByteArray.mk [45].toArray)).size + l2Digi3.size ≤ 9223372036854775807 ∧
    InR .i64 (c + 1) ∧
    (∀ wr10, ExtX [] wv5 wr10 → (∀ bq ∈ ([] : List Nat), bq < wr10.heap.size) → xInv [.string (((s ++ l2Digi2) ++ (ByteArray.mk [45].toArray)) ++ l2Digi3), .int .i64 (c + 1)] wr10 ∧ mu [.string (((s ++ l2Digi2) ++ (ByteArray.mk [45].toArray)) ++ l2Digi3), .int .i64 (c + 1)] wr10 < mu [.string s, .int .i64 c] wv)))) ∧
    ((decide (e > c)) = false →
    InR .i64 (c + 1) ∧
    (∀ wr11, ExtX [] wv4 wr11 → (∀ bq ∈ ([] : List Nat), bq < wr11.heap.size) → xInv [.string (s ++ l2Digi2), .int .i64 (c + 1)] wr11 ∧ mu [.string (s ++ l2Digi2), .int .i64 (c + 1)] wr11 < mu [.string s, .int .i64 c] wv)))))))))))) ∧
    ((decide (c < 4)) = false →
    (∀ wr12, ExtX [] wv wr12 → R (.string s) wr12)))
theorem v_spec_MaskText (m : Int) (w : World) (R : Value → World → Prop) : evFn c_spec_MaskText s_spec_MaskText [.int .i64 m] (bodyOf Tryz.f79) Tryz.f79.results.toList w R = V_spec_MaskText m w R := by kernel_rfl
theorem e_spec_MaskText (m : Int) {w : World} {R : Value → World → Prop} (hvc : V_spec_MaskText m w R) : Calls Tryz.prog fn_spec_MaskText #[.int .i64 m] w fun e0 wr0 => ∃ v0, e0 = .returned v0 ∧ R v0 wr0 :=
  eff_of_ev (C := c_spec_MaskText) (sps := s_spec_MaskText) (body := bodyOf Tryz.f79) (env _ _ _ _) Tryz.func79 rfl rfl (of_decide_eq_true (by kernel_rfl)) (of_decide_eq_true (by kernel_rfl)) rfl (by rw [v_spec_MaskText]; exact hvc)
noncomputable def c_spec_l14Stat : Cfg := { P := Tryz.prog, T := tblGet tbl, pf := pfT, ef := efT, tt := ttT, vis := [], n := 67, pm := false, wr := false }
noncomputable def s_spec_l14Stat : List (Nat × LSpec) := [(5, { chg := [(6, .int .i64), (7, .int .i64), (8, .int .i64)], chgL := [], keep := [1, 2, 5] })]
def V_spec_l14Stat (w0 : Int) (w1O : Option Addr) (w1L : Nat) (w1C : Nat) (w2O : Option Addr) (w2L : Nat) (w2C : Nat) (w3O : Option Addr) (w3L : Nat) (w3C : Nat) (g : Int) (w : World) (R : Value → World → Prop) : Prop :=
    (∀ b, w.heap.size ≤ b →
    Ix w3O w3L g ∧
    (∃ (band0 : Int) (band1 : Int) (band2 : Int) (band3O : Option Addr) (band3L : Nat) (band3C : Nat) (band4O : Option Addr) (band4L : Nat) (band4C : Nat),
    CellsX [] w w3O (Int.toNat g * 14 + 8) [.int .i64 band0, .int .i64 band1, .int .i64 band2, .slice band3O band3L band3C, .slice band4O band4L band4C] ∧
    (∀ b1, w.heap.size ≤ b1 →
    (∃ (xInv : List Value → World → Prop) (mu : List Value → World → Nat), (∀ wr, ExtX [] w wr → (∀ bq ∈ ([b, b1] : List Nat), bq < wr.heap.size) → xInv [.int .i64 band1, .int .i64 0, .int .i64 0] wr) ∧
    ∀ (leftv : Int) (dry : Int) (c : Int) wv, (∀ bq ∈ ([b, b1] : List Nat), bq < wv.heap.size) → xInv [.int .i64 leftv, .int .i64 dry, .int .i64 c] wv →
    ((decide (c < ((band3L : Nat) : Int))) = true →
    Ix band3O band3L c ∧
    (∃ (x : Int),
    CellsX [b, b1] wv band3O (Int.toNat c * 1) [.int .i64 x] ∧
    InR .i64 (leftv + x) ∧
    Ix band4O band4L c ∧
    (∃ (x1 : Bool),
    CellsX [b, b1] wv band4O (Int.toNat c * 1) [.bool x1] ∧
    (x1 = true →
    InR .u64 c ∧
    (0 ≤ c ∧ InR .i64 (1 * 2 ^ (min (Int.toNat c) 64))) ∧
    InR .i64 (dry + (1 * 2 ^ (min (Int.toNat c) 64))) ∧
    InR .i64 (c + 1) ∧
    (∀ wr1, ExtX [b, b1] wv wr1 → (∀ bq ∈ ([b, b1] : List Nat), bq < wr1.heap.size) → xInv [.int .i64 (leftv + x), .int .i64 (dry + (1 * 2 ^ (min (Int.toNat c) 64))), .int .i64 (c + 1)] wr1 ∧ mu [.int .i64 (leftv + x), .int .i64 (dry + (1 * 2 ^ (min (Int.toNat c) 64))), .int .i64 (c + 1)] wr1 < mu [.int .i64 leftv, .int .i64 dry, .int .i64 c] wv)) ∧
    (x1 = false →
    InR .i64 (c + 1) ∧
    (∀ wr2, ExtX [b, b1] wv wr2 → (∀ bq ∈ ([b, b1] : List Nat), bq < wr2.heap.size) → xInv [.int .i64 (leftv + x), .int .i64 dry, .int .i64 (c + 1)] wr2 ∧ mu [.int .i64 (leftv + x), .int .i64 dry, .int .i64 (c + 1)] wr2 < mu [.int .i64 leftv, .int .i64 dry, .int .i64 c] wv))))) ∧
    ((decide (c < ((band3L : Nat) : Int))) = false →
    ((dry != 0) = true →
    (∀ wr3, ExtX [b, b1] wv wr3 → (∀ bq ∈ ([b, b1] : List Nat), bq < wr3.heap.size) → 
    Calls Tryz.prog fn_spec_MaskText #[.int .i64 dry] wr3 fun e wv1 =>
    (∃ (xMaskTe : ByteArray),
    e = .returned (.string xMaskTe) ∧ Kept [b, b1] wr3 wv1 ∧
    Ix w3O w3L g ∧
    (∃ (sum : Int),
    CellsX [b, b1] wv1 w3O (Int.toNat g * 14 + 7) [.int .i64 sum] ∧
    (∀ wr4, ExtX [b, b1] wv1 wr4 → (∀ bq ∈ ([b, b1] : List Nat), bq < wr4.heap.size) → 
    Calls Tryz.prog fn_spec_l14Dec #[.int .i64 sum] wr4 fun e1 wv2 =>
    (∃ (l14Dec : ByteArray),
    e1 = .returned (.string l14Dec) ∧ Kept [b, b1] wr4 wv2 ∧
    (some (ty_impl_Band, ([.int .i64 band0, .int .i64 band1, .int .i64 band2, .slice band3O band3L band3C, .slice band4O band4L band4C] : List Value)) = some (ty_impl_Band, ([.int .i64 band0, .int .i64 band1, .int .i64 band2, .slice band3O band3L band3C, .slice band4O band4L band4C] : List Value))) ∧
    (ByteArray.mk [115, 117, 109, 32].toArray).size + l14Dec.size ≤ 9223372036854775807 ∧
    ((ByteArray.mk [115, 117, 109, 32].toArray) ++ l14Dec).size + (ByteArray.mk [10, 115, 112, 101, 110, 116, 32].toArray).size ≤ 9223372036854775807 ∧
    (∀ wr5, ExtX [b, b1] wv2 wr5 → (∀ bq ∈ ([b, b1] : List Nat), bq < wr5.heap.size) → 
    Calls Tryz.prog fn_spec_l14Dec #[.int .i64 band2] wr5 fun e2 wv3 =>
    (∃ (l14Dec1 : ByteArray),
    e2 = .returned (.string l14Dec1) ∧ Kept [b, b1] wr5 wv3 ∧
    (((ByteArray.mk [115, 117, 109, 32].toArray) ++ l14Dec) ++ (ByteArray.mk [10, 115, 112, 101, 110, 116, 32].toArray)).size + l14Dec1.size ≤ 9223372036854775807 ∧
    ((((ByteArray.mk [115, 117, 109, 32].toArray) ++ l14Dec) ++ (ByteArray.mk [10, 115, 112, 101, 110, 116, 32].toArray)) ++ l14Dec1).size + (ByteArray.mk [10, 108, 101, 102, 116, 32].toArray).size ≤ 9223372036854775807 ∧
    (∀ wr6, ExtX [b, b1] wv3 wr6 → (∀ bq ∈ ([b, b1] : List Nat), bq < wr6.heap.size) → 
    Calls Tryz.prog fn_spec_l14Dec #[.int .i64 leftv] wr6 fun e3 wv4 =>
    (∃ (l14Dec2 : ByteArray),
    e3 = .returned (.string l14Dec2) ∧ Kept [b, b1] wr6 wv4 ∧
    (((((ByteArray.mk [115, 117, 109, 32].toArray) ++ l14Dec) ++ (ByteArray.mk [10, 115, 112, 101, 110, 116, 32].toArray)) ++ l14Dec1) ++ (ByteArray.mk [10, 108, 101, 102, 116, 32].toArray)).size + l14Dec2.size ≤ 9223372036854775807 ∧
    ((((((ByteArray.mk [115, 117, 109, 32].toArray) ++ l14Dec) ++ (ByteArray.mk [10, 115, 112, 101, 110, 116, 32].toArray)) ++ l14Dec1) ++ (ByteArray.mk [10, 108, 101, 102, 116, 32].toArray)) ++ l14Dec2).size + (ByteArray.mk [10, 100, 114, 121, 32].toArray).size ≤ 9223372036854775807 ∧
    (((((((ByteArray.mk [115, 117, 109, 32].toArray) ++ l14Dec) ++ (ByteArray.mk [10, 115, 112, 101, 110, 116, 32].toArray)) ++ l14Dec1) ++ (ByteArray.mk [10, 108, 101, 102, 116, 32].toArray)) ++ l14Dec2) ++ (ByteArray.mk [10, 100, 114, 121, 32].toArray)).size + xMaskTe.size ≤ 9223372036854775807 ∧
    ((((((((ByteArray.mk [115, 117, 109, 32].toArray) ++ l14Dec) ++ (ByteArray.mk [10, 115, 112, 101, 110, 116, 32].toArray)) ++ l14Dec1) ++ (ByteArray.mk [10, 108, 101, 102, 116, 32].toArray)) ++ l14Dec2) ++ (ByteArray.mk [10, 100, 114, 121, 32].toArray)) ++ xMaskTe).size + (ByteArray.mk [10].toArray).size ≤ 9223372036854775807 ∧
    (∀ wr7, ExtX [b, b1] wv4 wr7 → R (.string (((((((((ByteArray.mk [115, 117, 109, 32].toArray) ++ l14Dec) ++ (ByteArray.mk [10, 115, 112, 101, 110, 116, 32].toArray)) ++ l14Dec1) ++ (ByteArray.mk [10, 108, 101, 102, 116, 32].toArray)) ++ l14Dec2) ++ (ByteArray.mk [10, 100, 114, 121, 32].toArray)) ++ xMaskTe) ++ (ByteArray.mk [10].toArray))) wr7))))))))))) ∧
    ((dry != 0) = false →
    Ix w3O w3L g ∧
    (∃ (sum1 : Int),
    CellsX [b, b1] wv w3O (Int.toNat g * 14 + 7) [.int .i64 sum1] ∧
    (∀ wr8, ExtX [b, b1] wv wr8 → (∀ bq ∈ ([b, b1] : List Nat), bq < wr8.heap.size) → 
    Calls Tryz.prog fn_spec_l14Dec #[.int .i64 sum1] wr8 fun e4 wv5 =>
    (∃ (l14Dec3 : ByteArray),
    e4 = .returned (.string l14Dec3) ∧ Kept [b, b1] wr8 wv5 ∧
    (some (ty_impl_Band, ([.int .i64 band0, .int .i64 band1, .int .i64 band2, .slice band3O band3L band3C, .slice band4O band4L band4C] : List Value)) = some (ty_impl_Band, ([.int .i64 band0, .int .i64 band1, .int .i64 band2, .slice band3O band3L band3C, .slice band4O band4L band4C] : List Value))) ∧
    (ByteArray.mk [115, 117, 109, 32].toArray).size + l14Dec3.size ≤ 9223372036854775807 ∧
    ((ByteArray.mk [115, 117, 109, 32].toArray) ++ l14Dec3).size + (ByteArray.mk [10, 115, 112, 101, 110, 116, 32].toArray).size ≤ 9223372036854775807 ∧
    (∀ wr9, ExtX [b, b1] wv5 wr9 → (∀ bq ∈ ([b, b1] : List Nat), bq < wr9.heap.size) → 
    Calls Tryz.prog fn_spec_l14Dec #[.int .i64 band2] wr9 fun e5 wv6 =>
    (∃ (l14Dec4 : ByteArray),
    e5 = .returned (.string l14Dec4) ∧ Kept [b, b1] wr9 wv6 ∧
    (((ByteArray.mk [115, 117, 109, 32].toArray) ++ l14Dec3) ++ (ByteArray.mk [10, 115, 112, 101, 110, 116, 32].toArray)).size + l14Dec4.size ≤ 9223372036854775807 ∧
    ((((ByteArray.mk [115, 117, 109, 32].toArray) ++ l14Dec3) ++ (ByteArray.mk [10, 115, 112, 101, 110, 116, 32].toArray)) ++ l14Dec4).size + (ByteArray.mk [10, 108, 101, 102, 116, 32].toArray).size ≤ 9223372036854775807 ∧
    (∀ wr10, ExtX [b, b1] wv6 wr10 → (∀ bq ∈ ([b, b1] : List Nat), bq < wr10.heap.size) → 
    Calls Tryz.prog fn_spec_l14Dec #[.int .i64 leftv] wr10 fun e6 wv7 =>
    (∃ (l14Dec5 : ByteArray),
    e6 = .returned (.string l14Dec5) ∧ Kept [b, b1] wr10 wv7 ∧
    (((((ByteArray.mk [115, 117, 109, 32].toArray) ++ l14Dec3) ++ (ByteArray.mk [10, 115, 112, 101, 110, 116, 32].toArray)) ++ l14Dec4) ++ (ByteArray.mk [10, 108, 101, 102, 116, 32].toArray)).size + l14Dec5.size ≤ 9223372036854775807 ∧
    ((((((ByteArray.mk [115, 117, 109, 32].toArray) ++ l14Dec3) ++ (ByteArray.mk [10, 115, 112, 101, 110, 116, 32].toArray)) ++ l14Dec4) ++ (ByteArray.mk [10, 108, 101, 102, 116, 32].toArray)) ++ l14Dec5).size + (ByteArray.mk [10, 100, 114, 121, 32].toArray).size ≤ 9223372036854775807 ∧
    (((((((ByteArray.mk [115, 117, 109, 32].toArray) ++ l14Dec3) ++ (ByteArray.mk [10, 115, 112, 101, 110, 116, 32].toArray)) ++ l14Dec4) ++ (ByteArray.mk [10, 108, 101, 102, 116, 32].toArray)) ++ l14Dec5) ++ (ByteArray.mk [10, 100, 114, 121, 32].toArray)).size + (ByteArray.mk [110, 111, 110, 101].toArray).size ≤ 9223372036854775807 ∧
    ((((((((ByteArray.mk [115, 117, 109, 32].toArray) ++ l14Dec3) ++ (ByteArray.mk [10, 115, 112, 101, 110, 116, 32].toArray)) ++ l14Dec4) ++ (ByteArray.mk [10, 108, 101, 102, 116, 32].toArray)) ++ l14Dec5) ++ (ByteArray.mk [10, 100, 114, 121, 32].toArray)) ++ (ByteArray.mk [110, 111, 110, 101].toArray)).size + (ByteArray.mk [10].toArray).size ≤ 9223372036854775807 ∧
    (∀ wr11, ExtX [b, b1] wv7 wr11 → R (.string (((((((((ByteArray.mk [115, 117, 109, 32].toArray) ++ l14Dec3) ++ (ByteArray.mk [10, 115, 112, 101, 110, 116, 32].toArray)) ++ l14Dec4) ++ (ByteArray.mk [10, 108, 101, 102, 116, 32].toArray)) ++ l14Dec5) ++ (ByteArray.mk [10, 100, 114, 121, 32].toArray)) ++ (ByteArray.mk [110, 111, 110, 101].toArray)) ++ (ByteArray.mk [10].toArray))) wr11))))))))))))))
theorem v_spec_l14Stat (w0 : Int) (w1O : Option Addr) (w1L : Nat) (w1C : Nat) (w2O : Option Addr) (w2L : Nat) (w2C : Nat) (w3O : Option Addr) (w3L : Nat) (w3C : Nat) (g : Int) (w : World) (R : Value → World → Prop) : evFn c_spec_l14Stat s_spec_l14Stat [.agg #[.int .i64 w0, .slice w1O w1L w1C, .slice w2O w2L w2C, .slice w3O w3L w3C], .int .i64 g] (bodyOf Tryz.f80) Tryz.f80.results.toList w R = V_spec_l14Stat w0 w1O w1L w1C w2O w2L w2C w3O w3L w3C g w R := by kernel_rfl
theorem e_spec_l14Stat (w0 : Int) (w1O : Option Addr) (w1L : Nat) (w1C : Nat) (w2O : Option Addr) (w2L : Nat) (w2C : Nat) (w3O : Option Addr) (w3L : Nat) (w3C : Nat) (g : Int) {w : World} {R : Value → World → Prop} (hvc : V_spec_l14Stat w0 w1O w1L w1C w2O w2L w2C w3O w3L w3C g w R) : Calls Tryz.prog fn_spec_l14Stat #[.agg #[.int .i64 w0, .slice w1O w1L w1C, .slice w2O w2L w2C, .slice w3O w3L w3C], .int .i64 g] w fun e0 wr0 => ∃ v0, e0 = .returned v0 ∧ R v0 wr0 :=
  eff_of_ev (C := c_spec_l14Stat) (sps := s_spec_l14Stat) (body := bodyOf Tryz.f80) (env _ _ _ _) Tryz.func80 rfl rfl (of_decide_eq_true (by kernel_rfl)) (of_decide_eq_true (by kernel_rfl)) rfl (by rw [v_spec_l14Stat]; exact hvc)
noncomputable def c_spec_FileRead : Cfg := { P := Tryz.prog, T := tblGet tbl, pf := pfT, ef := efT, tt := ttT, vis := [], n := 100, pm := false, wr := false }
noncomputable def s_spec_FileRead : List (Nat × LSpec) := [(20, { chg := [(10, .str), (11, .int .i64)], chgL := [], keep := [2, 6, 8] })]
def V_spec_FileRead (w0 : Int) (w1O : Option Addr) (w1L : Nat) (w1C : Nat) (w2O : Option Addr) (w2L : Nat) (w2C : Nat) (w3O : Option Addr) (w3L : Nat) (w3C : Nat) (path : ByteArray) (w : World) (R : Value → World → Prop) : Prop :=
    (∀ b, w.heap.size ≤ b →
    (∃ (xWorldO : Bool),
    PureX [] Tryz.prog fn_spec_WorldOk #[.agg #[.int .i64 w0, .slice w1O w1L w1C, .slice w2O w2L w2C, .slice w3O w3L w3C]] w (.bool xWorldO) ∧
    ((!xWorldO) = true →
    (∀ wr, ExtX [] w wr → R (.tuple #[.string (ByteArray.mk [].toArray), .int .i64 1]) wr)) ∧
    ((!xWorldO) = false →
    (∀ wr1, ExtX [] w wr1 → (∀ bq ∈ ([b] : List Nat), bq < wr1.heap.size) → 
    Calls Tryz.prog fn_spec_l14Find #[.agg #[.int .i64 w0, .slice w1O w1L w1C, .slice w2O w2L w2C, .slice w3O w3L w3C], .string path] wr1 fun e wv =>
    (∃ (l14Fin : Int) (l14Fin1 : ByteArray) (l14Fin2 : Int),
    e = .returned (.tuple #[.int .i64 l14Fin, .string l14Fin1, .int .i64 l14Fin2]) ∧ Kept [b] wr1 wv ∧
    ((l14Fin2 != 0) = true →
    (∀ wr2, ExtX [b] wv wr2 → R (.tuple #[.string (ByteArray.mk [].toArray), .int .i64 l14Fin2]) wr2)) ∧
    ((l14Fin2 != 0) = false →
    Ix w3O w3L l14Fin ∧
    (∃ (x0 : Bool) (x1 : Int) (x2 : ByteArray) (x3 : Int) (x4 : Int) (x5 : Int) (x6 : Int) (x7 : Int) (x8 : Int) (x9 : Int) (x10 : Int) (x11O : Option Addr) (x11L : Nat) (x11C : Nat) (x12O : Option Addr) (x12L : Nat) (x12C : Nat) (x13O : Option Addr) (x13L : Nat) (x13C : Nat),
    CellsX [b] wv w3O (Int.toNat l14Fin * 14) [.bool x0, .int .i64 x1, .string x2, .int .i64 x3, .int .i64 x4, .int .i64 x5, .int .i64 x6, .int .i64 x7, .int .i64 x8, .int .i64 x9, .int .i64 x10, .slice x11O x11L x11C, .slice x12O x12L x12C, .slice x13O x13L x13C] ∧
    (∀ b1, wv.heap.size ≤ b1 →
    ((strEq l14Fin1 (ByteArray.mk [119, 101, 105, 103, 104, 116].toArray)) = true →
    (∀ wr3, ExtX [b] wv wr3 → (∀ bq ∈ ([b, b1] : List Nat), bq < wr3.heap.size) → 
    Calls Tryz.prog fn_spec_l14Dec #[.int .i64 x3] wr3 fun e1 wv1 =>
    (∃ (l14Dec : ByteArray),
    e1 = .returned (.string l14Dec) ∧ Kept [b, b1] wr3 wv1 ∧
    l14Dec.size + (ByteArray.mk [10].toArray).size ≤ 9223372036854775807 ∧
    (∀ wr4, ExtX [b, b1] wv1 wr4 → R (.tuple #[.string (l14Dec ++ (ByteArray.mk [10].toArray)), .int .i64 l14Fin2]) wr4)))) ∧
    ((strEq l14Fin1 (ByteArray.mk [119, 101, 105, 103, 104, 116].toArray)) = false →
    ((strEq l14Fin1 (ByteArray.mk [109, 97, 120].toArray)) = true →
    ((x8 == 0) = true →
    (∀ wr5, ExtX [b] wv wr5 → R (.tuple #[.string (ByteArray.mk [110, 111, 110, 101, 10].toArray), .int .i64 l14Fin2]) wr5)) ∧
    ((x8 == 0) = false →
    (∀ wr6, ExtX [b] wv wr6 → (∀ bq ∈ ([b, b1] : List Nat), bq < wr6.heap.size) → 
    Calls Tryz.prog fn_spec_l14Dec #[.int .i64 x8] wr6 fun e2 wv2 =>
    (∃ (l14Dec1 : ByteArray),
    e2 = .returned (.string l14Dec1) ∧ Kept [b, b1] wr6 wv2 ∧
    (some (ty_impl_Group, ([.bool x0, .int .i64 x1, .string x2, .int .i64 x3, .int .i64 x4, .int .i64 x5, .int .i64 x6, .int .i64 x7, .int .i64 x8, .int .i64 x9, .int .i64 x10, .slice x11O x11L x11C, .slice x12O x12L x12C, .slice x13O x13L x13C] : List Value)) = some (ty_impl_Group, ([.bool x0, .int .i64 x1, .string x2, .int .i64 x3, .int .i64 x4, .int .i64 x5, .int .i64 x6, .int .i64 x7, .int .i64 x8, .int .i64 x9, .int .i64 x10, .slice x11O x11L x11C, .slice x12O x12L x12C, .slice x13O x13L x13C] : List Value))) ∧
    l14Dec1.size + (ByteArray.mk [32].toArray).size ≤ 9223372036854775807 ∧
    (∀ wr7, ExtX [b, b1] wv2 wr7 → (∀ bq ∈ ([b, b1] : List Nat), bq < wr7.heap.size) → 
    Calls Tryz.prog fn_spec_l14Dec #[.int .i64 x5] wr7 fun e3 wv3 =>
    (∃ (l14Dec2 : ByteArray),
    e3 = .returned (.string l14Dec2) ∧ Kept [b, b1] wr7 wv3 ∧
    (l14Dec1 ++ (ByteArray.mk [32].toArray)).size + l14Dec2.size ≤ 9223372036854775807 ∧
    ((l14Dec1 ++ (ByteArray.mk [32].toArray)) ++ l14Dec2).size + (ByteArray.mk [10].toArray).size ≤ 9223372036854775807 ∧
    (∀ wr8, ExtX [b, b1] wv3 wr8 → R (.tuple #[.string (((l14Dec1 ++ (ByteArray.mk [32].toArray)) ++ l14Dec2) ++ (ByteArray.mk [10].toArray)), .int .i64 l14Fin2]) wr8))))))) ∧
    ((strEq l14Fin1 (ByteArray.mk [109, 97, 120].toArray)) = false →
    ((strEq l14Fin1 (ByteArray.mk [99, 112, 117, 115].toArray)) = true →
    (∀ wr9, ExtX [b] wv wr9 → (∀ bq ∈ ([b, b1] : List Nat), bq < wr9.heap.size) → 
    Calls Tryz.prog fn_spec_MaskText #[.int .i64 x4] wr9 fun e4 wv4 =>
    (∃ (xMaskTe : ByteArray),
    e4 = .returned (.string xMaskTe) ∧ Kept [b, b1] wr9 wv4 ∧
    xMaskTe.size + (ByteArray.mk [10].toArray).size ≤ 9223372036854775807 ∧
    (∀ wr10, ExtX [b, b1] wv4 wr10 → R (.tuple #[.string (xMaskTe ++ (ByteArray.mk [10].toArray)), .int .i64 l14Fin2]) wr10)))) ∧
    ((strEq l14Fin1 (ByteArray.mk [99, 112, 117, 115].toArray)) = false →
    ((strEq l14Fin1 (ByteArray.mk [115, 116, 97, 116].toArray)) = true →
    (∀ wr11, ExtX [b] wv wr11 → (∀ bq ∈ ([b, b1] : List Nat), bq < wr11.heap.size) → 
    Calls Tryz.prog fn_spec_l14Stat #[.agg #[.int .i64 w0, .slice w1O w1L w1C, .slice w2O w2L w2C, .slice w3O w3L w3C], .int .i64 l14Fin] wr11 fun e5 wv5 =>
    (∃ (l14Sta : ByteArray),
    e5 = .returned (.string l14Sta) ∧ Kept [b, b1] wr11 wv5 ∧
    (∀ wr12, ExtX [b, b1] wv5 wr12 → R (.tuple #[.string l14Sta, .int .i64 l14Fin2]) wr12)))) ∧
    ((strEq l14Fin1 (ByteArray.mk [115, 116, 97, 116].toArray)) = false →
    (∃ (xInv : List Value → World → Prop) (mu : List Value → World → Nat), (∀ wr13, ExtX [b] wv wr13 → (∀ bq ∈ ([b, b1] : List Nat), bq < wr13.heap.size) → xInv [.string (ByteArray.mk [].toArray), .int .i64 0] wr13) ∧
    ∀ (s : ByteArray) (t : Int) wv6, (∀ bq ∈ ([b, b1] : List Nat), bq < wv6.heap.size) → xInv [.string s, .int .i64 t] wv6 →
    ((decide (t < ((w2L : Nat) : Int))) = true →
    Ix w2O w2L t ∧
    (∃ (state : Int),
    CellsX [b, b1] wv6 w2O (Int.toNat t * 9 + 0) [.int .i64 state] ∧
    ((state != 0) = true → Ix w2O w2L t) ∧
    (∃ (group : Int),
    ((state != 0) = true → CellsX [b, b1] wv6 w2O (Int.toNat t * 9 + 1) [.int .i64 group]) ∧
    (((state != 0) && (group == l14Fin)) = true →
    (∀ wr14, ExtX [b, b1] wv6 wr14 → (∀ bq ∈ ([b, b1] : List Nat), bq < wr14.heap.size) → 
    Calls Tryz.prog fn_spec_l14Dec #[.int .i64 t] wr14 fun e6 wv7 =>
    (∃ (l14Dec3 : ByteArray),
    e6 = .returned (.string l14Dec3) ∧ Kept [b, b1] wr14 wv7 ∧
    s.size + l14Dec3.size ≤ 9223372036854775807 ∧
    (s ++ l14Dec3).size + (ByteArray.mk [10].toArray).size ≤ 9223372036854775807 ∧
    InR .i64 (t + 1) ∧
    (∀ wr15, ExtX [b, b1] wv7 wr15 → (∀ bq ∈ ([b, b1] : List Nat), bq < wr15.heap.size) → xInv [.string ((s ++ l14Dec3) ++ (ByteArray.mk [10].toArray)), .int .i64 (t + 1)] wr15 ∧ mu [.string ((s ++ l14Dec3) ++ (ByteArray.mk [10].toArray)), .int .i64 (t + 1)] wr15 < mu [.string s, .int .i64 t] wv6)))) ∧
    (((state != 0) && (group == l14Fin)) = false →
    InR .i64 (t + 1) ∧
    (∀ wr16, ExtX [b, b1] wv6 wr16 → (∀ bq ∈ ([b, b1] : List Nat), bq < wr16.heap.size) → xInv [.string s, .int .i64 (t + 1)] wr16 ∧ mu [.string s, .int .i64 (t + 1)] wr16 < mu [.string s, .int .i64 t] wv6))))) ∧
    ((decide (t < ((w2L : Nat) : Int))) = false →
    (∀ wr17, ExtX [b, b1] wv6 wr17 → R (.tuple #[.string s, .int .i64 l14Fin2]) wr17)))))))))))))))
theorem v_spec_FileRead (w0 : Int) (w1O : Option Addr) (w1L : Nat) (w1C : Nat) (w2O : Option Addr) (w2L : Nat) (w2C : Nat) (w3O : Option Addr) (w3L : Nat) (w3C : Nat) (path : ByteArray) (w : World) (R : Value → World → Prop) : evFn c_spec_FileRead s_spec_FileRead [.agg #[.int .i64 w0, .slice w1O w1L w1C, .slice w2O w2L w2C, .slice w3O w3L w3C], .string path] (bodyOf Tryz.f31) Tryz.f31.results.toList w R = V_spec_FileRead w0 w1O w1L w1C w2O w2L w2C w3O w3L w3C path w R := by kernel_rfl
theorem e_spec_FileRead (w0 : Int) (w1O : Option Addr) (w1L : Nat) (w1C : Nat) (w2O : Option Addr) (w2L : Nat) (w2C : Nat) (w3O : Option Addr) (w3L : Nat) (w3C : Nat) (path : ByteArray) {w : World} {R : Value → World → Prop} (hvc : V_spec_FileRead w0 w1O w1L w1C w2O w2L w2C w3O w3L w3C path w R) : Calls Tryz.prog fn_spec_FileRead #[.agg #[.int .i64 w0, .slice w1O w1L w1C, .slice w2O w2L w2C, .slice w3O w3L w3C], .string path] w fun e0 wr0 => ∃ v0, e0 = .returned v0 ∧ R v0 wr0 :=
  eff_of_ev (C := c_spec_FileRead) (sps := s_spec_FileRead) (body := bodyOf Tryz.f31) (env _ _ _ _) Tryz.func31 rfl rfl (of_decide_eq_true (by kernel_rfl)) (of_decide_eq_true (by kernel_rfl)) rfl (by rw [v_spec_FileRead]; exact hvc)
noncomputable def c_impl_files : Cfg := { P := Tryz.prog, T := tblGet tbl, pf := pfT, ef := efT, tt := ttT, vis := [], n := 13, pm := false, wr := false }
noncomputable def s_impl_files : List (Nat × LSpec) := []
def V_impl_files (w : World) (R : Value → World → Prop) : Prop :=
    (∀ wr, ExtX [] w wr → (∀ bq ∈ ([] : List Nat), bq < wr.heap.size) →
    (∃ (mp : Value),
    ∃ wv, ((Instr.makeMap ty_map_string_impl_file none) : Sem Value).run Tryz.prog wr = .ok mp wv ∧ Kept [] wr wv ∧
    (∀ wr1, ExtX [] wv wr1 → (∀ bq ∈ ([] : List Nat), bq < wr1.heap.size) →
    ∃ wv1, ((do Instr.mapUpdate ty_map_string_impl_file mp (.string (ByteArray.mk [119, 101, 105, 103, 104, 116].toArray)) (.iface ty_impl_weightFile (.agg #[])); pure undef) : Sem Value).run Tryz.prog wr1 = .ok undef wv1 ∧ Kept [] wr1 wv1 ∧
    (∀ wr2, ExtX [] wv1 wr2 → (∀ bq ∈ ([] : List Nat), bq < wr2.heap.size) →
    ∃ wv2, ((do Instr.mapUpdate ty_map_string_impl_file mp (.string (ByteArray.mk [109, 97, 120].toArray)) (.iface ty_impl_maxFile (.agg #[])); pure undef) : Sem Value).run Tryz.prog wr2 = .ok undef wv2 ∧ Kept [] wr2 wv2 ∧
    (∀ wr3, ExtX [] wv2 wr3 → (∀ bq ∈ ([] : List Nat), bq < wr3.heap.size) →
    ∃ wv3, ((do Instr.mapUpdate ty_map_string_impl_file mp (.string (ByteArray.mk [99, 112, 117, 115].toArray)) (.iface ty_impl_cpusFile (.agg #[])); pure undef) : Sem Value).run Tryz.prog wr3 = .ok undef wv3 ∧ Kept [] wr3 wv3 ∧
    (∀ wr4, ExtX [] wv3 wr4 → (∀ bq ∈ ([] : List Nat), bq < wr4.heap.size) →
    ∃ wv4, ((do Instr.mapUpdate ty_map_string_impl_file mp (.string (ByteArray.mk [112, 114, 111, 99, 115].toArray)) (.iface ty_impl_procsFile (.agg #[])); pure undef) : Sem Value).run Tryz.prog wr4 = .ok undef wv4 ∧ Kept [] wr4 wv4 ∧
    (∀ wr5, ExtX [] wv4 wr5 → (∀ bq ∈ ([] : List Nat), bq < wr5.heap.size) →
    ∃ wv5, ((do Instr.mapUpdate ty_map_string_impl_file mp (.string (ByteArray.mk [115, 116, 97, 116].toArray)) (.iface ty_impl_statFile (.agg #[])); pure undef) : Sem Value).run Tryz.prog wr5 = .ok undef wv5 ∧ Kept [] wr5 wv5 ∧
    (∀ wr6, ExtX [] wv5 wr6 → R mp wr6))))))))
theorem v_impl_files (w : World) (R : Value → World → Prop) : evFn c_impl_files s_impl_files [] (bodyOf Tryz.f129) Tryz.f129.results.toList w R = V_impl_files w R := by kernel_rfl
theorem e_impl_files {w : World} {R : Value → World → Prop} (hvc : V_impl_files w R) : Calls Tryz.prog fn_impl_files #[] w fun e0 wr0 => ∃ v0, e0 = .returned v0 ∧ R v0 wr0 :=
  eff_of_ev (C := c_impl_files) (sps := s_impl_files) (body := bodyOf Tryz.f129) (env _ _ _ _) Tryz.func129 rfl rfl (of_decide_eq_true (by kernel_rfl)) (of_decide_eq_true (by kernel_rfl)) rfl (by rw [v_impl_files]; exact hvc)
noncomputable def c_impl_findFile : Cfg := { P := Tryz.prog, T := tblGet tbl, pf := pfT, ef := efT, tt := ttT, vis := [], n := 44, pm := false, wr := false }
noncomputable def s_impl_findFile : List (Nat × LSpec) := [(8, { chg := [(32, .int .i64)], chgL := [], keep := [8, 10, 30, 31] })]
def V_impl_findFile (wv : Option Addr) (path : ByteArray) (w : World) (R : Value → World → Prop) : Prop :=
    (∃ (splitP : ByteArray) (splitP1 : ByteArray) (splitP2 : Bool),
    PureX [] Tryz.prog fn_impl_splitPath #[.string path] w (.tuple #[.string splitP, .string splitP1, .bool splitP2]) ∧
    ((!splitP2) = true →
    (∀ wr, ExtX [] w wr → R (.tuple #[.int .i64 0, .nilIface, .int .i64 1]) wr)) ∧
    ((!splitP2) = false →
    wv.isSome = true ∧
    (∃ (groupsO : Option Addr) (groupsL : Nat) (groupsC : Nat),
    CellsX [] w wv (0 + 3) [.slice groupsO groupsL groupsC] ∧
    (∃ (xTreeFi : Int),
    PureX [] Tryz.prog fn_impl_TreeFind #[.slice groupsO groupsL groupsC, .string splitP] w (.int .i64 xTreeFi) ∧
    ((decide (xTreeFi < 0)) = true →
    (∀ wr1, ExtX [] w wr1 → R (.tuple #[.int .i64 0, .nilIface, .int .i64 2]) wr1)) ∧
    ((decide (xTreeFi < 0)) = false →
    (∀ wr2, ExtX [] w wr2 → (∀ bq ∈ ([] : List Nat), bq < wr2.heap.size) → 
    Calls Tryz.prog fn_impl_fileNames #[.int .i64 xTreeFi] wr2 fun e wv1 =>
    (∃ (fileNaO : Option Addr) (fileNaL : Nat) (fileNaC : Nat),
    e = .returned (.slice fileNaO fileNaL fileNaC) ∧ Kept [] wr2 wv1 ∧
    (∃ (xInv : List Value → World → Prop) (mu : List Value → World → Nat), (∀ wr3, ExtX [] wv1 wr3 → (∀ bq ∈ ([] : List Nat), bq < wr3.heap.size) → xInv [.int .i64 0] wr3) ∧
    ∀ (x : Int) wv2, (∀ bq ∈ ([] : List Nat), bq < wv2.heap.size) → xInv [.int .i64 x] wv2 →
    ((decide (x < ((fileNaL : Nat) : Int))) = true →
    Ix fileNaO fileNaL x ∧
    (∃ (x1 : ByteArray),
    CellsX [] wv2 fileNaO (Int.toNat x * 1) [.string x1] ∧
    ((strEq x1 splitP1) = true →
    (∀ wr4, ExtX [] wv2 wr4 → (∀ bq ∈ ([] : List Nat), bq < wr4.heap.size) → 
    Calls Tryz.prog fn_impl_files #[] wr4 fun e1 wv3 =>
    (∃ (files : Value),
    e1 = .returned files ∧ Kept [] wr4 wv3 ∧
    (∀ wr5, ExtX [] wv3 wr5 → (∀ bq ∈ ([] : List Nat), bq < wr5.heap.size) →
    (∃ (lk : Value),
    ∃ wv4, ((Instr.lookup ty_map_string_impl_file files (.string x1) false) : Sem Value).run Tryz.prog wr5 = .ok lk wv4 ∧ Kept [] wr5 wv4 ∧
    (∀ wr6, ExtX [] wv4 wr6 → R (.tuple #[.int .i64 xTreeFi, lk, .int .i64 0]) wr6)))))) ∧
    ((strEq x1 splitP1) = false →
    InR .i64 (x + 1) ∧
    (∀ wr7, ExtX [] wv2 wr7 → (∀ bq ∈ ([] : List Nat), bq < wr7.heap.size) → xInv [.int .i64 (x + 1)] wr7 ∧ mu [.int .i64 (x + 1)] wr7 < mu [.int .i64 x] wv2)))) ∧
    ((decide (x < ((fileNaL : Nat) : Int))) = false →
    (∀ wr8, ExtX [] wv2 wr8 → R (.tuple #[.int .i64 0, .nilIface, .int .i64 2]) wr8))))))))))
theorem v_impl_findFile (wv : Option Addr) (path : ByteArray) (w : World) (R : Value → World → Prop) : evFn c_impl_findFile s_impl_findFile [.pointer wv, .string path] (bodyOf Tryz.f81) Tryz.f81.results.toList w R = V_impl_findFile wv path w R := by kernel_rfl
theorem e_impl_findFile (wv : Option Addr) (path : ByteArray) {w : World} {R : Value → World → Prop} (hvc : V_impl_findFile wv path w R) : Calls Tryz.prog fn_impl_findFile #[.pointer wv, .string path] w fun e0 wr0 => ∃ v0, e0 = .returned v0 ∧ R v0 wr0 :=
  eff_of_ev (C := c_impl_findFile) (sps := s_impl_findFile) (body := bodyOf Tryz.f81) (env _ _ _ _) Tryz.func81 rfl rfl (of_decide_eq_true (by kernel_rfl)) (of_decide_eq_true (by kernel_rfl)) rfl (by rw [v_impl_findFile]; exact hvc)
noncomputable def c_impl_FileRead : Cfg := { P := Tryz.prog, T := tblGet tbl, pf := pfT, ef := efT, tt := ttT, vis := [2], n := 24, pm := false, wr := false }
noncomputable def s_impl_FileRead : List (Nat × LSpec) := []
def V_impl_FileRead (w0 : Int) (w1O : Option Addr) (w1L : Nat) (w1C : Nat) (w2O : Option Addr) (w2L : Nat) (w2C : Nat) (w3O : Option Addr) (w3L : Nat) (w3C : Nat) (path : ByteArray) (w : World) (R : Value → World → Prop) : Prop :=
    (∀ b wb, ExtX [] w wb → w.heap.size ≤ b → wb.heap[b]? = some (Obj.cells ([.int .i64 w0, .slice w1O w1L w1C, .slice w2O w2L w2C, .slice w3O w3L w3C] : List Value).toArray ty_impl_World (0, 0)) → b ∉ ([] : List Nat) →
    (∃ (x0 : Int) (x1O : Option Addr) (x1L : Nat) (x1C : Nat) (x2O : Option Addr) (x2L : Nat) (x2C : Nat) (x3O : Option Addr) (x3L : Nat) (x3C : Nat),
    CellsX [] wb (some (Addr.mk b 0 none)) 0 [.int .i64 x0, .slice x1O x1L x1C, .slice x2O x2L x2C, .slice x3O x3L x3C] ∧
    (∃ (xWorldO : Bool),
    PureX [] Tryz.prog fn_impl_WorldOk #[.agg #[.int .i64 x0, .slice x1O x1L x1C, .slice x2O x2L x2C, .slice x3O x3L x3C]] wb (.bool xWorldO) ∧
    ((!xWorldO) = true →
    (∀ wr, ExtX [] wb wr → R (.tuple #[.string (ByteArray.mk [].toArray), .int .i64 1]) wr)) ∧
    ((!xWorldO) = false →
    (∀ wr1, ExtX [] wb wr1 → (∀ bq ∈ ([] : List Nat), bq < wr1.heap.size) → 
    Calls Tryz.prog fn_impl_findFile #[.pointer ((some (Addr.mk b 0 none)).map (·.add 0)), .string path] wr1 fun e wv =>
    (∃ (findFi : Int) (findFi1 : Value) (findFi2 : Int),
    e = .returned (.tuple #[.int .i64 findFi, findFi1, .int .i64 findFi2]) ∧ Kept [] wr1 wv ∧
    ((findFi2 != 0) = true →
    (∀ wr2, ExtX [] wv wr2 → R (.tuple #[.string (ByteArray.mk [].toArray), .int .i64 findFi2]) wr2)) ∧
    ((findFi2 != 0) = false →
    (∀ wr3, ExtX [] wv wr3 → (∀ bq ∈ ([] : List Nat), bq < wr3.heap.size) → 
    (∃ (ff : FuncId) (aa : Array Value), (callM "loop.example/stint/impl.read" findFi1 [.pointer ((some (Addr.mk b 0 none)).map (·.add 0)), .int .i64 findFi]).run Tryz.prog wr3 = .ok (.enter ff aa) wr3 ∧
    Calls Tryz.prog ff aa wr3 fun e1 wv1 =>
    (∃ (rv : ByteArray),
    e1 = .returned (.string rv) ∧ Kept [] wr3 wv1 ∧
    (∀ wr4, ExtX [] wv1 wr4 → R (.tuple #[.string rv, .int .i64 0]) wr4)))))))))))
theorem v_impl_FileRead (w0 : Int) (w1O : Option Addr) (w1L : Nat) (w1C : Nat) (w2O : Option Addr) (w2L : Nat) (w2C : Nat) (w3O : Option Addr) (w3L : Nat) (w3C : Nat) (path : ByteArray) (w : World) (R : Value → World → Prop) : evFn c_impl_FileRead s_impl_FileRead [.agg #[.int .i64 w0, .slice w1O w1L w1C, .slice w2O w2L w2C, .slice w3O w3L w3C], .string path] (bodyOf Tryz.f32) Tryz.f32.results.toList w R = V_impl_FileRead w0 w1O w1L w1C w2O w2L w2C w3O w3L w3C path w R := by kernel_rfl
theorem e_impl_FileRead (w0 : Int) (w1O : Option Addr) (w1L : Nat) (w1C : Nat) (w2O : Option Addr) (w2L : Nat) (w2C : Nat) (w3O : Option Addr) (w3L : Nat) (w3C : Nat) (path : ByteArray) {w : World} {R : Value → World → Prop} (hvc : V_impl_FileRead w0 w1O w1L w1C w2O w2L w2C w3O w3L w3C path w R) : Calls Tryz.prog fn_impl_FileRead #[.agg #[.int .i64 w0, .slice w1O w1L w1C, .slice w2O w2L w2C, .slice w3O w3L w3C], .string path] w fun e0 wr0 => ∃ v0, e0 = .returned v0 ∧ R v0 wr0 :=
  eff_of_ev (C := c_impl_FileRead) (sps := s_impl_FileRead) (body := bodyOf Tryz.f32) (env _ _ _ _) Tryz.func32 rfl rfl (of_decide_eq_true (by kernel_rfl)) (of_decide_eq_true (by kernel_rfl)) rfl (by rw [v_impl_FileRead]; exact hvc)
end Go.Proofs.YthojnihahmlboaaGreat
