/- Printed by wip/tools/vc.py: what a function's text asks for. -/
import Derived.Test.YthojnihahmlboaaGreatTab
namespace Go.Proofs.YthojnihahmlboaaGreat
open Go.RowKit
set_option linter.unusedVariables false
set_option maxRecDepth 100000
set_option maxHeartbeats 1600000
noncomputable def c_laws_FnExactFileRead : Cfg := { P := Tryz.prog, T := tblGet tbl, pf := pfT, ef := efT, tt := ttT, vis := [], n := 47, pm := false, wr := false }
noncomputable def s_laws_FnExactFileRead : List (Nat × LSpec) := []
def V_laws_FnExactFileRead (aW0 : Int) (aW1O : Option Addr) (aW1L : Nat) (aW1C : Nat) (aW2O : Option Addr) (aW2L : Nat) (aW2C : Nat) (aW3O : Option Addr) (aW3L : Nat) (aW3C : Nat) (aPath : ByteArray) (w : World) (R : Value → World → Prop) : Prop :=
    (∀ b, w.heap.size ≤ b →
    ((decide ((aPath.size : Int) > 1048576)) = true →
    (∀ wr, ExtX [] w wr → R (.bool true) wr)) ∧
    ((decide ((aPath.size : Int) > 1048576)) = false →
    (∃ (szWorl : Int),
    PureX [] Tryz.prog fn_laws_szWorld #[.agg #[.int .i64 aW0, .slice aW1O aW1L aW1C, .slice aW2O aW2L aW2C, .slice aW3O aW3L aW3C], .int .i64 1048576] w (.int .i64 szWorl) ∧
    ((decide (szWorl < 0)) = true →
    (∀ wr1, ExtX [] w wr1 → R (.bool true) wr1)) ∧
    ((decide (szWorl < 0)) = false →
    (∀ wr2, ExtX [] w wr2 → (∀ bq ∈ ([b] : List Nat), bq < wr2.heap.size) → 
    Calls Tryz.prog fn_laws_toWorld #[.agg #[.int .i64 aW0, .slice aW1O aW1L aW1C, .slice aW2O aW2L aW2C, .slice aW3O aW3L aW3C]] wr2 fun e wv =>
    (∃ (toWorl : Int) (toWorl1O : Option Addr) (toWorl1L : Nat) (toWorl1C : Nat) (toWorl2O : Option Addr) (toWorl2L : Nat) (toWorl2C : Nat) (toWorl3O : Option Addr) (toWorl3L : Nat) (toWorl3C : Nat),
    e = .returned (.agg #[.int .i64 toWorl, .slice toWorl1O toWorl1L toWorl1C, .slice toWorl2O toWorl2L toWorl2C, .slice toWorl3O toWorl3L toWorl3C]) ∧ Kept [b] wr2 wv ∧
    (∀ wr3, ExtX [b] wv wr3 → (∀ bq ∈ ([b] : List Nat), bq < wr3.heap.size) → 
    Calls Tryz.prog fn_spec_FileRead #[.agg #[.int .i64 toWorl, .slice toWorl1O toWorl1L toWorl1C, .slice toWorl2O toWorl2L toWorl2C, .slice toWorl3O toWorl3L toWorl3C], .string aPath] wr3 fun e1 wv1 =>
    (∃ (xFileRe : ByteArray) (xFileRe1 : Int),
    e1 = .returned (.tuple #[.string xFileRe, .int .i64 xFileRe1]) ∧ Kept [b] wr3 wv1 ∧
    (∀ wr4, ExtX [b] wv1 wr4 → (∀ bq ∈ ([b] : List Nat), bq < wr4.heap.size) → 
    Calls Tryz.prog fn_laws_toWorld #[.agg #[.int .i64 aW0, .slice aW1O aW1L aW1C, .slice aW2O aW2L aW2C, .slice aW3O aW3L aW3C]] wr4 fun e2 wv2 =>
    (∃ (toWorl4 : Int) (toWorl5O : Option Addr) (toWorl5L : Nat) (toWorl5C : Nat) (toWorl6O : Option Addr) (toWorl6L : Nat) (toWorl6C : Nat) (toWorl7O : Option Addr) (toWorl7L : Nat) (toWorl7C : Nat),
    e2 = .returned (.agg #[.int .i64 toWorl4, .slice toWorl5O toWorl5L toWorl5C, .slice toWorl6O toWorl6L toWorl6C, .slice toWorl7O toWorl7L toWorl7C]) ∧ Kept [b] wr4 wv2 ∧
    (∀ b1, wv2.heap.size ≤ b1 →
    (∀ wr5, ExtX [b] wv2 wr5 → (∀ bq ∈ ([b, b1] : List Nat), bq < wr5.heap.size) → 
    Calls Tryz.prog fn_impl_FileRead #[.agg #[.int .i64 toWorl4, .slice toWorl5O toWorl5L toWorl5C, .slice toWorl6O toWorl6L toWorl6C, .slice toWorl7O toWorl7L toWorl7C], .string aPath] wr5 fun e3 wv3 =>
    (∃ (xFileRe2 : ByteArray) (xFileRe3 : Int),
    e3 = .returned (.tuple #[.string xFileRe2, .int .i64 xFileRe3]) ∧ Kept [b, b1] wr5 wv3 ∧
    (((!strEq xFileRe2 xFileRe) || (xFileRe3 != xFileRe1)) = true →
    (∀ wr6, ExtX [b, b1] wv3 wr6 → R (.bool false) wr6)) ∧
    (((!strEq xFileRe2 xFileRe) || (xFileRe3 != xFileRe1)) = false →
    (∀ wr7, ExtX [b, b1] wv3 wr7 → (∀ bq ∈ ([b, b1] : List Nat), bq < wr7.heap.size) → 
    Calls Tryz.prog fn_laws_toWorld #[.agg #[.int .i64 aW0, .slice aW1O aW1L aW1C, .slice aW2O aW2L aW2C, .slice aW3O aW3L aW3C]] wr7 fun e4 wv4 =>
    (∃ (toWorl8 : Int) (toWorl9O : Option Addr) (toWorl9L : Nat) (toWorl9C : Nat) (toWorl10O : Option Addr) (toWorl10L : Nat) (toWorl10C : Nat) (toWorl11O : Option Addr) (toWorl11L : Nat) (toWorl11C : Nat),
    e4 = .returned (.agg #[.int .i64 toWorl8, .slice toWorl9O toWorl9L toWorl9C, .slice toWorl10O toWorl10L toWorl10C, .slice toWorl11O toWorl11L toWorl11C]) ∧ Kept [b, b1] wr7 wv4 ∧
    (some (ty_impl_World, ([.int .i64 toWorl4, .slice toWorl5O toWorl5L toWorl5C, .slice toWorl6O toWorl6L toWorl6C, .slice toWorl7O toWorl7L toWorl7C] : List Value)) = some (ty_impl_World, ([.int .i64 toWorl4, .slice toWorl5O toWorl5L toWorl5C, .slice toWorl6O toWorl6L toWorl6C, .slice toWorl7O toWorl7L toWorl7C] : List Value))) ∧
    (∃ (eqWorl : Bool),
    PureX [b, b1] Tryz.prog fn_laws_eqWorld #[.agg #[.int .i64 toWorl4, .slice toWorl5O toWorl5L toWorl5C, .slice toWorl6O toWorl6L toWorl6C, .slice toWorl7O toWorl7L toWorl7C], .agg #[.int .i64 toWorl8, .slice toWorl9O toWorl9L toWorl9C, .slice toWorl10O toWorl10L toWorl10C, .slice toWorl11O toWorl11L toWorl11C]] wv4 (.bool eqWorl) ∧
    ((!eqWorl) = true →
    (∀ wr8, ExtX [b, b1] wv4 wr8 → R (.bool false) wr8)) ∧
    ((!eqWorl) = false →
    (∀ wr9, ExtX [b, b1] wv4 wr9 → R (.bool true) wr9)))))))))))))))))))
theorem v_laws_FnExactFileRead (aW0 : Int) (aW1O : Option Addr) (aW1L : Nat) (aW1C : Nat) (aW2O : Option Addr) (aW2L : Nat) (aW2C : Nat) (aW3O : Option Addr) (aW3L : Nat) (aW3C : Nat) (aPath : ByteArray) (w : World) (R : Value → World → Prop) : evFn c_laws_FnExactFileRead s_laws_FnExactFileRead [.agg #[.int .i64 aW0, .slice aW1O aW1L aW1C, .slice aW2O aW2L aW2C, .slice aW3O aW3L aW3C], .string aPath] (bodyOf Tryz.f11) Tryz.f11.results.toList w R = V_laws_FnExactFileRead aW0 aW1O aW1L aW1C aW2O aW2L aW2C aW3O aW3L aW3C aPath w R := by kernel_rfl
theorem e_laws_FnExactFileRead (aW0 : Int) (aW1O : Option Addr) (aW1L : Nat) (aW1C : Nat) (aW2O : Option Addr) (aW2L : Nat) (aW2C : Nat) (aW3O : Option Addr) (aW3L : Nat) (aW3C : Nat) (aPath : ByteArray) {w : World} {R : Value → World → Prop} (hvc : V_laws_FnExactFileRead aW0 aW1O aW1L aW1C aW2O aW2L aW2C aW3O aW3L aW3C aPath w R) : Calls Tryz.prog fn_laws_FnExactFileRead #[.agg #[.int .i64 aW0, .slice aW1O aW1L aW1C, .slice aW2O aW2L aW2C, .slice aW3O aW3L aW3C], .string aPath] w fun e0 wr0 => ∃ v0, e0 = .returned v0 ∧ R v0 wr0 :=
  eff_of_ev (C := c_laws_FnExactFileRead) (sps := s_laws_FnExactFileRead) (body := bodyOf Tryz.f11) (env _ _ _ _) Tryz.func11 rfl rfl (of_decide_eq_true (by kernel_rfl)) (of_decide_eq_true (by kernel_rfl)) rfl (by rw [v_laws_FnExactFileRead]; exact hvc)
noncomputable def c_impl_neighbors : Cfg := { P := Tryz.prog, T := tblGet tbl, pf := pfT, ef := efT, tt := ttT, vis := [], n := 26, pm := true, wr := false }
noncomputable def s_impl_neighbors : List (Nat × LSpec) := [(3, { chg := [(10, .int .i64)], chgL := [(1, [.bool, .bool, .bool, .bool])], keep := [1, 2, 6, 7, 9] })]
def V_impl_neighbors (cpus : Int) (cpu : Int) (level : Int) (w : World) (R : Value → World → Prop) : Prop :=
    (∀ b, w.heap.size ≤ b →
    (∀ b1, w.heap.size ≤ b1 →
    (∃ (xInv1 : List Value → Prop) (mu1 : List Value → Nat), xInv1 [.int .i64 0, .bool false, .bool false, .bool false, .bool false] ∧
    ∀ (x1 : Int) (l : Bool) (l1 : Bool) (l2 : Bool) (l3 : Bool), xInv1 [.int .i64 x1, .bool l, .bool l1, .bool l2, .bool l3] →
    ((decide (x1 < cpus)) = true →
    InR .i64 (level + 1) ∧
    0 ≤ level + 1 ∧
    InR .i64 (level + 1) ∧
    0 ≤ level + 1 ∧
    (0 ≤ x1 ∧ x1 < ((4 : Nat) : Int)) ∧
    (Int.toNat x1 + 0 < 4) ∧
    (∃ (l4 : Bool) (l5 : Bool) (l6 : Bool) (l7 : Bool),
    ([.bool l, .bool l1, .bool l2, .bool l3] : List Value).set (Int.toNat x1 + 0) (.bool ((Int.fdiv x1 (2 ^ (min (Int.toNat (level + 1)) 64))) == (Int.fdiv cpu (2 ^ (min (Int.toNat (level + 1)) 64))))) = [.bool l4, .bool l5, .bool l6, .bool l7] ∧
    InR .i64 (x1 + 1) ∧
    xInv1 [.int .i64 (x1 + 1), .bool l4, .bool l5, .bool l6, .bool l7] ∧ mu1 [.int .i64 (x1 + 1), .bool l4, .bool l5, .bool l6, .bool l7] < mu1 [.int .i64 x1, .bool l, .bool l1, .bool l2, .bool l3])) ∧
    ((decide (x1 < cpus)) = false →
    R (.agg #[.bool l, .bool l1, .bool l2, .bool l3]) w))))
theorem v_impl_neighbors (cpus : Int) (cpu : Int) (level : Int) (w : World) (R : Value → World → Prop) : evFn c_impl_neighbors s_impl_neighbors [.int .i64 cpus, .int .i64 cpu, .int .i64 level] (bodyOf Tryz.f170) Tryz.f170.results.toList w R = V_impl_neighbors cpus cpu level w R := by kernel_rfl
theorem p_impl_neighbors (cpus : Int) (cpu : Int) (level : Int) {w : World} {bs : List Nat} {ret : Value} (hvc : ∀ wr0, ExtX bs w wr0 → V_impl_neighbors cpus cpu level wr0 fun v0 _ => v0 = ret) : PureX bs Tryz.prog fn_impl_neighbors #[.int .i64 cpus, .int .i64 cpu, .int .i64 level] w ret :=
  pure_of_ev (C := c_impl_neighbors) (sps := s_impl_neighbors) (body := bodyOf Tryz.f170) (env _ _ _ _) Tryz.func170 rfl rfl (of_decide_eq_true (by kernel_rfl)) (of_decide_eq_true (by kernel_rfl)) rfl fun wr0 hx0 => by rw [v_impl_neighbors]; exact hvc wr0 hx0
noncomputable def c_impl_DomainSpan : Cfg := { P := Tryz.prog, T := tblGet tbl, pf := pfT, ef := efT, tt := ttT, vis := [], n := 43, pm := true, wr := false }
noncomputable def s_impl_DomainSpan : List (Nat × LSpec) := [(5, { chg := [(7, .int .i64), (32, .int .i64)], chgL := [], keep := [31] })]
def V_impl_DomainSpan (cpus : Int) (cpu : Int) (level : Int) (w : World) (R : Value → World → Prop) : Prop :=
    (∃ (inRang : Bool),
    PureX [] Tryz.prog fn_impl_inRange #[.int .i64 cpus, .int .i64 1, .int .i64 4] w (.bool inRang) ∧
    ((!inRang) = false → InR .i64 (cpus - 1)) ∧
    (∃ (inRang1 : Bool),
    ((!inRang) = false → PureX [] Tryz.prog fn_impl_inRange #[.int .i64 cpu, .int .i64 0, .int .i64 (cpus - 1)] w (.bool inRang1)) ∧
    (∃ (xDomain : Int),
    (((!inRang) || (!inRang1)) = false → PureX [] Tryz.prog fn_impl_DomainLevels #[.int .i64 cpus] w (.int .i64 xDomain)) ∧
    (((!inRang) || (!inRang1)) = false → InR .i64 (xDomain - 1)) ∧
    (∃ (inRang2 : Bool),
    (((!inRang) || (!inRang1)) = false → PureX [] Tryz.prog fn_impl_inRange #[.int .i64 level, .int .i64 0, .int .i64 (xDomain - 1)] w (.bool inRang2)) ∧
    ((((!inRang) || (!inRang1)) || (!inRang2)) = true →
    R (.int .i64 0) w) ∧
    ((((!inRang) || (!inRang1)) || (!inRang2)) = false →
    (∃ (neighb : Bool) (neighb1 : Bool) (neighb2 : Bool) (neighb3 : Bool),
    PureX [] Tryz.prog fn_impl_neighbors #[.int .i64 cpus, .int .i64 cpu, .int .i64 level] w (.agg #[.bool neighb, .bool neighb1, .bool neighb2, .bool neighb3]) ∧
    (∃ (xInv : List Value → Prop) (mu : List Value → Nat), xInv [.int .i64 0, .int .i64 0] ∧
    ∀ (set : Int) (x : Int), xInv [.int .i64 set, .int .i64 x] →
    ((decide (x < 4)) = true →
    (∃ (x1 : Bool),
    (0 ≤ x ∧ x < ((4 : Nat) : Int) ∧ (#[.bool neighb, .bool neighb1, .bool neighb2, .bool neighb3] : Array Value)[Int.toNat x]? = some (.bool x1)) ∧
    (x1 = true →
    (0 ≤ x ∧ InR .i64 (1 * 2 ^ (min (Int.toNat x) 64))) ∧
    InR .i64 (x + 1) ∧
    xInv [.int .i64 (BitI .or .i64 set (1 * 2 ^ (min (Int.toNat x) 64))), .int .i64 (x + 1)] ∧ mu [.int .i64 (BitI .or .i64 set (1 * 2 ^ (min (Int.toNat x) 64))), .int .i64 (x + 1)] < mu [.int .i64 set, .int .i64 x]) ∧
    (x1 = false →
    InR .i64 (x + 1) ∧
    xInv [.int .i64 set, .int .i64 (x + 1)] ∧ mu [.int .i64 set, .int .i64 (x + 1)] < mu [.int .i64 set, .int .i64 x]))) ∧
    ((decide (x < 4)) = false →
    R (.int .i64 set) w))))))))
theorem v_impl_DomainSpan (cpus : Int) (cpu : Int) (level : Int) (w : World) (R : Value → World → Prop) : evFn c_impl_DomainSpan s_impl_DomainSpan [.int .i64 cpus, .int .i64 cpu, .int .i64 level] (bodyOf Tryz.f116) Tryz.f116.results.toList w R = V_impl_DomainSpan cpus cpu level w R := by kernel_rfl
theorem p_impl_DomainSpan (cpus : Int) (cpu : Int) (level : Int) {w : World} {bs : List Nat} {ret : Value} (hvc : ∀ wr0, ExtX bs w wr0 → V_impl_DomainSpan cpus cpu level wr0 fun v0 _ => v0 = ret) : PureX bs Tryz.prog fn_impl_DomainSpan #[.int .i64 cpus, .int .i64 cpu, .int .i64 level] w ret :=
  pure_of_ev (C := c_impl_DomainSpan) (sps := s_impl_DomainSpan) (body := bodyOf Tryz.f116) (env _ _ _ _) Tryz.func116 rfl rfl (of_decide_eq_true (by kernel_rfl)) (of_decide_eq_true (by kernel_rfl)) rfl fun wr0 hx0 => by rw [v_impl_DomainSpan]; exact hvc wr0 hx0
noncomputable def c_impl_cpuSet_members : Cfg := { P := Tryz.prog, T := tblGet tbl, pf := pfT, ef := efT, tt := ttT, vis := [1], n := 4, pm := false, wr := false }
noncomputable def s_impl_cpuSet_members : List (Nat × LSpec) := []
def V_impl_cpuSet_members (m : Int) (w : World) (R : Value → World → Prop) : Prop :=
    (∀ b wb, ExtX [] w wb → w.heap.size ≤ b → wb.heap[b]? = some (Obj.cells ([.int .i64 m] : List Value).toArray ty_impl_cpuSet (0, 0)) → b ∉ ([] : List Nat) →
    (∀ wr, ExtX [] wb wr → R (.func (.func fn_impl_cpuSet_members_1) #[] #[.pointer ((some (Addr.mk b 0 none)).map (·.add 0))]) wr))
theorem v_impl_cpuSet_members (m : Int) (w : World) (R : Value → World → Prop) : evFn c_impl_cpuSet_members s_impl_cpuSet_members [.int .i64 m] (bodyOf Tryz.f117) Tryz.f117.results.toList w R = V_impl_cpuSet_members m w R := by kernel_rfl
theorem e_impl_cpuSet_members (m : Int) {w : World} {R : Value → World → Prop} (hvc : V_impl_cpuSet_members m w R) : Calls Tryz.prog fn_impl_cpuSet_members #[.int .i64 m] w fun e0 wr0 => ∃ v0, e0 = .returned v0 ∧ R v0 wr0 :=
  eff_of_ev (C := c_impl_cpuSet_members) (sps := s_impl_cpuSet_members) (body := bodyOf Tryz.f117) (env _ _ _ _) Tryz.func117 rfl rfl (of_decide_eq_true (by kernel_rfl)) (of_decide_eq_true (by kernel_rfl)) rfl (by rw [v_impl_cpuSet_members]; exact hvc)
noncomputable def c_impl_lane_busiest_2 : Cfg := { P := Tryz.prog, T := tblGet tbl, pf := pfT, ef := efT, tt := ttT, vis := [], n := 17, pm := true, wr := false }
noncomputable def s_impl_lane_busiest_2 : List (Nat × LSpec) := []
def V_impl_lane_busiest_2 (a : Int) (b : Int) (cap : Option Addr) (w : World) (R : Value → World → Prop) : Prop :=
    cap.isSome = true ∧
    (∃ (world : Option Addr),
    CellsX [] w cap 0 [.pointer world] ∧
    (∃ (lane : Option Addr) (lane1 : Int),
    PureX [] Tryz.prog fn_impl_World_lane #[.pointer world, .int .i64 a] w (.agg #[.pointer lane, .int .i64 lane1]) ∧
    (∃ (load : Int),
    PureX [] Tryz.prog fn_impl_lane_load #[.agg #[.pointer lane, .int .i64 lane1]] w (.int .i64 load) ∧
    cap.isSome = true ∧
    (∃ (world1 : Option Addr),
    CellsX [] w cap 0 [.pointer world1] ∧
    (∃ (lane2 : Option Addr) (lane3 : Int),
    PureX [] Tryz.prog fn_impl_World_lane #[.pointer world1, .int .i64 b] w (.agg #[.pointer lane2, .int .i64 lane3]) ∧
    (∃ (load1 : Int),
    PureX [] Tryz.prog fn_impl_lane_load #[.agg #[.pointer lane2, .int .i64 lane3]] w (.int .i64 load1) ∧
    R (.bool (decide (load > load1))) w))))))
theorem v_impl_lane_busiest_2 (a : Int) (b : Int) (cap : Option Addr) (w : World) (R : Value → World → Prop) : evFn c_impl_lane_busiest_2 s_impl_lane_busiest_2 [.int .i64 a, .int .i64 b, .pointer cap] (bodyOf Tryz.f120) Tryz.f120.results.toList w R = V_impl_lane_busiest_2 a b cap w R := by kernel_rfl
theorem p_impl_lane_busiest_2 (a : Int) (b : Int) (cap : Option Addr) {w : World} {bs : List Nat} {ret : Value} (hvc : ∀ wr0, ExtX bs w wr0 → V_impl_lane_busiest_2 a b cap wr0 fun v0 _ => v0 = ret) : PureX bs Tryz.prog fn_impl_lane_busiest_2 #[.int .i64 a, .int .i64 b, .pointer cap] w ret :=
  pure_of_ev (C := c_impl_lane_busiest_2) (sps := s_impl_lane_busiest_2) (body := bodyOf Tryz.f120) (env _ _ _ _) Tryz.func120 rfl rfl (of_decide_eq_true (by kernel_rfl)) (of_decide_eq_true (by kernel_rfl)) rfl fun wr0 hx0 => by rw [v_impl_lane_busiest_2]; exact hvc wr0 hx0
noncomputable def c_impl_cpuSet_members_1 : Cfg := { P := Tryz.prog, T := tblGet tbl, pf := pfT, ef := efT, tt := ttT, vis := [], n := 17, pm := false, wr := false }
noncomputable def s_impl_cpuSet_members_1 : List (Nat × LSpec) := [(1, { chg := [(4, .int .i64)], chgL := [], keep := [0, 1] })]
def V_impl_cpuSet_members_1 (yieldF : FuncId) (yieldA : Array Value) (yieldK : Array Value) (cap : Option Addr) (w : World) (R : Value → World → Prop) : Prop :=
    (∃ (xInv : List Value → World → Prop) (mu : List Value → World → Nat), (∀ wr, ExtX [] w wr → (∀ bq ∈ ([] : List Nat), bq < wr.heap.size) → xInv [.int .i64 0] wr) ∧
    ∀ (x : Int) wv, (∀ bq ∈ ([] : List Nat), bq < wv.heap.size) → xInv [.int .i64 x] wv →
    ((decide (x < 4)) = true →
    (∃ (x1 : Int),
    CellsX [] wv cap 0 [.int .i64 x1] ∧
    (∃ (has : Bool),
    PureX [] Tryz.prog fn_impl_cpuSet_has #[.int .i64 x1, .int .i64 x] wv (.bool has) ∧
    (has = true → (∀ wr1, ExtX [] wv wr1 → (∀ bq ∈ ([] : List Nat), bq < wr1.heap.size) → 
    (∃ (ff : FuncId) (aa : Array Value), (callV (.func (.func yieldF) yieldA yieldK) [.int .i64 x]).run Tryz.prog wr1 = .ok (.enter ff aa) wr1 ∧
    Calls Tryz.prog ff aa wr1 fun e wv1 =>
    (∃ (rv : Bool),
    e = .returned (.bool rv) ∧ Kept [] wr1 wv1 ∧
    ((has && (!rv)) = true →
    (∀ wr2, ExtX [] wv1 wr2 → R (.tuple #[]) wr2)) ∧
    ((has && (!rv)) = false →
    InR .i64 (x + 1) ∧
    (∀ wr3, ExtX [] wv1 wr3 → (∀ bq ∈ ([] : List Nat), bq < wr3.heap.size) → xInv [.int .i64 (x + 1)] wr3 ∧ mu [.int .i64 (x + 1)] wr3 < mu [.int .i64 x] wv)))))) ∧
    ((has = true → False) →
    (false = true →
    (∀ wr4, ExtX [] wv wr4 → R (.tuple #[]) wr4)) ∧
    (false = false →
    InR .i64 (x + 1) ∧
    (∀ wr5, ExtX [] wv wr5 → (∀ bq ∈ ([] : List Nat), bq < wr5.heap.size) → xInv [.int .i64 (x + 1)] wr5 ∧ mu [.int .i64 (x + 1)] wr5 < mu [.int .i64 x] wv)))))) ∧
    ((decide (x < 4)) = false →
    (∀ wr6, ExtX [] wv wr6 → R (.tuple #[]) wr6)))
theorem v_impl_cpuSet_members_1 (yieldF : FuncId) (yieldA : Array Value) (yieldK : Array Value) (cap : Option Addr) (w : World) (R : Value → World → Prop) : evFn c_impl_cpuSet_members_1 s_impl_cpuSet_members_1 [.func (.func yieldF) yieldA yieldK, .pointer cap] (bodyOf Tryz.f171) Tryz.f171.results.toList w R = V_impl_cpuSet_members_1 yieldF yieldA yieldK cap w R := by kernel_rfl
theorem e_impl_cpuSet_members_1 (yieldF : FuncId) (yieldA : Array Value) (yieldK : Array Value) (cap : Option Addr) {w : World} {R : Value → World → Prop} (hvc : V_impl_cpuSet_members_1 yieldF yieldA yieldK cap w R) : Calls Tryz.prog fn_impl_cpuSet_members_1 #[.func (.func yieldF) yieldA yieldK, .pointer cap] w fun e0 wr0 => ∃ v0, e0 = .returned v0 ∧ R v0 wr0 :=
  eff_of_ev (C := c_impl_cpuSet_members_1) (sps := s_impl_cpuSet_members_1) (body := bodyOf Tryz.f171) (env _ _ _ _) Tryz.func171 rfl rfl (of_decide_eq_true (by kernel_rfl)) (of_decide_eq_true (by kernel_rfl)) rfl (by rw [v_impl_cpuSet_members_1]; exact hvc)
noncomputable def c_impl_taskMember_time : Cfg := { P := Tryz.prog, T := tblGet tbl, pf := pfT, ef := efT, tt := ttT, vis := [], n := 6, pm := true, wr := false }
noncomputable def s_impl_taskMember_time : List (Nat × LSpec) := []
def V_impl_taskMember_time (m0 : Int) (m1 : Int) (m2 : Int) (m3 : Int) (m4 : Int) (m5 : Int) (m6 : Int) (m7 : Int) (m8 : Int) (m9 : Int) (w : World) (R : Value → World → Prop) : Prop :=
    (∀ b, w.heap.size ≤ b →
    R (.int .i64 m6) w)
theorem v_impl_taskMember_time (m0 : Int) (m1 : Int) (m2 : Int) (m3 : Int) (m4 : Int) (m5 : Int) (m6 : Int) (m7 : Int) (m8 : Int) (m9 : Int) (w : World) (R : Value → World → Prop) : evFn c_impl_taskMember_time s_impl_taskMember_time [.agg #[.int .i64 m0, .int .i64 m1, .int .i64 m2, .int .i64 m3, .int .i64 m4, .int .i64 m5, .int .i64 m6, .int .i64 m7, .int .i64 m8, .int .i64 m9]] (bodyOf Tryz.f220) Tryz.f220.results.toList w R = V_impl_taskMember_time m0 m1 m2 m3 m4 m5 m6 m7 m8 m9 w R := by kernel_rfl
theorem p_impl_taskMember_time (m0 : Int) (m1 : Int) (m2 : Int) (m3 : Int) (m4 : Int) (m5 : Int) (m6 : Int) (m7 : Int) (m8 : Int) (m9 : Int) {w : World} {bs : List Nat} {ret : Value} (hvc : ∀ wr0, ExtX bs w wr0 → V_impl_taskMember_time m0 m1 m2 m3 m4 m5 m6 m7 m8 m9 wr0 fun v0 _ => v0 = ret) : PureX bs Tryz.prog fn_impl_taskMember_time #[.agg #[.int .i64 m0, .int .i64 m1, .int .i64 m2, .int .i64 m3, .int .i64 m4, .int .i64 m5, .int .i64 m6, .int .i64 m7, .int .i64 m8, .int .i64 m9]] w ret :=
  pure_of_ev (C := c_impl_taskMember_time) (sps := s_impl_taskMember_time) (body := bodyOf Tryz.f220) (env _ _ _ _) Tryz.func220 rfl rfl (of_decide_eq_true (by kernel_rfl)) (of_decide_eq_true (by kernel_rfl)) rfl fun wr0 hx0 => by rw [v_impl_taskMember_time]; exact hvc wr0 hx0
noncomputable def c_impl_groupMember_time : Cfg := { P := Tryz.prog, T := tblGet tbl, pf := pfT, ef := efT, tt := ttT, vis := [], n := 6, pm := true, wr := false }
noncomputable def s_impl_groupMember_time : List (Nat × LSpec) := []
def V_impl_groupMember_time (m0 : Int) (m1 : Int) (m2 : Bool) (m3 : Int) (m4 : Int) (m5 : Int) (w : World) (R : Value → World → Prop) : Prop :=
    (∀ b, w.heap.size ≤ b →
    R (.int .i64 m3) w)
theorem v_impl_groupMember_time (m0 : Int) (m1 : Int) (m2 : Bool) (m3 : Int) (m4 : Int) (m5 : Int) (w : World) (R : Value → World → Prop) : evFn c_impl_groupMember_time s_impl_groupMember_time [.agg #[.int .i64 m0, .int .i64 m1, .bool m2, .int .i64 m3, .int .i64 m4, .int .i64 m5]] (bodyOf Tryz.f223) Tryz.f223.results.toList w R = V_impl_groupMember_time m0 m1 m2 m3 m4 m5 w R := by kernel_rfl
theorem p_impl_groupMember_time (m0 : Int) (m1 : Int) (m2 : Bool) (m3 : Int) (m4 : Int) (m5 : Int) {w : World} {bs : List Nat} {ret : Value} (hvc : ∀ wr0, ExtX bs w wr0 → V_impl_groupMember_time m0 m1 m2 m3 m4 m5 wr0 fun v0 _ => v0 = ret) : PureX bs Tryz.prog fn_impl_groupMember_time #[.agg #[.int .i64 m0, .int .i64 m1, .bool m2, .int .i64 m3, .int .i64 m4, .int .i64 m5]] w ret :=
  pure_of_ev (C := c_impl_groupMember_time) (sps := s_impl_groupMember_time) (body := bodyOf Tryz.f223) (env _ _ _ _) Tryz.func223 rfl rfl (of_decide_eq_true (by kernel_rfl)) (of_decide_eq_true (by kernel_rfl)) rfl fun wr0 hx0 => by rw [v_impl_groupMember_time]; exact hvc wr0 hx0
noncomputable def c_impl_weightFile_read : Cfg := { P := Tryz.prog, T := tblGet tbl, pf := pfT, ef := efT, tt := ttT, vis := [], n := 17, pm := false, wr := false }
noncomputable def s_impl_weightFile_read : List (Nat × LSpec) := []
def V_impl_weightFile_read (wv : Option Addr) (g : Int) (w : World) (R : Value → World → Prop) : Prop :=
    (∀ b, w.heap.size ≤ b →
    wv.isSome = true ∧
    (∃ (groupsO : Option Addr) (groupsL : Nat) (groupsC : Nat),
    CellsX [] w wv (0 + 3) [.slice groupsO groupsL groupsC] ∧
    Ix groupsO groupsL g ∧
    (∃ (weight : Int),
    CellsX [] w groupsO (Int.toNat g * 14 + 3) [.int .i64 weight] ∧
    (∀ wr, ExtX [] w wr → (∀ bq ∈ ([b] : List Nat), bq < wr.heap.size) → 
    Calls Tryz.prog fn_strconv_Itoa #[.int .i64 weight] wr fun e wv1 =>
    (∃ (xItoa : ByteArray),
    e = .returned (.string xItoa) ∧ Kept [b] wr wv1 ∧
    xItoa.size + (ByteArray.mk [10].toArray).size ≤ 9223372036854775807 ∧
    (∀ wr1, ExtX [b] wv1 wr1 → R (.string (xItoa ++ (ByteArray.mk [10].toArray))) wr1))))))
theorem v_impl_weightFile_read (wv : Option Addr) (g : Int) (w : World) (R : Value → World → Prop) : evFn c_impl_weightFile_read s_impl_weightFile_read [.agg #[], .pointer wv, .int .i64 g] (bodyOf Tryz.f225) Tryz.f225.results.toList w R = V_impl_weightFile_read wv g w R := by kernel_rfl
theorem e_impl_weightFile_read (wv : Option Addr) (g : Int) {w : World} {R : Value → World → Prop} (hvc : V_impl_weightFile_read wv g w R) : Calls Tryz.prog fn_impl_weightFile_read #[.agg #[], .pointer wv, .int .i64 g] w fun e0 wr0 => ∃ v0, e0 = .returned v0 ∧ R v0 wr0 :=
  eff_of_ev (C := c_impl_weightFile_read) (sps := s_impl_weightFile_read) (body := bodyOf Tryz.f225) (env _ _ _ _) Tryz.func225 rfl rfl (of_decide_eq_true (by kernel_rfl)) (of_decide_eq_true (by kernel_rfl)) rfl (by rw [v_impl_weightFile_read]; exact hvc)
noncomputable def c_impl_World_quota : Cfg := { P := Tryz.prog, T := tblGet tbl, pf := pfT, ef := efT, tt := ttT, vis := [], n := 22, pm := true, wr := false }
noncomputable def s_impl_World_quota : List (Nat × LSpec) := []
def V_impl_World_quota (wv : Option Addr) (g : Int) (w : World) (R : Value → World → Prop) : Prop :=
    wv.isSome = true ∧
    (∃ (groupsO : Option Addr) (groupsL : Nat) (groupsC : Nat),
    CellsX [] w wv (0 + 3) [.slice groupsO groupsL groupsC] ∧
    Ix groupsO groupsL g ∧
    (∃ (quota : Int),
    CellsX [] w groupsO (Int.toNat g * 14 + 8 + 0) [.int .i64 quota] ∧
    ((quota == 0) = true →
    R (.pointer none) w) ∧
    ((quota == 0) = false →
    wv.isSome = true ∧
    (∃ (groups1O : Option Addr) (groups1L : Nat) (groups1C : Nat),
    CellsX [] w wv (0 + 3) [.slice groups1O groups1L groups1C] ∧
    Ix groups1O groups1L g ∧
    R (.pointer (groups1O.map (·.add (Int.toNat g * 14 + 8)))) w))))
theorem v_impl_World_quota (wv : Option Addr) (g : Int) (w : World) (R : Value → World → Prop) : evFn c_impl_World_quota s_impl_World_quota [.pointer wv, .int .i64 g] (bodyOf Tryz.f243) Tryz.f243.results.toList w R = V_impl_World_quota wv g w R := by kernel_rfl
theorem p_impl_World_quota (wv : Option Addr) (g : Int) {w : World} {bs : List Nat} {ret : Value} (hvc : ∀ wr0, ExtX bs w wr0 → V_impl_World_quota wv g wr0 fun v0 _ => v0 = ret) : PureX bs Tryz.prog fn_impl_World_quota #[.pointer wv, .int .i64 g] w ret :=
  pure_of_ev (C := c_impl_World_quota) (sps := s_impl_World_quota) (body := bodyOf Tryz.f243) (env _ _ _ _) Tryz.func243 rfl rfl (of_decide_eq_true (by kernel_rfl)) (of_decide_eq_true (by kernel_rfl)) rfl fun wr0 hx0 => by rw [v_impl_World_quota]; exact hvc wr0 hx0
noncomputable def c_impl_maxFile_read : Cfg := { P := Tryz.prog, T := tblGet tbl, pf := pfT, ef := efT, tt := ttT, vis := [], n := 30, pm := false, wr := false }
noncomputable def s_impl_maxFile_read : List (Nat × LSpec) := []
def V_impl_maxFile_read (wv : Option Addr) (g : Int) (w : World) (R : Value → World → Prop) : Prop :=
    (∀ b, w.heap.size ≤ b →
    (∃ (quota : Option Addr),
    PureX [] Tryz.prog fn_impl_World_quota #[.pointer wv, .int .i64 g] w (.pointer quota) ∧
    (quota.isNone = true →
    (∀ wr, ExtX [] w wr → R (.string (ByteArray.mk [110, 111, 110, 101, 10].toArray)) wr)) ∧
    (quota.isNone = false →
    quota.isSome = true ∧
    (∃ (quota1 : Int),
    CellsX [] w quota (0 + 0) [.int .i64 quota1] ∧
    wv.isSome = true ∧
    (∃ (groupsO : Option Addr) (groupsL : Nat) (groupsC : Nat),
    CellsX [] w wv (0 + 3) [.slice groupsO groupsL groupsC] ∧
    Ix groupsO groupsL g ∧
    (∃ (period : Int),
    CellsX [] w groupsO (Int.toNat g * 14 + 5) [.int .i64 period] ∧
    (∀ wr1, ExtX [] w wr1 → (∀ bq ∈ ([b] : List Nat), bq < wr1.heap.size) → 
    Calls Tryz.prog fn_strconv_Itoa #[.int .i64 quota1] wr1 fun e wv1 =>
    (∃ (xItoa : ByteArray),
    e = .returned (.string xItoa) ∧ Kept [b] wr1 wv1 ∧
    CellsX [b] wv1 groupsO (Int.toNat g * 14 + 5) [.int .i64 period] ∧
    CellsX [b] wv1 wv (0 + 3) [.slice groupsO groupsL groupsC] ∧
    xItoa.size + (ByteArray.mk [32].toArray).size ≤ 9223372036854775807 ∧
    (∀ wr2, ExtX [b] wv1 wr2 → (∀ bq ∈ ([b] : List Nat), bq < wr2.heap.size) → 
    Calls Tryz.prog fn_strconv_Itoa #[.int .i64 period] wr2 fun e1 wv2 =>
    (∃ (xItoa1 : ByteArray),
    e1 = .returned (.string xItoa1) ∧ Kept [b] wr2 wv2 ∧
    (xItoa ++ (ByteArray.mk [32].toArray)).size + xItoa1.size ≤ 9223372036854775807 ∧
    ((xItoa ++ (ByteArray.mk [32].toArray)) ++ xItoa1).size + (ByteArray.mk [10].toArray).size ≤ 9223372036854775807 ∧
    (∀ wr3, ExtX [b] wv2 wr3 → R (.string (((xItoa ++ (ByteArray.mk [32].toArray)) ++ xItoa1) ++ (ByteArray.mk [10].toArray))) wr3)))))))))))
theorem v_impl_maxFile_read (wv : Option Addr) (g : Int) (w : World) (R : Value → World → Prop) : evFn c_impl_maxFile_read s_impl_maxFile_read [.agg #[], .pointer wv, .int .i64 g] (bodyOf Tryz.f241) Tryz.f241.results.toList w R = V_impl_maxFile_read wv g w R := by kernel_rfl
theorem e_impl_maxFile_read (wv : Option Addr) (g : Int) {w : World} {R : Value → World → Prop} (hvc : V_impl_maxFile_read wv g w R) : Calls Tryz.prog fn_impl_maxFile_read #[.agg #[], .pointer wv, .int .i64 g] w fun e0 wr0 => ∃ v0, e0 = .returned v0 ∧ R v0 wr0 :=
  eff_of_ev (C := c_impl_maxFile_read) (sps := s_impl_maxFile_read) (body := bodyOf Tryz.f241) (env _ _ _ _) Tryz.func241 rfl rfl (of_decide_eq_true (by kernel_rfl)) (of_decide_eq_true (by kernel_rfl)) rfl (by rw [v_impl_maxFile_read]; exact hvc)
noncomputable def c_impl_cpusFile_read : Cfg := { P := Tryz.prog, T := tblGet tbl, pf := pfT, ef := efT, tt := ttT, vis := [], n := 17, pm := false, wr := false }
noncomputable def s_impl_cpusFile_read : List (Nat × LSpec) := []
def V_impl_cpusFile_read (wv : Option Addr) (g : Int) (w : World) (R : Value → World → Prop) : Prop :=
    (∀ b, w.heap.size ≤ b →
    wv.isSome = true ∧
    (∃ (groupsO : Option Addr) (groupsL : Nat) (groupsC : Nat),
    CellsX [] w wv (0 + 3) [.slice groupsO groupsL groupsC] ∧
    Ix groupsO groupsL g ∧
    (∃ (cpus : Int),
    CellsX [] w groupsO (Int.toNat g * 14 + 4) [.int .i64 cpus] ∧
    (∀ wr, ExtX [] w wr → (∀ bq ∈ ([b] : List Nat), bq < wr.heap.size) → 
    Calls Tryz.prog fn_impl_MaskText #[.int .i64 cpus] wr fun e wv1 =>
    (∃ (xMaskTe : ByteArray),
    e = .returned (.string xMaskTe) ∧ Kept [b] wr wv1 ∧
    xMaskTe.size + (ByteArray.mk [10].toArray).size ≤ 9223372036854775807 ∧
    (∀ wr1, ExtX [b] wv1 wr1 → R (.string (xMaskTe ++ (ByteArray.mk [10].toArray))) wr1))))))
theorem v_impl_cpusFile_read (wv : Option Addr) (g : Int) (w : World) (R : Value → World → Prop) : evFn c_impl_cpusFile_read s_impl_cpusFile_read [.agg #[], .pointer wv, .int .i64 g] (bodyOf Tryz.f244) Tryz.f244.results.toList w R = V_impl_cpusFile_read wv g w R := by kernel_rfl
theorem e_impl_cpusFile_read (wv : Option Addr) (g : Int) {w : World} {R : Value → World → Prop} (hvc : V_impl_cpusFile_read wv g w R) : Calls Tryz.prog fn_impl_cpusFile_read #[.agg #[], .pointer wv, .int .i64 g] w fun e0 wr0 => ∃ v0, e0 = .returned v0 ∧ R v0 wr0 :=
  eff_of_ev (C := c_impl_cpusFile_read) (sps := s_impl_cpusFile_read) (body := bodyOf Tryz.f244) (env _ _ _ _) Tryz.func244 rfl rfl (of_decide_eq_true (by kernel_rfl)) (of_decide_eq_true (by kernel_rfl)) rfl (by rw [v_impl_cpusFile_read]; exact hvc)
noncomputable def c_impl_procsFile_read : Cfg := { P := Tryz.prog, T := tblGet tbl, pf := pfT, ef := efT, tt := ttT, vis := [7], n := 35, pm := false, wr := false }
noncomputable def s_impl_procsFile_read : List (Nat × LSpec) := [(3, { chg := [(15, .int .i64)], chgL := [], keep := [2, 7, 13, 14] })]
def V_impl_procsFile_read (wv : Option Addr) (g : Int) (w : World) (R : Value → World → Prop) : Prop :=
    (∀ b, w.heap.size ≤ b →
    (∀ b1 wb, ExtX [] w wb → w.heap.size ≤ b1 → wb.heap[b1]? = some (Obj.cells ([.pointer none, .slice none 0 0] : List Value).toArray ty_strings_Builder (0, 0)) → b1 ∉ ([b] : List Nat) →
    wv.isSome = true ∧
    (∃ (tasksO : Option Addr) (tasksL : Nat) (tasksC : Nat),
    CellsX [b] wb wv (0 + 2) [.slice tasksO tasksL tasksC] ∧
    (∃ (xInv : List Value → World → Prop) (mu : List Value → World → Nat), (∀ wr, ExtX [b] wb wr → (∀ bq ∈ ([b] : List Nat), bq < wr.heap.size) → xInv [.int .i64 0] wr) ∧
    ∀ (x : Int) wv1, (∀ bq ∈ ([b] : List Nat), bq < wv1.heap.size) → xInv [.int .i64 x] wv1 →
    ((decide (x < ((tasksL : Nat) : Int))) = true →
    Ix tasksO tasksL x ∧
    (∃ (x0 : Int) (x1 : Int) (x2 : Int) (x3 : Int) (x4 : Int) (x5 : Int) (x6 : Int) (x7 : Int) (x8 : Int),
    CellsX [b] wv1 tasksO (Int.toNat x * 9) [.int .i64 x0, .int .i64 x1, .int .i64 x2, .int .i64 x3, .int .i64 x4, .int .i64 x5, .int .i64 x6, .int .i64 x7, .int .i64 x8] ∧
    (∀ b2, wv1.heap.size ≤ b2 →
    (((x0 != 0) && (x1 == g)) = true →
    (∀ wr1, ExtX [b] wv1 wr1 → (∀ bq ∈ ([b, b2] : List Nat), bq < wr1.heap.size) → 
    Calls Tryz.prog fn_strconv_Itoa #[.int .i64 x] wr1 fun e wv2 =>
    (∃ (xItoa : ByteArray),
    e = .returned (.string xItoa) ∧ Kept [b, b2] wr1 wv2 ∧
    xItoa.size + (ByteArray.mk [10].toArray).size ≤ 9223372036854775807 ∧
    (∀ wr2, ExtX [b, b2] wv2 wr2 → (∀ bq ∈ ([b, b2] : List Nat), bq < wr2.heap.size) → 
    Calls Tryz.prog fn_strings_Builder_WriteString #[.pointer ((some (Addr.mk b1 0 none)).map (·.add 0)), .string (xItoa ++ (ByteArray.mk [10].toArray))] wr2 fun e1 wv3 =>
    (∃ (xWriteS : Int) (xWriteS1 : Value),
    e1 = .returned (.tuple #[.int .i64 xWriteS, xWriteS1]) ∧ Kept [b, b2] wr2 wv3 ∧
    InR .i64 (x + 1) ∧
    (∀ wr3, ExtX [b, b2] wv3 wr3 → (∀ bq ∈ ([b, b2] : List Nat), bq < wr3.heap.size) → xInv [.int .i64 (x + 1)] wr3 ∧ mu [.int .i64 (x + 1)] wr3 < mu [.int .i64 x] wv1)))))) ∧
    (((x0 != 0) && (x1 == g)) = false →
    InR .i64 (x + 1) ∧
    (∀ wr4, ExtX [b] wv1 wr4 → (∀ bq ∈ ([b, b2] : List Nat), bq < wr4.heap.size) → xInv [.int .i64 (x + 1)] wr4 ∧ mu [.int .i64 (x + 1)] wr4 < mu [.int .i64 x] wv1))))) ∧
    ((decide (x < ((tasksL : Nat) : Int))) = false →
    (∀ wr5, ExtX [b] wv1 wr5 → (∀ bq ∈ ([b] : List Nat), bq < wr5.heap.size) → 
    Calls Tryz.prog fn_strings_Builder_String #[.pointer ((some (Addr.mk b1 0 none)).map (·.add 0))] wr5 fun e2 wv4 =>
    (∃ (xString : ByteArray),
    e2 = .returned (.string xString) ∧ Kept [b] wr5 wv4 ∧
    (∀ wr6, ExtX [b] wv4 wr6 → R (.string xString) wr6))))))))
theorem v_impl_procsFile_read (wv : Option Addr) (g : Int) (w : World) (R : Value → World → Prop) : evFn c_impl_procsFile_read s_impl_procsFile_read [.agg #[], .pointer wv, .int .i64 g] (bodyOf Tryz.f251) Tryz.f251.results.toList w R = V_impl_procsFile_read wv g w R := by kernel_rfl
theorem e_impl_procsFile_read (wv : Option Addr) (g : Int) {w : World} {R : Value → World → Prop} (hvc : V_impl_procsFile_read wv g w R) : Calls Tryz.prog fn_impl_procsFile_read #[.agg #[], .pointer wv, .int .i64 g] w fun e0 wr0 => ∃ v0, e0 = .returned v0 ∧ R v0 wr0 :=
  eff_of_ev (C := c_impl_procsFile_read) (sps := s_impl_procsFile_read) (body := bodyOf Tryz.f251) (env _ _ _ _) Tryz.func251 rfl rfl (of_decide_eq_true (by kernel_rfl)) (of_decide_eq_true (by kernel_rfl)) rfl (by rw [v_impl_procsFile_read]; exact hvc)
noncomputable def c_impl_statFile_read : Cfg := { P := Tryz.prog, T := tblGet tbl, pf := pfT, ef := efT, tt := ttT, vis := [], n := 65, pm := false, wr := false }
noncomputable def s_impl_statFile_read : List (Nat × LSpec) := [(4, { chg := [(8, .int .i64), (24, .int .i64)], chgL := [], keep := [7, 22, 23] })]
def V_impl_statFile_read (wv : Option Addr) (g : Int) (w : World) (R : Value → World → Prop) : Prop :=
    (∀ b, w.heap.size ≤ b →
    wv.isSome = true ∧
    (∃ (groupsO : Option Addr) (groupsL : Nat) (groupsC : Nat),
    CellsX [] w wv (0 + 3) [.slice groupsO groupsL groupsC] ∧
    Ix groupsO groupsL g ∧
    (∃ (x0 : Bool) (x1 : Int) (x2 : ByteArray) (x3 : Int) (x4 : Int) (x5 : Int) (x6 : Int) (x7 : Int) (x8 : Int) (x9 : Int) (x10 : Int) (x11O : Option Addr) (x11L : Nat) (x11C : Nat) (x12O : Option Addr) (x12L : Nat) (x12C : Nat) (x13O : Option Addr) (x13L : Nat) (x13C : Nat),
    CellsX [] w groupsO (Int.toNat g * 14) [.bool x0, .int .i64 x1, .string x2, .int .i64 x3, .int .i64 x4, .int .i64 x5, .int .i64 x6, .int .i64 x7, .int .i64 x8, .int .i64 x9, .int .i64 x10, .slice x11O x11L x11C, .slice x12O x12L x12C, .slice x13O x13L x13C] ∧
    (∀ b1, w.heap.size ≤ b1 →
    (∃ (xInv : List Value → World → Prop) (mu : List Value → World → Nat), (∀ wr, ExtX [] w wr → (∀ bq ∈ ([b, b1] : List Nat), bq < wr.heap.size) → xInv [.int .i64 0, .int .i64 0] wr) ∧
    ∀ (dry : Int) (x : Int) wv1, (∀ bq ∈ ([b, b1] : List Nat), bq < wv1.heap.size) → xInv [.int .i64 dry, .int .i64 x] wv1 →
    ((decide (x < ((x12L : Nat) : Int))) = true →
    Ix x12O x12L x ∧
    (∃ (x14 : Bool),
    CellsX [b, b1] wv1 x12O (Int.toNat x * 1) [.bool x14] ∧
    (x14 = true →
    (0 ≤ x ∧ InR .i64 (1 * 2 ^ (min (Int.toNat x) 64))) ∧
    InR .i64 (x + 1) ∧
    (∀ wr1, ExtX [b, b1] wv1 wr1 → (∀ bq ∈ ([b, b1] : List Nat), bq < wr1.heap.size) → xInv [.int .i64 (BitI .or .i64 dry (1 * 2 ^ (min (Int.toNat x) 64))), .int .i64 (x + 1)] wr1 ∧ mu [.int .i64 (BitI .or .i64 dry (1 * 2 ^ (min (Int.toNat x) 64))), .int .i64 (x + 1)] wr1 < mu [.int .i64 dry, .int .i64 x] wv1)) ∧
    (x14 = false →
    InR .i64 (x + 1) ∧
    (∀ wr2, ExtX [b, b1] wv1 wr2 → (∀ bq ∈ ([b, b1] : List Nat), bq < wr2.heap.size) → xInv [.int .i64 dry, .int .i64 (x + 1)] wr2 ∧ mu [.int .i64 dry, .int .i64 (x + 1)] wr2 < mu [.int .i64 dry, .int .i64 x] wv1)))) ∧
    ((decide (x < ((x12L : Nat) : Int))) = false →
    ((dry != 0) = true →
    (∀ wr3, ExtX [b, b1] wv1 wr3 → (∀ bq ∈ ([b, b1] : List Nat), bq < wr3.heap.size) → 
    Calls Tryz.prog fn_impl_MaskText #[.int .i64 dry] wr3 fun e wv2 =>
    (∃ (xMaskTe : ByteArray),
    e = .returned (.string xMaskTe) ∧ Kept [b, b1] wr3 wv2 ∧
    (∃ (total : Int),
    PureX [b, b1] Tryz.prog fn_impl_total #[.slice x11O x11L x11C] wv2 (.int .i64 total) ∧
    InR .i64 (x9 + total) ∧
    (∀ wr4, ExtX [b, b1] wv2 wr4 → (∀ bq ∈ ([b, b1] : List Nat), bq < wr4.heap.size) → 
    Calls Tryz.prog fn_strconv_Itoa #[.int .i64 x7] wr4 fun e1 wv3 =>
    (∃ (xItoa : ByteArray),
    e1 = .returned (.string xItoa) ∧ Kept [b, b1] wr4 wv3 ∧
    (some (ty_impl_Group, ([.bool x0, .int .i64 x1, .string x2, .int .i64 x3, .int .i64 x4, .int .i64 x5, .int .i64 x6, .int .i64 x7, .int .i64 x8, .int .i64 x9, .int .i64 x10, .slice x11O x11L x11C, .slice x12O x12L x12C, .slice x13O x13L x13C] : List Value)) = some (ty_impl_Group, ([.bool x0, .int .i64 x1, .string x2, .int .i64 x3, .int .i64 x4, .int .i64 x5, .int .i64 x6, .int .i64 x7, .int .i64 x8, .int .i64 x9, .int .i64 x10, .slice x11O x11L x11C, .slice x12O x12L x12C, .slice x13O x13L x13C] : List Value))) ∧
    (ByteArray.mk [115, 117, 109, 32].toArray).size + xItoa.size ≤ 9223372036854775807 ∧
    ((ByteArray.mk [115, 117, 109, 32].toArray) ++ xItoa).size + (ByteArray.mk [10, 115, 112, 101, 110, 116, 32].toArray).size ≤ 9223372036854775807 ∧
    (∀ wr5, ExtX [b, b1] wv3 wr5 → (∀ bq ∈ ([b, b1] : List Nat), bq < wr5.heap.size) → 
    Calls Tryz.prog fn_strconv_Itoa #[.int .i64 x10] wr5 fun e2 wv4 =>
    (∃ (xItoa1 : ByteArray),
    e2 = .returned (.string xItoa1) ∧ Kept [b, b1] wr5 wv4 ∧
    (((ByteArray.mk [115, 117, 109, 32].toArray) ++ xItoa) ++ (ByteArray.mk [10, 115, 112, 101, 110, 116, 32].toArray)).size + xItoa1.size ≤ 9223372036854775807 ∧
    ((((ByteArray.mk [115, 117, 109, 32].toArray) ++ xItoa) ++ (ByteArray.mk [10, 115, 112, 101, 110, 116, 32].toArray)) ++ xItoa1).size + (ByteArray.mk [10, 108, 101, 102, 116, 32].toArray).size ≤ 9223372036854775807 ∧
    (∀ wr6, ExtX [b, b1] wv4 wr6 → (∀ bq ∈ ([b, b1] : List Nat), bq < wr6.heap.size) → 
    Calls Tryz.prog fn_strconv_Itoa #[.int .i64 (x9 + total)] wr6 fun e3 wv5 =>
    (∃ (xItoa2 : ByteArray),
    e3 = .returned (.string xItoa2) ∧ Kept [b, b1] wr6 wv5 ∧
    (((((ByteArray.mk [115, 117, 109, 32].toArray) ++ xItoa) ++ (ByteArray.mk [10, 115, 112, 101, 110, 116, 32].toArray)) ++ xItoa1) ++ (ByteArray.mk [10, 108, 101, 102, 116, 32].toArray)).size + xItoa2.size ≤ 9223372036854775807 ∧
    ((((((ByteArray.mk [115, 117, 109, 32].toArray) ++ xItoa) ++ (ByteArray.mk [10, 115, 112, 101, 110, 116, 32].toArray)) ++ xItoa1) ++ (ByteArray.mk [10, 108, 101, 102, 116, 32].toArray)) ++ xItoa2).size + (ByteArray.mk [10, 100, 114, 121, 32].toArray).size ≤ 9223372036854775807 ∧
    (((((((ByteArray.mk [115, 117, 109, 32].toArray) ++ xItoa) ++ (ByteArray.mk [10, 115, 112, 101, 110, 116, 32].toArray)) ++ xItoa1) ++ (ByteArray.mk [10, 108, 101, 102, 116, 32].toArray)) ++ xItoa2) ++ (ByteArray.mk [10, 100, 114, 121, 32].toArray)).size + xMaskTe.size ≤ 9223372036854775807 ∧
    ((((((((ByteArray.mk [115, 117, 109, 32].toArray) ++ xItoa) ++ (ByteArray.mk [10, 115, 112, 101, 110, 116, 32].toArray)) ++ xItoa1) ++ (ByteArray.mk [10, 108, 101, 102, 116, 32].toArray)) ++ xItoa2) ++ (ByteArray.mk [10, 100, 114, 121, 32].toArray)) ++ xMaskTe).size + (ByteArray.mk [10].toArray).size ≤ 9223372036854775807 ∧
    (∀ wr7, ExtX [b, b1] wv5 wr7 → R (.string (((((((((ByteArray.mk [115, 117, 109, 32].toArray) ++ xItoa) ++ (ByteArray.mk [10, 115, 112, 101, 110, 116, 32].toArray)) ++ xItoa1) ++ (ByteArray.mk [10, 108, 101, 102, 116, 32].toArray)) ++ xItoa2) ++ (ByteArray.mk [10, 100, 114, 121, 32].toArray)) ++ xMaskTe) ++ (ByteArray.mk [10].toArray))) wr7))))))))))) ∧
    ((dry != 0) = false →
    (∃ (total1 : Int),
    PureX [b, b1] Tryz.prog fn_impl_total #[.slice x11O x11L x11C] wv1 (.int .i64 total1) ∧
    InR .i64 (x9 + total1) ∧
    (∀ wr8, ExtX [b, b1] wv1 wr8 → (∀ bq ∈ ([b, b1] : List Nat), bq < wr8.heap.size) → 
    Calls Tryz.prog fn_strconv_Itoa #[.int .i64 x7] wr8 fun e4 wv6 =>
    (∃ (xItoa3 : ByteArray),
    e4 = .returned (.string xItoa3) ∧ Kept [b, b1] wr8 wv6 ∧
    (some (ty_impl_Group, ([.bool x0, .int .i64 x1, .string x2, .int .i64 x3, .int .i64 x4, .int .i64 x5, .int .i64 x6, .int .i64 x7, .int .i64 x8, .int .i64 x9, .int .i64 x10, .slice x11O x11L x11C, .slice x12O x12L x12C, .slice x13O x13L x13C] : List Value)) = some (ty_impl_Group, ([.bool x0, .int .i64 x1, .string x2, .int .i64 x3, .int .i64 x4, .int .i64 x5, .int .i64 x6, .int .i64 x7, .int .i64 x8, .int .i64 x9, .int .i64 x10, .slice x11O x11L x11C, .slice x12O x12L x12C, .slice x13O x13L x13C] : List Value))) ∧
    (ByteArray.mk [115, 117, 109, 32].toArray).size + xItoa3.size ≤ 9223372036854775807 ∧
    ((ByteArray.mk [115, 117, 109, 32].toArray) ++ xItoa3).size + (ByteArray.mk [10, 115, 112, 101, 110, 116, 32].toArray).size ≤ 9223372036854775807 ∧
    (∀ wr9, ExtX [b, b1] wv6 wr9 → (∀ bq ∈ ([b, b1] : List Nat), bq < wr9.heap.size) → 
    Calls Tryz.prog fn_strconv_Itoa #[.int .i64 x10] wr9 fun e5 wv7 =>
    (∃ (xItoa4 : ByteArray),
    e5 = .returned (.string xItoa4) ∧ Kept [b, b1] wr9 wv7 ∧
    (((ByteArray.mk [115, 117, 109, 32].toArray) ++ xItoa3) ++ (ByteArray.mk [10, 115, 112, 101, 110, 116, 32].toArray)).size + xItoa4.size ≤ 9223372036854775807 ∧
    ((((ByteArray.mk [115, 117, 109, 32].toArray) ++ xItoa3) ++ (ByteArray.mk [10, 115, 112, 101, 110, 116, 32].toArray)) ++ xItoa4).size + (ByteArray.mk [10, 108, 101, 102, 116, 32].toArray).size ≤ 9223372036854775807 ∧
    (∀ wr10, ExtX [b, b1] wv7 wr10 → (∀ bq ∈ ([b, b1] : List Nat), bq < wr10.heap.size) → 
    Calls Tryz.prog fn_strconv_Itoa #[.int .i64 (x9 + total1)] wr10 fun e6 wv8 =>
    (∃ (xItoa5 : ByteArray),
    e6 = .returned (.string xItoa5) ∧ Kept [b, b1] wr10 wv8 ∧
    (((((ByteArray.mk [115, 117, 109, 32].toArray) ++ xItoa3) ++ (ByteArray.mk [10, 115, 112, 101, 110, 116, 32].toArray)) ++ xItoa4) ++ (ByteArray.mk [10, 108, 101, 102, 116, 32].toArray)).size + xItoa5.size ≤ 9223372036854775807 ∧
    ((((((ByteArray.mk [115, 117, 109, 32].toArray) ++ xItoa3) ++ (ByteArray.mk [10, 115, 112, 101, 110, 116, 32].toArray)) ++ xItoa4) ++ (ByteArray.mk [10, 108, 101, 102, 116, 32].toArray)) ++ xItoa5).size + (ByteArray.mk [10, 100, 114, 121, 32].toArray).size ≤ 9223372036854775807 ∧
    (((((((ByteArray.mk [115, 117, 109, 32].toArray) ++ xItoa3) ++ (ByteArray.mk [10, 115, 112, 101, 110, 116, 32].toArray)) ++ xItoa4) ++ (ByteArray.mk [10, 108, 101, 102, 116, 32].toArray)) ++ xItoa5) ++ (ByteArray.mk [10, 100, 114, 121, 32].toArray)).size + (ByteArray.mk [110, 111, 110, 101].toArray).size ≤ 9223372036854775807 ∧
    ((((((((ByteArray.mk [115, 117, 109, 32].toArray) ++ xItoa3) ++ (ByteArray.mk [10, 115, 112, 101, 110, 116, 32].toArray)) ++ xItoa4) ++ (ByteArray.mk [10, 108, 101, 102, 116, 32].toArray)) ++ xItoa5) ++ (ByteArray.mk [10, 100, 114, 121, 32].toArray)) ++ (ByteArray.mk [110, 111, 110, 101].toArray)).size + (ByteArray.mk [10].toArray).size ≤ 9223372036854775807 ∧
    (∀ wr11, ExtX [b, b1] wv8 wr11 → R (.string (((((((((ByteArray.mk [115, 117, 109, 32].toArray) ++ xItoa3) ++ (ByteArray.mk [10, 115, 112, 101, 110, 116, 32].toArray)) ++ xItoa4) ++ (ByteArray.mk [10, 108, 101, 102, 116, 32].toArray)) ++ xItoa5) ++ (ByteArray.mk [10, 100, 114, 121, 32].toArray)) ++ (ByteArray.mk [110, 111, 110, 101].toArray)) ++ (ByteArray.mk [10].toArray))) wr11)))))))))))))))
theorem v_impl_statFile_read (wv : Option Addr) (g : Int) (w : World) (R : Value → World → Prop) : evFn c_impl_statFile_read s_impl_statFile_read [.agg #[], .pointer wv, .int .i64 g] (bodyOf Tryz.f253) Tryz.f253.results.toList w R = V_impl_statFile_read wv g w R := by kernel_rfl
theorem e_impl_statFile_read (wv : Option Addr) (g : Int) {w : World} {R : Value → World → Prop} (hvc : V_impl_statFile_read wv g w R) : Calls Tryz.prog fn_impl_statFile_read #[.agg #[], .pointer wv, .int .i64 g] w fun e0 wr0 => ∃ v0, e0 = .returned v0 ∧ R v0 wr0 :=
  eff_of_ev (C := c_impl_statFile_read) (sps := s_impl_statFile_read) (body := bodyOf Tryz.f253) (env _ _ _ _) Tryz.func253 rfl rfl (of_decide_eq_true (by kernel_rfl)) (of_decide_eq_true (by kernel_rfl)) rfl (by rw [v_impl_statFile_read]; exact hvc)
end Go.Proofs.YthojnihahmlboaaGreat
