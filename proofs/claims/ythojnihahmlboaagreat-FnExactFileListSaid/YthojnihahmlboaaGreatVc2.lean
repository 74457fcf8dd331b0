/- Printed by wip/tools/vc.py: what a function's text asks for. -/
import Derived.Test.YthojnihahmlboaaGreatTab
namespace Go.Proofs.YthojnihahmlboaaGreat
open Go.RowKit
set_option linter.unusedVariables false
set_option maxRecDepth 100000
set_option maxHeartbeats 1600000
noncomputable def c_laws_eqGroupS : Cfg := { P := Tryz.prog, T := tblGet tbl, pf := pfT, ef := efT, tt := ttT, vis := [], n := 27, pm := true, wr := false }
noncomputable def s_laws_eqGroupS : List (Nat × LSpec) := [(4, { chg := [(5, .int .i64)], chgL := [], keep := [0, 1] })]
def V_laws_eqGroupS (aO : Option Addr) (aL : Nat) (aC : Nat) (bO : Option Addr) (bL : Nat) (bC : Nat) (w : World) (R : Value → World → Prop) : Prop :=
    ((((aL : Nat) : Int) != ((bL : Nat) : Int)) = true →
    R (.bool false) w) ∧
    ((((aL : Nat) : Int) != ((bL : Nat) : Int)) = false →
    (∃ (xInv : List Value → Prop) (mu : List Value → Nat), xInv [.int .i64 0] ∧
    ∀ (i : Int), xInv [.int .i64 i] →
    ((decide (i < ((aL : Nat) : Int))) = true →
    Ix aO aL i ∧
    (∃ (x0 : Bool) (x1 : Int) (x2 : ByteArray) (x3 : Int) (x4 : Int) (x5 : Int) (x6 : Int) (x7 : Int) (x8 : Int) (x9 : Int) (x10 : Int) (x11O : Option Addr) (x11L : Nat) (x11C : Nat) (x12O : Option Addr) (x12L : Nat) (x12C : Nat) (x13O : Option Addr) (x13L : Nat) (x13C : Nat),
    CellsX [] w aO (Int.toNat i * 14) [.bool x0, .int .i64 x1, .string x2, .int .i64 x3, .int .i64 x4, .int .i64 x5, .int .i64 x6, .int .i64 x7, .int .i64 x8, .int .i64 x9, .int .i64 x10, .slice x11O x11L x11C, .slice x12O x12L x12C, .slice x13O x13L x13C] ∧
    Ix bO bL i ∧
    (∃ (x01 : Bool) (x14 : Int) (x21 : ByteArray) (x31 : Int) (x41 : Int) (x51 : Int) (x61 : Int) (x71 : Int) (x81 : Int) (x91 : Int) (x101 : Int) (x111O : Option Addr) (x111L : Nat) (x111C : Nat) (x121O : Option Addr) (x121L : Nat) (x121C : Nat) (x131O : Option Addr) (x131L : Nat) (x131C : Nat),
    CellsX [] w bO (Int.toNat i * 14) [.bool x01, .int .i64 x14, .string x21, .int .i64 x31, .int .i64 x41, .int .i64 x51, .int .i64 x61, .int .i64 x71, .int .i64 x81, .int .i64 x91, .int .i64 x101, .slice x111O x111L x111C, .slice x121O x121L x121C, .slice x131O x131L x131C] ∧
    (∃ (eqGrou : Bool),
    PureX [] Tryz.prog fn_laws_eqGroup #[.agg #[.bool x0, .int .i64 x1, .string x2, .int .i64 x3, .int .i64 x4, .int .i64 x5, .int .i64 x6, .int .i64 x7, .int .i64 x8, .int .i64 x9, .int .i64 x10, .slice x11O x11L x11C, .slice x12O x12L x12C, .slice x13O x13L x13C], .agg #[.bool x01, .int .i64 x14, .string x21, .int .i64 x31, .int .i64 x41, .int .i64 x51, .int .i64 x61, .int .i64 x71, .int .i64 x81, .int .i64 x91, .int .i64 x101, .slice x111O x111L x111C, .slice x121O x121L x121C, .slice x131O x131L x131C]] w (.bool eqGrou) ∧
    ((!eqGrou) = true →
    R (.bool false) w) ∧
    ((!eqGrou) = false →
    InR .i64 (i + 1) ∧
    xInv [.int .i64 (i + 1)] ∧ mu [.int .i64 (i + 1)] < mu [.int .i64 i]))))) ∧
    ((decide (i < ((aL : Nat) : Int))) = false →
    R (.bool true) w)))
theorem v_laws_eqGroupS (aO : Option Addr) (aL : Nat) (aC : Nat) (bO : Option Addr) (bL : Nat) (bC : Nat) (w : World) (R : Value → World → Prop) : evFn c_laws_eqGroupS s_laws_eqGroupS [.slice aO aL aC, .slice bO bL bC] (bodyOf Tryz.f49) Tryz.f49.results.toList w R = V_laws_eqGroupS aO aL aC bO bL bC w R := by kernel_rfl
theorem p_laws_eqGroupS (aO : Option Addr) (aL : Nat) (aC : Nat) (bO : Option Addr) (bL : Nat) (bC : Nat) {w : World} {bs : List Nat} {ret : Value} (hvc : ∀ wr0, ExtX bs w wr0 → V_laws_eqGroupS aO aL aC bO bL bC wr0 fun v0 _ => v0 = ret) : PureX bs Tryz.prog fn_laws_eqGroupS #[.slice aO aL aC, .slice bO bL bC] w ret :=
  pure_of_ev (C := c_laws_eqGroupS) (sps := s_laws_eqGroupS) (body := bodyOf Tryz.f49) (env _ _ _ _) Tryz.func49 rfl rfl (of_decide_eq_true (by kernel_rfl)) (of_decide_eq_true (by kernel_rfl)) rfl fun wr0 hx0 => by rw [v_laws_eqGroupS]; exact hvc wr0 hx0
noncomputable def c_laws_eqWorld : Cfg := { P := Tryz.prog, T := tblGet tbl, pf := pfT, ef := efT, tt := ttT, vis := [], n := 28, pm := true, wr := false }
noncomputable def s_laws_eqWorld : List (Nat × LSpec) := []
def V_laws_eqWorld (a0 : Int) (a1O : Option Addr) (a1L : Nat) (a1C : Nat) (a2O : Option Addr) (a2L : Nat) (a2C : Nat) (a3O : Option Addr) (a3L : Nat) (a3C : Nat) (b0 : Int) (b1O : Option Addr) (b1L : Nat) (b1C : Nat) (b2O : Option Addr) (b2L : Nat) (b2C : Nat) (b3O : Option Addr) (b3L : Nat) (b3C : Nat) (w : World) (R : Value → World → Prop) : Prop :=
    (∀ b, w.heap.size ≤ b →
    (∀ b4, w.heap.size ≤ b4 →
    ((a0 != b0) = true →
    R (.bool false) w) ∧
    ((a0 != b0) = false →
    (∃ (eqCpuS : Bool),
    PureX [] Tryz.prog fn_laws_eqCpuS #[.slice a1O a1L a1C, .slice b1O b1L b1C] w (.bool eqCpuS) ∧
    ((!eqCpuS) = true →
    R (.bool false) w) ∧
    ((!eqCpuS) = false →
    (∃ (eqTask : Bool),
    PureX [] Tryz.prog fn_laws_eqTaskS #[.slice a2O a2L a2C, .slice b2O b2L b2C] w (.bool eqTask) ∧
    ((!eqTask) = true →
    R (.bool false) w) ∧
    ((!eqTask) = false →
    (∃ (eqGrou : Bool),
    PureX [] Tryz.prog fn_laws_eqGroupS #[.slice a3O a3L a3C, .slice b3O b3L b3C] w (.bool eqGrou) ∧
    ((!eqGrou) = true →
    R (.bool false) w) ∧
    ((!eqGrou) = false →
    R (.bool true) w)))))))))
theorem v_laws_eqWorld (a0 : Int) (a1O : Option Addr) (a1L : Nat) (a1C : Nat) (a2O : Option Addr) (a2L : Nat) (a2C : Nat) (a3O : Option Addr) (a3L : Nat) (a3C : Nat) (b0 : Int) (b1O : Option Addr) (b1L : Nat) (b1C : Nat) (b2O : Option Addr) (b2L : Nat) (b2C : Nat) (b3O : Option Addr) (b3L : Nat) (b3C : Nat) (w : World) (R : Value → World → Prop) : evFn c_laws_eqWorld s_laws_eqWorld [.agg #[.int .i64 a0, .slice a1O a1L a1C, .slice a2O a2L a2C, .slice a3O a3L a3C], .agg #[.int .i64 b0, .slice b1O b1L b1C, .slice b2O b2L b2C, .slice b3O b3L b3C]] (bodyOf Tryz.f16) Tryz.f16.results.toList w R = V_laws_eqWorld a0 a1O a1L a1C a2O a2L a2C a3O a3L a3C b0 b1O b1L b1C b2O b2L b2C b3O b3L b3C w R := by kernel_rfl
theorem p_laws_eqWorld (a0 : Int) (a1O : Option Addr) (a1L : Nat) (a1C : Nat) (a2O : Option Addr) (a2L : Nat) (a2C : Nat) (a3O : Option Addr) (a3L : Nat) (a3C : Nat) (b0 : Int) (b1O : Option Addr) (b1L : Nat) (b1C : Nat) (b2O : Option Addr) (b2L : Nat) (b2C : Nat) (b3O : Option Addr) (b3L : Nat) (b3C : Nat) {w : World} {bs : List Nat} {ret : Value} (hvc : ∀ wr0, ExtX bs w wr0 → V_laws_eqWorld a0 a1O a1L a1C a2O a2L a2C a3O a3L a3C b0 b1O b1L b1C b2O b2L b2C b3O b3L b3C wr0 fun v0 _ => v0 = ret) : PureX bs Tryz.prog fn_laws_eqWorld #[.agg #[.int .i64 a0, .slice a1O a1L a1C, .slice a2O a2L a2C, .slice a3O a3L a3C], .agg #[.int .i64 b0, .slice b1O b1L b1C, .slice b2O b2L b2C, .slice b3O b3L b3C]] w ret :=
  pure_of_ev (C := c_laws_eqWorld) (sps := s_laws_eqWorld) (body := bodyOf Tryz.f16) (env _ _ _ _) Tryz.func16 rfl rfl (of_decide_eq_true (by kernel_rfl)) (of_decide_eq_true (by kernel_rfl)) rfl fun wr0 hx0 => by rw [v_laws_eqWorld]; exact hvc wr0 hx0
noncomputable def c_laws_FnExactCpuWaiting : Cfg := { P := Tryz.prog, T := tblGet tbl, pf := pfT, ef := efT, tt := ttT, vis := [], n := 31, pm := false, wr := false }
noncomputable def s_laws_FnExactCpuWaiting : List (Nat × LSpec) := []
def V_laws_FnExactCpuWaiting (aW0 : Int) (aW1O : Option Addr) (aW1L : Nat) (aW1C : Nat) (aW2O : Option Addr) (aW2L : Nat) (aW2C : Nat) (aW3O : Option Addr) (aW3L : Nat) (aW3C : Nat) (aCpu : Int) (w : World) (R : Value → World → Prop) : Prop :=
    (∀ b, w.heap.size ≤ b →
    (∃ (szWorl : Int),
    PureX [] Tryz.prog fn_laws_szWorld #[.agg #[.int .i64 aW0, .slice aW1O aW1L aW1C, .slice aW2O aW2L aW2C, .slice aW3O aW3L aW3C], .int .i64 1048576] w (.int .i64 szWorl) ∧
    ((decide (szWorl < 0)) = true →
    (∀ wr, ExtX [] w wr → R (.bool true) wr)) ∧
    ((decide (szWorl < 0)) = false →
    (∀ wr1, ExtX [] w wr1 → (∀ bq ∈ ([b] : List Nat), bq < wr1.heap.size) → 
    Calls Tryz.prog fn_laws_toWorld #[.agg #[.int .i64 aW0, .slice aW1O aW1L aW1C, .slice aW2O aW2L aW2C, .slice aW3O aW3L aW3C]] wr1 fun e wv =>
    (∃ (toWorl : Int) (toWorl1O : Option Addr) (toWorl1L : Nat) (toWorl1C : Nat) (toWorl2O : Option Addr) (toWorl2L : Nat) (toWorl2C : Nat) (toWorl3O : Option Addr) (toWorl3L : Nat) (toWorl3C : Nat),
    e = .returned (.agg #[.int .i64 toWorl, .slice toWorl1O toWorl1L toWorl1C, .slice toWorl2O toWorl2L toWorl2C, .slice toWorl3O toWorl3L toWorl3C]) ∧ Kept [b] wr1 wv ∧
    (∃ (xCpuWai : Int),
    PureX [b] Tryz.prog fn_spec_CpuWaiting #[.agg #[.int .i64 toWorl, .slice toWorl1O toWorl1L toWorl1C, .slice toWorl2O toWorl2L toWorl2C, .slice toWorl3O toWorl3L toWorl3C], .int .i64 aCpu] wv (.int .i64 xCpuWai) ∧
    (∀ wr2, ExtX [b] wv wr2 → (∀ bq ∈ ([b] : List Nat), bq < wr2.heap.size) → 
    Calls Tryz.prog fn_laws_toWorld #[.agg #[.int .i64 aW0, .slice aW1O aW1L aW1C, .slice aW2O aW2L aW2C, .slice aW3O aW3L aW3C]] wr2 fun e1 wv1 =>
    (∃ (toWorl4 : Int) (toWorl5O : Option Addr) (toWorl5L : Nat) (toWorl5C : Nat) (toWorl6O : Option Addr) (toWorl6L : Nat) (toWorl6C : Nat) (toWorl7O : Option Addr) (toWorl7L : Nat) (toWorl7C : Nat),
    e1 = .returned (.agg #[.int .i64 toWorl4, .slice toWorl5O toWorl5L toWorl5C, .slice toWorl6O toWorl6L toWorl6C, .slice toWorl7O toWorl7L toWorl7C]) ∧ Kept [b] wr2 wv1 ∧
    (∀ b1, wv1.heap.size ≤ b1 →
    (∃ (xCpuWai1 : Int),
    PureX [b] Tryz.prog fn_impl_CpuWaiting #[.agg #[.int .i64 toWorl4, .slice toWorl5O toWorl5L toWorl5C, .slice toWorl6O toWorl6L toWorl6C, .slice toWorl7O toWorl7L toWorl7C], .int .i64 aCpu] wv1 (.int .i64 xCpuWai1) ∧
    ((xCpuWai1 != xCpuWai) = true →
    (∀ wr3, ExtX [b] wv1 wr3 → R (.bool false) wr3)) ∧
    ((xCpuWai1 != xCpuWai) = false →
    (∀ wr4, ExtX [b] wv1 wr4 → (∀ bq ∈ ([b, b1] : List Nat), bq < wr4.heap.size) → 
    Calls Tryz.prog fn_laws_toWorld #[.agg #[.int .i64 aW0, .slice aW1O aW1L aW1C, .slice aW2O aW2L aW2C, .slice aW3O aW3L aW3C]] wr4 fun e2 wv2 =>
    (∃ (toWorl8 : Int) (toWorl9O : Option Addr) (toWorl9L : Nat) (toWorl9C : Nat) (toWorl10O : Option Addr) (toWorl10L : Nat) (toWorl10C : Nat) (toWorl11O : Option Addr) (toWorl11L : Nat) (toWorl11C : Nat),
    e2 = .returned (.agg #[.int .i64 toWorl8, .slice toWorl9O toWorl9L toWorl9C, .slice toWorl10O toWorl10L toWorl10C, .slice toWorl11O toWorl11L toWorl11C]) ∧ Kept [b, b1] wr4 wv2 ∧
    (some (ty_impl_World, ([.int .i64 toWorl4, .slice toWorl5O toWorl5L toWorl5C, .slice toWorl6O toWorl6L toWorl6C, .slice toWorl7O toWorl7L toWorl7C] : List Value)) = some (ty_impl_World, ([.int .i64 toWorl4, .slice toWorl5O toWorl5L toWorl5C, .slice toWorl6O toWorl6L toWorl6C, .slice toWorl7O toWorl7L toWorl7C] : List Value))) ∧
    (∃ (eqWorl : Bool),
    PureX [b, b1] Tryz.prog fn_laws_eqWorld #[.agg #[.int .i64 toWorl4, .slice toWorl5O toWorl5L toWorl5C, .slice toWorl6O toWorl6L toWorl6C, .slice toWorl7O toWorl7L toWorl7C], .agg #[.int .i64 toWorl8, .slice toWorl9O toWorl9L toWorl9C, .slice toWorl10O toWorl10L toWorl10C, .slice toWorl11O toWorl11L toWorl11C]] wv2 (.bool eqWorl) ∧
    ((!eqWorl) = true →
    (∀ wr5, ExtX [b, b1] wv2 wr5 → R (.bool false) wr5)) ∧
    ((!eqWorl) = false →
    (∀ wr6, ExtX [b, b1] wv2 wr6 → R (.bool true) wr6))))))))))))))))
theorem v_laws_FnExactCpuWaiting (aW0 : Int) (aW1O : Option Addr) (aW1L : Nat) (aW1C : Nat) (aW2O : Option Addr) (aW2L : Nat) (aW2C : Nat) (aW3O : Option Addr) (aW3L : Nat) (aW3C : Nat) (aCpu : Int) (w : World) (R : Value → World → Prop) : evFn c_laws_FnExactCpuWaiting s_laws_FnExactCpuWaiting [.agg #[.int .i64 aW0, .slice aW1O aW1L aW1C, .slice aW2O aW2L aW2C, .slice aW3O aW3L aW3C], .int .i64 aCpu] (bodyOf Tryz.f3) Tryz.f3.results.toList w R = V_laws_FnExactCpuWaiting aW0 aW1O aW1L aW1C aW2O aW2L aW2C aW3O aW3L aW3C aCpu w R := by kernel_rfl
theorem e_laws_FnExactCpuWaiting (aW0 : Int) (aW1O : Option Addr) (aW1L : Nat) (aW1C : Nat) (aW2O : Option Addr) (aW2L : Nat) (aW2C : Nat) (aW3O : Option Addr) (aW3L : Nat) (aW3C : Nat) (aCpu : Int) {w : World} {R : Value → World → Prop} (hvc : V_laws_FnExactCpuWaiting aW0 aW1O aW1L aW1C aW2O aW2L aW2C aW3O aW3L aW3C aCpu w R) : Calls Tryz.prog fn_laws_FnExactCpuWaiting #[.agg #[.int .i64 aW0, .slice aW1O aW1L aW1C, .slice aW2O aW2L aW2C, .slice aW3O aW3L aW3C], .int .i64 aCpu] w fun e0 wr0 => ∃ v0, e0 = .returned v0 ∧ R v0 wr0 :=
  eff_of_ev (C := c_laws_FnExactCpuWaiting) (sps := s_laws_FnExactCpuWaiting) (body := bodyOf Tryz.f3) (env _ _ _ _) Tryz.func3 rfl rfl (of_decide_eq_true (by kernel_rfl)) (of_decide_eq_true (by kernel_rfl)) rfl (by rw [v_laws_FnExactCpuWaiting]; exact hvc)
noncomputable def c_spec_l12Load : Cfg := { P := Tryz.prog, T := tblGet tbl, pf := pfT, ef := efT, tt := ttT, vis := [], n := 46, pm := true, wr := false }
noncomputable def s_spec_l12Load : List (Nat × LSpec) := [(3, { chg := [(5, .int .i64), (6, .int .i64)], chgL := [], keep := [1, 2] })]
def V_spec_l12Load (w0 : Int) (w1O : Option Addr) (w1L : Nat) (w1C : Nat) (w2O : Option Addr) (w2L : Nat) (w2C : Nat) (w3O : Option Addr) (w3L : Nat) (w3C : Nat) (c : Int) (w : World) (R : Value → World → Prop) : Prop :=
    (∀ b, w.heap.size ≤ b →
    (∃ (xInv : List Value → Prop) (mu : List Value → Nat), xInv [.int .i64 0, .int .i64 0] ∧
    ∀ (n : Int) (t : Int), xInv [.int .i64 n, .int .i64 t] →
    ((decide (t < ((w2L : Nat) : Int))) = true →
    Ix w2O w2L t ∧
    (∃ (state : Int),
    CellsX [] w w2O (Int.toNat t * 9 + 0) [.int .i64 state] ∧
    ((state == 1) = true → Ix w2O w2L t) ∧
    (∃ (cpu : Int),
    ((state == 1) = true → CellsX [] w w2O (Int.toNat t * 9 + 2) [.int .i64 cpu]) ∧
    (∃ (l8InLi : Bool),
    (((state == 1) && (cpu == c)) = true → PureX [] Tryz.prog fn_spec_l8InLine #[.agg #[.int .i64 w0, .slice w1O w1L w1C, .slice w2O w2L w2C, .slice w3O w3L w3C], .int .i64 t] w (.bool l8InLi)) ∧
    ((((state == 1) && (cpu == c)) && l8InLi) = true →
    Ix w2O w2L t ∧
    (∃ (nice : Int),
    CellsX [] w w2O (Int.toNat t * 9 + 3) [.int .i64 nice] ∧
    (∃ (xWeight : Int),
    PureX [] Tryz.prog fn_spec_WeightOf #[.int .i64 nice] w (.int .i64 xWeight) ∧
    InR .i64 (n + xWeight) ∧
    InR .i64 (t + 1) ∧
    xInv [.int .i64 (n + xWeight), .int .i64 (t + 1)] ∧ mu [.int .i64 (n + xWeight), .int .i64 (t + 1)] < mu [.int .i64 n, .int .i64 t]))) ∧
    ((((state == 1) && (cpu == c)) && l8InLi) = false →
    InR .i64 (t + 1) ∧
    xInv [.int .i64 n, .int .i64 (t + 1)] ∧ mu [.int .i64 n, .int .i64 (t + 1)] < mu [.int .i64 n, .int .i64 t]))))) ∧
    ((decide (t < ((w2L : Nat) : Int))) = false →
    R (.int .i64 n) w)))
theorem v_spec_l12Load (w0 : Int) (w1O : Option Addr) (w1L : Nat) (w1C : Nat) (w2O : Option Addr) (w2L : Nat) (w2C : Nat) (w3O : Option Addr) (w3L : Nat) (w3C : Nat) (c : Int) (w : World) (R : Value → World → Prop) : evFn c_spec_l12Load s_spec_l12Load [.agg #[.int .i64 w0, .slice w1O w1L w1C, .slice w2O w2L w2C, .slice w3O w3L w3C], .int .i64 c] (bodyOf Tryz.f50) Tryz.f50.results.toList w R = V_spec_l12Load w0 w1O w1L w1C w2O w2L w2C w3O w3L w3C c w R := by kernel_rfl
theorem p_spec_l12Load (w0 : Int) (w1O : Option Addr) (w1L : Nat) (w1C : Nat) (w2O : Option Addr) (w2L : Nat) (w2C : Nat) (w3O : Option Addr) (w3L : Nat) (w3C : Nat) (c : Int) {w : World} {bs : List Nat} {ret : Value} (hvc : ∀ wr0, ExtX bs w wr0 → V_spec_l12Load w0 w1O w1L w1C w2O w2L w2C w3O w3L w3C c wr0 fun v0 _ => v0 = ret) : PureX bs Tryz.prog fn_spec_l12Load #[.agg #[.int .i64 w0, .slice w1O w1L w1C, .slice w2O w2L w2C, .slice w3O w3L w3C], .int .i64 c] w ret :=
  pure_of_ev (C := c_spec_l12Load) (sps := s_spec_l12Load) (body := bodyOf Tryz.f50) (env _ _ _ _) Tryz.func50 rfl rfl (of_decide_eq_true (by kernel_rfl)) (of_decide_eq_true (by kernel_rfl)) rfl fun wr0 hx0 => by rw [v_spec_l12Load]; exact hvc wr0 hx0
noncomputable def c_spec_CpuLoad : Cfg := { P := Tryz.prog, T := tblGet tbl, pf := pfT, ef := efT, tt := ttT, vis := [], n := 20, pm := true, wr := false }
noncomputable def s_spec_CpuLoad : List (Nat × LSpec) := []
def V_spec_CpuLoad (w0 : Int) (w1O : Option Addr) (w1L : Nat) (w1C : Nat) (w2O : Option Addr) (w2L : Nat) (w2C : Nat) (w3O : Option Addr) (w3L : Nat) (w3C : Nat) (cpu : Int) (w : World) (R : Value → World → Prop) : Prop :=
    (∀ b, w.heap.size ≤ b →
    (∃ (xWorldO : Bool),
    PureX [] Tryz.prog fn_spec_WorldOk #[.agg #[.int .i64 w0, .slice w1O w1L w1C, .slice w2O w2L w2C, .slice w3O w3L w3C]] w (.bool xWorldO) ∧
    ((!xWorldO) = false → InR .i64 (((w1L : Nat) : Int) - 1)) ∧
    (∃ (l1In : Bool),
    ((!xWorldO) = false → PureX [] Tryz.prog fn_spec_l1In #[.int .i64 cpu, .int .i64 0, .int .i64 (((w1L : Nat) : Int) - 1)] w (.bool l1In)) ∧
    (((!xWorldO) || (!l1In)) = true →
    R (.int .i64 0) w) ∧
    (((!xWorldO) || (!l1In)) = false →
    (∃ (l12Loa : Int),
    PureX [] Tryz.prog fn_spec_l12Load #[.agg #[.int .i64 w0, .slice w1O w1L w1C, .slice w2O w2L w2C, .slice w3O w3L w3C], .int .i64 cpu] w (.int .i64 l12Loa) ∧
    R (.int .i64 l12Loa) w)))))
theorem v_spec_CpuLoad (w0 : Int) (w1O : Option Addr) (w1L : Nat) (w1C : Nat) (w2O : Option Addr) (w2L : Nat) (w2C : Nat) (w3O : Option Addr) (w3L : Nat) (w3C : Nat) (cpu : Int) (w : World) (R : Value → World → Prop) : evFn c_spec_CpuLoad s_spec_CpuLoad [.agg #[.int .i64 w0, .slice w1O w1L w1C, .slice w2O w2L w2C, .slice w3O w3L w3C], .int .i64 cpu] (bodyOf Tryz.f17) Tryz.f17.results.toList w R = V_spec_CpuLoad w0 w1O w1L w1C w2O w2L w2C w3O w3L w3C cpu w R := by kernel_rfl
theorem p_spec_CpuLoad (w0 : Int) (w1O : Option Addr) (w1L : Nat) (w1C : Nat) (w2O : Option Addr) (w2L : Nat) (w2C : Nat) (w3O : Option Addr) (w3L : Nat) (w3C : Nat) (cpu : Int) {w : World} {bs : List Nat} {ret : Value} (hvc : ∀ wr0, ExtX bs w wr0 → V_spec_CpuLoad w0 w1O w1L w1C w2O w2L w2C w3O w3L w3C cpu wr0 fun v0 _ => v0 = ret) : PureX bs Tryz.prog fn_spec_CpuLoad #[.agg #[.int .i64 w0, .slice w1O w1L w1C, .slice w2O w2L w2C, .slice w3O w3L w3C], .int .i64 cpu] w ret :=
  pure_of_ev (C := c_spec_CpuLoad) (sps := s_spec_CpuLoad) (body := bodyOf Tryz.f17) (env _ _ _ _) Tryz.func17 rfl rfl (of_decide_eq_true (by kernel_rfl)) (of_decide_eq_true (by kernel_rfl)) rfl fun wr0 hx0 => by rw [v_spec_CpuLoad]; exact hvc wr0 hx0
noncomputable def c_impl_World_weight : Cfg := { P := Tryz.prog, T := tblGet tbl, pf := pfT, ef := efT, tt := ttT, vis := [], n := 14, pm := true, wr := false }
noncomputable def s_impl_World_weight : List (Nat × LSpec) := []
def V_impl_World_weight (wv : Option Addr) (task : Int) (w : World) (R : Value → World → Prop) : Prop :=
    wv.isSome = true ∧
    (∃ (tasksO : Option Addr) (tasksL : Nat) (tasksC : Nat),
    CellsX [] w wv (0 + 2) [.slice tasksO tasksL tasksC] ∧
    Ix tasksO tasksL task ∧
    (∃ (nice : Int),
    CellsX [] w tasksO (Int.toNat task * 9 + 3) [.int .i64 nice] ∧
    (∃ (xWeight : Int),
    PureX [] Tryz.prog fn_impl_WeightOf #[.int .i64 nice] w (.int .i64 xWeight) ∧
    R (.int .i64 xWeight) w)))
theorem v_impl_World_weight (wv : Option Addr) (task : Int) (w : World) (R : Value → World → Prop) : evFn c_impl_World_weight s_impl_World_weight [.pointer wv, .int .i64 task] (bodyOf Tryz.f103) Tryz.f103.results.toList w R = V_impl_World_weight wv task w R := by kernel_rfl
theorem p_impl_World_weight (wv : Option Addr) (task : Int) {w : World} {bs : List Nat} {ret : Value} (hvc : ∀ wr0, ExtX bs w wr0 → V_impl_World_weight wv task wr0 fun v0 _ => v0 = ret) : PureX bs Tryz.prog fn_impl_World_weight #[.pointer wv, .int .i64 task] w ret :=
  pure_of_ev (C := c_impl_World_weight) (sps := s_impl_World_weight) (body := bodyOf Tryz.f103) (env _ _ _ _) Tryz.func103 rfl rfl (of_decide_eq_true (by kernel_rfl)) (of_decide_eq_true (by kernel_rfl)) rfl fun wr0 hx0 => by rw [v_impl_World_weight]; exact hvc wr0 hx0
noncomputable def c_impl_total : Cfg := { P := Tryz.prog, T := tblGet tbl, pf := pfT, ef := efT, tt := ttT, vis := [], n := 17, pm := true, wr := false }
noncomputable def s_impl_total : List (Nat × LSpec) := [(3, { chg := [(3, .int .i64), (8, .int .i64)], chgL := [], keep := [6, 7] })]
def V_impl_total (partsO : Option Addr) (partsL : Nat) (partsC : Nat) (w : World) (R : Value → World → Prop) : Prop :=
    (∃ (xInv : List Value → Prop) (mu : List Value → Nat), xInv [.int .i64 0, .int .i64 0] ∧
    ∀ (sum : Int) (x : Int), xInv [.int .i64 sum, .int .i64 x] →
    ((decide (x < ((partsL : Nat) : Int))) = true →
    Ix partsO partsL x ∧
    (∃ (x1 : Int),
    CellsX [] w partsO (Int.toNat x * 1) [.int .i64 x1] ∧
    InR .i64 (sum + x1) ∧
    InR .i64 (x + 1) ∧
    xInv [.int .i64 (sum + x1), .int .i64 (x + 1)] ∧ mu [.int .i64 (sum + x1), .int .i64 (x + 1)] < mu [.int .i64 sum, .int .i64 x])) ∧
    ((decide (x < ((partsL : Nat) : Int))) = false →
    R (.int .i64 sum) w))
theorem v_impl_total (partsO : Option Addr) (partsL : Nat) (partsC : Nat) (w : World) (R : Value → World → Prop) : evFn c_impl_total s_impl_total [.slice partsO partsL partsC] (bodyOf Tryz.f104) Tryz.f104.results.toList w R = V_impl_total partsO partsL partsC w R := by kernel_rfl
theorem p_impl_total (partsO : Option Addr) (partsL : Nat) (partsC : Nat) {w : World} {bs : List Nat} {ret : Value} (hvc : ∀ wr0, ExtX bs w wr0 → V_impl_total partsO partsL partsC wr0 fun v0 _ => v0 = ret) : PureX bs Tryz.prog fn_impl_total #[.slice partsO partsL partsC] w ret :=
  pure_of_ev (C := c_impl_total) (sps := s_impl_total) (body := bodyOf Tryz.f104) (env _ _ _ _) Tryz.func104 rfl rfl (of_decide_eq_true (by kernel_rfl)) (of_decide_eq_true (by kernel_rfl)) rfl fun wr0 hx0 => by rw [v_impl_total]; exact hvc wr0 hx0
noncomputable def c_impl_lane_load : Cfg := { P := Tryz.prog, T := tblGet tbl, pf := pfT, ef := efT, tt := ttT, vis := [], n := 27, pm := false, wr := false }
noncomputable def s_impl_lane_load : List (Nat × LSpec) := [(3, { chg := [(3, .slice), (11, .int .i64)], chgL := [], keep := [1, 10] })]
def V_impl_lane_load (p0 : Option Addr) (p1 : Int) (w : World) (R : Value → World → Prop) : Prop :=
    (∀ b, w.heap.size ≤ b →
    p0.isSome = true ∧
    (∃ (tasksO : Option Addr) (tasksL : Nat) (tasksC : Nat),
    CellsX [] w p0 (0 + 2) [.slice tasksO tasksL tasksC] ∧
    (∃ (xInv : List Value → World → Prop) (mu : List Value → World → Nat), (∀ wr, ExtX [] w wr → (∀ bq ∈ ([b] : List Nat), bq < wr.heap.size) → xInv [.slice none 0 0, .int .i64 0] wr) ∧
    ∀ (weightsO : Option Addr) (weightsL : Nat) (weightsC : Nat) (x : Int) wv, (∀ bq ∈ ([b] : List Nat), bq < wv.heap.size) → xInv [.slice weightsO weightsL weightsC, .int .i64 x] wv →
    ((decide (x < ((tasksL : Nat) : Int))) = true →
    (∃ (inLine : Bool),
    PureX [b] Tryz.prog fn_impl_lane_inLine #[.agg #[.pointer p0, .int .i64 p1], .int .i64 x] wv (.bool inLine) ∧
    (inLine = true →
    (∃ (weight : Int),
    PureX [b] Tryz.prog fn_impl_World_weight #[.pointer p0, .int .i64 x] wv (.int .i64 weight) ∧
    (∀ b1, wv.heap.size ≤ b1 →
    (∀ wr1, ExtX [b] wv wr1 → (∀ bq ∈ ([b, b1] : List Nat), bq < wr1.heap.size) → wr1.heap[b1]? = some (Obj.cells ([.int .i64 weight] : List Value).toArray ty_int (0, 0)) → 
    (∃ (apO : Option Addr) (apL : Nat) (apC : Nat),
    ∃ wv1, (builtin .append #[ty_sl_int, ty_sl_int] ty_sl_int #[false, false] #[.slice weightsO weightsL weightsC, .slice (some (Addr.mk b1 0 none)) 1 1]).run Tryz.prog wr1 = .ok (.value (.slice apO apL apC)) wv1 ∧ Kept [b, b1] wr1 wv1 ∧
    InR .i64 (x + 1) ∧
    (∀ wr2, ExtX [b, b1] wv1 wr2 → (∀ bq ∈ ([b, b1] : List Nat), bq < wr2.heap.size) → xInv [.slice apO apL apC, .int .i64 (x + 1)] wr2 ∧ mu [.slice apO apL apC, .int .i64 (x + 1)] wr2 < mu [.slice weightsO weightsL weightsC, .int .i64 x] wv)))))) ∧
    (inLine = false →
    InR .i64 (x + 1) ∧
    (∀ wr3, ExtX [b] wv wr3 → (∀ bq ∈ ([b] : List Nat), bq < wr3.heap.size) → xInv [.slice weightsO weightsL weightsC, .int .i64 (x + 1)] wr3 ∧ mu [.slice weightsO weightsL weightsC, .int .i64 (x + 1)] wr3 < mu [.slice weightsO weightsL weightsC, .int .i64 x] wv)))) ∧
    ((decide (x < ((tasksL : Nat) : Int))) = false →
    (∃ (total : Int),
    PureX [b] Tryz.prog fn_impl_total #[.slice weightsO weightsL weightsC] wv (.int .i64 total) ∧
    (∀ wr4, ExtX [b] wv wr4 → R (.int .i64 total) wr4))))))
theorem v_impl_lane_load (p0 : Option Addr) (p1 : Int) (w : World) (R : Value → World → Prop) : evFn c_impl_lane_load s_impl_lane_load [.agg #[.pointer p0, .int .i64 p1]] (bodyOf Tryz.f51) Tryz.f51.results.toList w R = V_impl_lane_load p0 p1 w R := by kernel_rfl
theorem e_impl_lane_load (p0 : Option Addr) (p1 : Int) {w : World} {R : Value → World → Prop} (hvc : V_impl_lane_load p0 p1 w R) : Calls Tryz.prog fn_impl_lane_load #[.agg #[.pointer p0, .int .i64 p1]] w fun e0 wr0 => ∃ v0, e0 = .returned v0 ∧ R v0 wr0 :=
  eff_of_ev (C := c_impl_lane_load) (sps := s_impl_lane_load) (body := bodyOf Tryz.f51) (env _ _ _ _) Tryz.func51 rfl rfl (of_decide_eq_true (by kernel_rfl)) (of_decide_eq_true (by kernel_rfl)) rfl (by rw [v_impl_lane_load]; exact hvc)
noncomputable def c_impl_CpuLoad : Cfg := { P := Tryz.prog, T := tblGet tbl, pf := pfT, ef := efT, tt := ttT, vis := [2], n := 16, pm := false, wr := false }
noncomputable def s_impl_CpuLoad : List (Nat × LSpec) := []
def V_impl_CpuLoad (w0 : Int) (w1O : Option Addr) (w1L : Nat) (w1C : Nat) (w2O : Option Addr) (w2L : Nat) (w2C : Nat) (w3O : Option Addr) (w3L : Nat) (w3C : Nat) (cpu : Int) (w : World) (R : Value → World → Prop) : Prop :=
    (∀ b wb, ExtX [] w wb → w.heap.size ≤ b → wb.heap[b]? = some (Obj.cells ([.int .i64 w0, .slice w1O w1L w1C, .slice w2O w2L w2C, .slice w3O w3L w3C] : List Value).toArray ty_impl_World (0, 0)) → b ∉ ([] : List Nat) →
    (∃ (x0 : Int) (x1O : Option Addr) (x1L : Nat) (x1C : Nat) (x2O : Option Addr) (x2L : Nat) (x2C : Nat) (x3O : Option Addr) (x3L : Nat) (x3C : Nat),
    CellsX [] wb (some (Addr.mk b 0 none)) 0 [.int .i64 x0, .slice x1O x1L x1C, .slice x2O x2L x2C, .slice x3O x3L x3C] ∧
    (∃ (xWorldO : Bool),
    PureX [] Tryz.prog fn_impl_WorldOk #[.agg #[.int .i64 x0, .slice x1O x1L x1C, .slice x2O x2L x2C, .slice x3O x3L x3C]] wb (.bool xWorldO) ∧
    (∃ (cpuThe : Bool),
    ((!xWorldO) = false → PureX [] Tryz.prog fn_impl_World_cpuThere #[.pointer ((some (Addr.mk b 0 none)).map (·.add 0)), .int .i64 cpu] wb (.bool cpuThe)) ∧
    (((!xWorldO) || (!cpuThe)) = true →
    (∀ wr, ExtX [] wb wr → R (.int .i64 0) wr)) ∧
    (((!xWorldO) || (!cpuThe)) = false →
    (∃ (lane : Option Addr) (lane1 : Int),
    PureX [] Tryz.prog fn_impl_World_lane #[.pointer ((some (Addr.mk b 0 none)).map (·.add 0)), .int .i64 cpu] wb (.agg #[.pointer lane, .int .i64 lane1]) ∧
    (∃ (load : Int),
    PureX [] Tryz.prog fn_impl_lane_load #[.agg #[.pointer lane, .int .i64 lane1]] wb (.int .i64 load) ∧
    (∀ wr1, ExtX [] wb wr1 → R (.int .i64 load) wr1))))))))
theorem v_impl_CpuLoad (w0 : Int) (w1O : Option Addr) (w1L : Nat) (w1C : Nat) (w2O : Option Addr) (w2L : Nat) (w2C : Nat) (w3O : Option Addr) (w3L : Nat) (w3C : Nat) (cpu : Int) (w : World) (R : Value → World → Prop) : evFn c_impl_CpuLoad s_impl_CpuLoad [.agg #[.int .i64 w0, .slice w1O w1L w1C, .slice w2O w2L w2C, .slice w3O w3L w3C], .int .i64 cpu] (bodyOf Tryz.f18) Tryz.f18.results.toList w R = V_impl_CpuLoad w0 w1O w1L w1C w2O w2L w2C w3O w3L w3C cpu w R := by kernel_rfl
theorem e_impl_CpuLoad (w0 : Int) (w1O : Option Addr) (w1L : Nat) (w1C : Nat) (w2O : Option Addr) (w2L : Nat) (w2C : Nat) (w3O : Option Addr) (w3L : Nat) (w3C : Nat) (cpu : Int) {w : World} {R : Value → World → Prop} (hvc : V_impl_CpuLoad w0 w1O w1L w1C w2O w2L w2C w3O w3L w3C cpu w R) : Calls Tryz.prog fn_impl_CpuLoad #[.agg #[.int .i64 w0, .slice w1O w1L w1C, .slice w2O w2L w2C, .slice w3O w3L w3C], .int .i64 cpu] w fun e0 wr0 => ∃ v0, e0 = .returned v0 ∧ R v0 wr0 :=
  eff_of_ev (C := c_impl_CpuLoad) (sps := s_impl_CpuLoad) (body := bodyOf Tryz.f18) (env _ _ _ _) Tryz.func18 rfl rfl (of_decide_eq_true (by kernel_rfl)) (of_decide_eq_true (by kernel_rfl)) rfl (by rw [v_impl_CpuLoad]; exact hvc)
noncomputable def c_laws_FnExactCpuLoad : Cfg := { P := Tryz.prog, T := tblGet tbl, pf := pfT, ef := efT, tt := ttT, vis := [], n := 31, pm := false, wr := false }
noncomputable def s_laws_FnExactCpuLoad : List (Nat × LSpec) := []
def V_laws_FnExactCpuLoad (aW0 : Int) (aW1O : Option Addr) (aW1L : Nat) (aW1C : Nat) (aW2O : Option Addr) (aW2L : Nat) (aW2C : Nat) (aW3O : Option Addr) (aW3L : Nat) (aW3C : Nat) (aCpu : Int) (w : World) (R : Value → World → Prop) : Prop :=
    (∀ b, w.heap.size ≤ b →
    (∃ (szWorl : Int),
    PureX [] Tryz.prog fn_laws_szWorld #[.agg #[.int .i64 aW0, .slice aW1O aW1L aW1C, .slice aW2O aW2L aW2C, .slice aW3O aW3L aW3C], .int .i64 1048576] w (.int .i64 szWorl) ∧
    ((decide (szWorl < 0)) = true →
    (∀ wr, ExtX [] w wr → R (.bool true) wr)) ∧
    ((decide (szWorl < 0)) = false →
    (∀ wr1, ExtX [] w wr1 → (∀ bq ∈ ([b] : List Nat), bq < wr1.heap.size) → 
    Calls Tryz.prog fn_laws_toWorld #[.agg #[.int .i64 aW0, .slice aW1O aW1L aW1C, .slice aW2O aW2L aW2C, .slice aW3O aW3L aW3C]] wr1 fun e wv =>
    (∃ (toWorl : Int) (toWorl1O : Option Addr) (toWorl1L : Nat) (toWorl1C : Nat) (toWorl2O : Option Addr) (toWorl2L : Nat) (toWorl2C : Nat) (toWorl3O : Option Addr) (toWorl3L : Nat) (toWorl3C : Nat),
    e = .returned (.agg #[.int .i64 toWorl, .slice toWorl1O toWorl1L toWorl1C, .slice toWorl2O toWorl2L toWorl2C, .slice toWorl3O toWorl3L toWorl3C]) ∧ Kept [b] wr1 wv ∧
    (∃ (xCpuLoa : Int),
    PureX [b] Tryz.prog fn_spec_CpuLoad #[.agg #[.int .i64 toWorl, .slice toWorl1O toWorl1L toWorl1C, .slice toWorl2O toWorl2L toWorl2C, .slice toWorl3O toWorl3L toWorl3C], .int .i64 aCpu] wv (.int .i64 xCpuLoa) ∧
    (∀ wr2, ExtX [b] wv wr2 → (∀ bq ∈ ([b] : List Nat), bq < wr2.heap.size) → 
    Calls Tryz.prog fn_laws_toWorld #[.agg #[.int .i64 aW0, .slice aW1O aW1L aW1C, .slice aW2O aW2L aW2C, .slice aW3O aW3L aW3C]] wr2 fun e1 wv1 =>
    (∃ (toWorl4 : Int) (toWorl5O : Option Addr) (toWorl5L : Nat) (toWorl5C : Nat) (toWorl6O : Option Addr) (toWorl6L : Nat) (toWorl6C : Nat) (toWorl7O : Option Addr) (toWorl7L : Nat) (toWorl7C : Nat),
    e1 = .returned (.agg #[.int .i64 toWorl4, .slice toWorl5O toWorl5L toWorl5C, .slice toWorl6O toWorl6L toWorl6C, .slice toWorl7O toWorl7L toWorl7C]) ∧ Kept [b] wr2 wv1 ∧
    (∀ b1, wv1.heap.size ≤ b1 →
    (∃ (xCpuLoa1 : Int),
    PureX [b] Tryz.prog fn_impl_CpuLoad #[.agg #[.int .i64 toWorl4, .slice toWorl5O toWorl5L toWorl5C, .slice toWorl6O toWorl6L toWorl6C, .slice toWorl7O toWorl7L toWorl7C], .int .i64 aCpu] wv1 (.int .i64 xCpuLoa1) ∧
    ((xCpuLoa1 != xCpuLoa) = true →
    (∀ wr3, ExtX [b] wv1 wr3 → R (.bool false) wr3)) ∧
    ((xCpuLoa1 != xCpuLoa) = false →
    (∀ wr4, ExtX [b] wv1 wr4 → (∀ bq ∈ ([b, b1] : List Nat), bq < wr4.heap.size) → 
    Calls Tryz.prog fn_laws_toWorld #[.agg #[.int .i64 aW0, .slice aW1O aW1L aW1C, .slice aW2O aW2L aW2C, .slice aW3O aW3L aW3C]] wr4 fun e2 wv2 =>
    (∃ (toWorl8 : Int) (toWorl9O : Option Addr) (toWorl9L : Nat) (toWorl9C : Nat) (toWorl10O : Option Addr) (toWorl10L : Nat) (toWorl10C : Nat) (toWorl11O : Option Addr) (toWorl11L : Nat) (toWorl11C : Nat),
    e2 = .returned (.agg #[.int .i64 toWorl8, .slice toWorl9O toWorl9L toWorl9C, .slice toWorl10O toWorl10L toWorl10C, .slice toWorl11O toWorl11L toWorl11C]) ∧ Kept [b, b1] wr4 wv2 ∧
    (some (ty_impl_World, ([.int .i64 toWorl4, .slice toWorl5O toWorl5L toWorl5C, .slice toWorl6O toWorl6L toWorl6C, .slice toWorl7O toWorl7L toWorl7C] : List Value)) = some (ty_impl_World, ([.int .i64 toWorl4, .slice toWorl5O toWorl5L toWorl5C, .slice toWorl6O toWorl6L toWorl6C, .slice toWorl7O toWorl7L toWorl7C] : List Value))) ∧
    (∃ (eqWorl : Bool),
    PureX [b, b1] Tryz.prog fn_laws_eqWorld #[.agg #[.int .i64 toWorl4, .slice toWorl5O toWorl5L toWorl5C, .slice toWorl6O toWorl6L toWorl6C, .slice toWorl7O toWorl7L toWorl7C], .agg #[.int .i64 toWorl8, .slice toWorl9O toWorl9L toWorl9C, .slice toWorl10O toWorl10L toWorl10C, .slice toWorl11O toWorl11L toWorl11C]] wv2 (.bool eqWorl) ∧
    ((!eqWorl) = true →
    (∀ wr5, ExtX [b, b1] wv2 wr5 → R (.bool false) wr5)) ∧
    ((!eqWorl) = false →
    (∀ wr6, ExtX [b, b1] wv2 wr6 → R (.bool true) wr6))))))))))))))))
theorem v_laws_FnExactCpuLoad (aW0 : Int) (aW1O : Option Addr) (aW1L : Nat) (aW1C : Nat) (aW2O : Option Addr) (aW2L : Nat) (aW2C : Nat) (aW3O : Option Addr) (aW3L : Nat) (aW3C : Nat) (aCpu : Int) (w : World) (R : Value → World → Prop) : evFn c_laws_FnExactCpuLoad s_laws_FnExactCpuLoad [.agg #[.int .i64 aW0, .slice aW1O aW1L aW1C, .slice aW2O aW2L aW2C, .slice aW3O aW3L aW3C], .int .i64 aCpu] (bodyOf Tryz.f4) Tryz.f4.results.toList w R = V_laws_FnExactCpuLoad aW0 aW1O aW1L aW1C aW2O aW2L aW2C aW3O aW3L aW3C aCpu w R := by kernel_rfl
theorem e_laws_FnExactCpuLoad (aW0 : Int) (aW1O : Option Addr) (aW1L : Nat) (aW1C : Nat) (aW2O : Option Addr) (aW2L : Nat) (aW2C : Nat) (aW3O : Option Addr) (aW3L : Nat) (aW3C : Nat) (aCpu : Int) {w : World} {R : Value → World → Prop} (hvc : V_laws_FnExactCpuLoad aW0 aW1O aW1L aW1C aW2O aW2L aW2C aW3O aW3L aW3C aCpu w R) : Calls Tryz.prog fn_laws_FnExactCpuLoad #[.agg #[.int .i64 aW0, .slice aW1O aW1L aW1C, .slice aW2O aW2L aW2C, .slice aW3O aW3L aW3C], .int .i64 aCpu] w fun e0 wr0 => ∃ v0, e0 = .returned v0 ∧ R v0 wr0 :=
  eff_of_ev (C := c_laws_FnExactCpuLoad) (sps := s_laws_FnExactCpuLoad) (body := bodyOf Tryz.f4) (env _ _ _ _) Tryz.func4 rfl rfl (of_decide_eq_true (by kernel_rfl)) (of_decide_eq_true (by kernel_rfl)) rfl (by rw [v_laws_FnExactCpuLoad]; exact hvc)
noncomputable def c_spec_TreeUnder : Cfg := { P := Tryz.prog, T := tblGet tbl, pf := pfT, ef := efT, tt := ttT, vis := [], n := 32, pm := true, wr := false }
noncomputable def s_spec_TreeUnder : List (Nat × LSpec) := [(3, { chg := [(2, .int .i64)], chgL := [], keep := [0, 1] })]
def V_spec_TreeUnder (lO : Option Addr) (lL : Nat) (lC : Nat) (g : Int) (h : Int) (w : World) (R : Value → World → Prop) : Prop :=
    (∃ (xTreeOk : Bool),
    PureX [] Tryz.prog fn_spec_TreeOk #[.slice lO lL lC] w (.bool xTreeOk) ∧
    (∃ (l6Used : Bool),
    ((!xTreeOk) = false → PureX [] Tryz.prog fn_spec_l6Used #[.slice lO lL lC, .int .i64 g] w (.bool l6Used)) ∧
    (∃ (l6Used1 : Bool),
    (((!xTreeOk) || (!l6Used)) = false → PureX [] Tryz.prog fn_spec_l6Used #[.slice lO lL lC, .int .i64 h] w (.bool l6Used1)) ∧
    ((((!xTreeOk) || (!l6Used)) || (!l6Used1)) = true →
    R (.bool false) w) ∧
    ((((!xTreeOk) || (!l6Used)) || (!l6Used1)) = false →
    (∃ (xInv : List Value → Prop) (mu : List Value → Nat), xInv [.int .i64 h] ∧
    ∀ (h1 : Int), xInv [.int .i64 h1] →
    ((h1 != g) = true →
    ((h1 == 0) = true →
    R (.bool false) w) ∧
    ((h1 == 0) = false →
    Ix lO lL h1 ∧
    (∃ (parent : Int),
    CellsX [] w lO (Int.toNat h1 * 14 + 1) [.int .i64 parent] ∧
    xInv [.int .i64 parent] ∧ mu [.int .i64 parent] < mu [.int .i64 h1]))) ∧
    ((h1 != g) = false →
    R (.bool true) w))))))
theorem v_spec_TreeUnder (lO : Option Addr) (lL : Nat) (lC : Nat) (g : Int) (h : Int) (w : World) (R : Value → World → Prop) : evFn c_spec_TreeUnder s_spec_TreeUnder [.slice lO lL lC, .int .i64 g, .int .i64 h] (bodyOf Tryz.f105) Tryz.f105.results.toList w R = V_spec_TreeUnder lO lL lC g h w R := by kernel_rfl
theorem p_spec_TreeUnder (lO : Option Addr) (lL : Nat) (lC : Nat) (g : Int) (h : Int) {w : World} {bs : List Nat} {ret : Value} (hvc : ∀ wr0, ExtX bs w wr0 → V_spec_TreeUnder lO lL lC g h wr0 fun v0 _ => v0 = ret) : PureX bs Tryz.prog fn_spec_TreeUnder #[.slice lO lL lC, .int .i64 g, .int .i64 h] w ret :=
  pure_of_ev (C := c_spec_TreeUnder) (sps := s_spec_TreeUnder) (body := bodyOf Tryz.f105) (env _ _ _ _) Tryz.func105 rfl rfl (of_decide_eq_true (by kernel_rfl)) (of_decide_eq_true (by kernel_rfl)) rfl fun wr0 hx0 => by rw [v_spec_TreeUnder]; exact hvc wr0 hx0
noncomputable def c_spec_l12Inside : Cfg := { P := Tryz.prog, T := tblGet tbl, pf := pfT, ef := efT, tt := ttT, vis := [], n := 45, pm := true, wr := false }
noncomputable def s_spec_l12Inside : List (Nat × LSpec) := [(3, { chg := [(7, .int .i64), (8, .int .i64)], chgL := [], keep := [1, 2, 3] })]
def V_spec_l12Inside (w0 : Int) (w1O : Option Addr) (w1L : Nat) (w1C : Nat) (w2O : Option Addr) (w2L : Nat) (w2C : Nat) (w3O : Option Addr) (w3L : Nat) (w3C : Nat) (g : Int) (c : Int) (w : World) (R : Value → World → Prop) : Prop :=
    (∀ b, w.heap.size ≤ b →
    (∃ (xInv : List Value → Prop) (mu : List Value → Nat), xInv [.int .i64 0, .int .i64 0] ∧
    ∀ (n : Int) (t : Int), xInv [.int .i64 n, .int .i64 t] →
    ((decide (t < ((w2L : Nat) : Int))) = true →
    Ix w2O w2L t ∧
    (∃ (x0 : Int) (x1 : Int) (x2 : Int) (x3 : Int) (x4 : Int) (x5 : Int) (x6 : Int) (x7 : Int) (x8 : Int),
    CellsX [] w w2O (Int.toNat t * 9) [.int .i64 x0, .int .i64 x1, .int .i64 x2, .int .i64 x3, .int .i64 x4, .int .i64 x5, .int .i64 x6, .int .i64 x7, .int .i64 x8] ∧
    (∀ b1, w.heap.size ≤ b1 →
    (∃ (xTreeUn : Bool),
    (((x0 == 1) && (x2 == c)) = true → PureX [] Tryz.prog fn_spec_TreeUnder #[.slice w3O w3L w3C, .int .i64 g, .int .i64 x1] w (.bool xTreeUn)) ∧
    ((((x0 == 1) && (x2 == c)) && xTreeUn) = true →
    (∃ (xWeight : Int),
    PureX [] Tryz.prog fn_spec_WeightOf #[.int .i64 x3] w (.int .i64 xWeight) ∧
    InR .i64 (n + xWeight) ∧
    InR .i64 (t + 1) ∧
    xInv [.int .i64 (n + xWeight), .int .i64 (t + 1)] ∧ mu [.int .i64 (n + xWeight), .int .i64 (t + 1)] < mu [.int .i64 n, .int .i64 t])) ∧
    ((((x0 == 1) && (x2 == c)) && xTreeUn) = false →
    InR .i64 (t + 1) ∧
    xInv [.int .i64 n, .int .i64 (t + 1)] ∧ mu [.int .i64 n, .int .i64 (t + 1)] < mu [.int .i64 n, .int .i64 t]))))) ∧
    ((decide (t < ((w2L : Nat) : Int))) = false →
    R (.int .i64 n) w)))
theorem v_spec_l12Inside (w0 : Int) (w1O : Option Addr) (w1L : Nat) (w1C : Nat) (w2O : Option Addr) (w2L : Nat) (w2C : Nat) (w3O : Option Addr) (w3L : Nat) (w3C : Nat) (g : Int) (c : Int) (w : World) (R : Value → World → Prop) : evFn c_spec_l12Inside s_spec_l12Inside [.agg #[.int .i64 w0, .slice w1O w1L w1C, .slice w2O w2L w2C, .slice w3O w3L w3C], .int .i64 g, .int .i64 c] (bodyOf Tryz.f53) Tryz.f53.results.toList w R = V_spec_l12Inside w0 w1O w1L w1C w2O w2L w2C w3O w3L w3C g c w R := by kernel_rfl
theorem p_spec_l12Inside (w0 : Int) (w1O : Option Addr) (w1L : Nat) (w1C : Nat) (w2O : Option Addr) (w2L : Nat) (w2C : Nat) (w3O : Option Addr) (w3L : Nat) (w3C : Nat) (g : Int) (c : Int) {w : World} {bs : List Nat} {ret : Value} (hvc : ∀ wr0, ExtX bs w wr0 → V_spec_l12Inside w0 w1O w1L w1C w2O w2L w2C w3O w3L w3C g c wr0 fun v0 _ => v0 = ret) : PureX bs Tryz.prog fn_spec_l12Inside #[.agg #[.int .i64 w0, .slice w1O w1L w1C, .slice w2O w2L w2C, .slice w3O w3L w3C], .int .i64 g, .int .i64 c] w ret :=
  pure_of_ev (C := c_spec_l12Inside) (sps := s_spec_l12Inside) (body := bodyOf Tryz.f53) (env _ _ _ _) Tryz.func53 rfl rfl (of_decide_eq_true (by kernel_rfl)) (of_decide_eq_true (by kernel_rfl)) rfl fun wr0 hx0 => by rw [v_spec_l12Inside]; exact hvc wr0 hx0
noncomputable def c_spec_GroupInside : Cfg := { P := Tryz.prog, T := tblGet tbl, pf := pfT, ef := efT, tt := ttT, vis := [], n := 30, pm := true, wr := false }
noncomputable def s_spec_GroupInside : List (Nat × LSpec) := []
def V_spec_GroupInside (w0 : Int) (w1O : Option Addr) (w1L : Nat) (w1C : Nat) (w2O : Option Addr) (w2L : Nat) (w2C : Nat) (w3O : Option Addr) (w3L : Nat) (w3C : Nat) (group : Int) (cpu : Int) (w : World) (R : Value → World → Prop) : Prop :=
    (∀ b, w.heap.size ≤ b →
    (∃ (xWorldO : Bool),
    PureX [] Tryz.prog fn_spec_WorldOk #[.agg #[.int .i64 w0, .slice w1O w1L w1C, .slice w2O w2L w2C, .slice w3O w3L w3C]] w (.bool xWorldO) ∧
    (∃ (l6Used : Bool),
    ((!xWorldO) = false → PureX [] Tryz.prog fn_spec_l6Used #[.slice w3O w3L w3C, .int .i64 group] w (.bool l6Used)) ∧
    (((!xWorldO) || (!l6Used)) = false → InR .i64 (((w1L : Nat) : Int) - 1)) ∧
    (∃ (l1In : Bool),
    (((!xWorldO) || (!l6Used)) = false → PureX [] Tryz.prog fn_spec_l1In #[.int .i64 cpu, .int .i64 0, .int .i64 (((w1L : Nat) : Int) - 1)] w (.bool l1In)) ∧
    ((((!xWorldO) || (!l6Used)) || (!l1In)) = true →
    R (.int .i64 0) w) ∧
    ((((!xWorldO) || (!l6Used)) || (!l1In)) = false →
    (∃ (l12Ins : Int),
    PureX [] Tryz.prog fn_spec_l12Inside #[.agg #[.int .i64 w0, .slice w1O w1L w1C, .slice w2O w2L w2C, .slice w3O w3L w3C], .int .i64 group, .int .i64 cpu] w (.int .i64 l12Ins) ∧
    R (.int .i64 l12Ins) w))))))
theorem v_spec_GroupInside (w0 : Int) (w1O : Option Addr) (w1L : Nat) (w1C : Nat) (w2O : Option Addr) (w2L : Nat) (w2C : Nat) (w3O : Option Addr) (w3L : Nat) (w3C : Nat) (group : Int) (cpu : Int) (w : World) (R : Value → World → Prop) : evFn c_spec_GroupInside s_spec_GroupInside [.agg #[.int .i64 w0, .slice w1O w1L w1C, .slice w2O w2L w2C, .slice w3O w3L w3C], .int .i64 group, .int .i64 cpu] (bodyOf Tryz.f19) Tryz.f19.results.toList w R = V_spec_GroupInside w0 w1O w1L w1C w2O w2L w2C w3O w3L w3C group cpu w R := by kernel_rfl
theorem p_spec_GroupInside (w0 : Int) (w1O : Option Addr) (w1L : Nat) (w1C : Nat) (w2O : Option Addr) (w2L : Nat) (w2C : Nat) (w3O : Option Addr) (w3L : Nat) (w3C : Nat) (group : Int) (cpu : Int) {w : World} {bs : List Nat} {ret : Value} (hvc : ∀ wr0, ExtX bs w wr0 → V_spec_GroupInside w0 w1O w1L w1C w2O w2L w2C w3O w3L w3C group cpu wr0 fun v0 _ => v0 = ret) : PureX bs Tryz.prog fn_spec_GroupInside #[.agg #[.int .i64 w0, .slice w1O w1L w1C, .slice w2O w2L w2C, .slice w3O w3L w3C], .int .i64 group, .int .i64 cpu] w ret :=
  pure_of_ev (C := c_spec_GroupInside) (sps := s_spec_GroupInside) (body := bodyOf Tryz.f19) (env _ _ _ _) Tryz.func19 rfl rfl (of_decide_eq_true (by kernel_rfl)) (of_decide_eq_true (by kernel_rfl)) rfl fun wr0 hx0 => by rw [v_spec_GroupInside]; exact hvc wr0 hx0
noncomputable def c_impl_inside : Cfg := { P := Tryz.prog, T := tblGet tbl, pf := pfT, ef := efT, tt := ttT, vis := [], n := 17, pm := true, wr := false }
noncomputable def s_impl_inside : List (Nat × LSpec) := [(1, { chg := [(2, .int .i64)], chgL := [], keep := [0, 1] })]
def V_impl_inside (lO : Option Addr) (lL : Nat) (lC : Nat) (g : Int) (h : Int) (w : World) (R : Value → World → Prop) : Prop :=
    (∃ (xInv : List Value → Prop) (mu : List Value → Nat), xInv [.int .i64 h] ∧
    ∀ (h1 : Int), xInv [.int .i64 h1] →
    ((h1 != g) = true →
    ((h1 == 0) = true →
    R (.bool false) w) ∧
    ((h1 == 0) = false →
    Ix lO lL h1 ∧
    (∃ (parent : Int),
    CellsX [] w lO (Int.toNat h1 * 14 + 1) [.int .i64 parent] ∧
    xInv [.int .i64 parent] ∧ mu [.int .i64 parent] < mu [.int .i64 h1]))) ∧
    ((h1 != g) = false →
    R (.bool true) w))
theorem v_impl_inside (lO : Option Addr) (lL : Nat) (lC : Nat) (g : Int) (h : Int) (w : World) (R : Value → World → Prop) : evFn c_impl_inside s_impl_inside [.slice lO lL lC, .int .i64 g, .int .i64 h] (bodyOf Tryz.f106) Tryz.f106.results.toList w R = V_impl_inside lO lL lC g h w R := by kernel_rfl
theorem p_impl_inside (lO : Option Addr) (lL : Nat) (lC : Nat) (g : Int) (h : Int) {w : World} {bs : List Nat} {ret : Value} (hvc : ∀ wr0, ExtX bs w wr0 → V_impl_inside lO lL lC g h wr0 fun v0 _ => v0 = ret) : PureX bs Tryz.prog fn_impl_inside #[.slice lO lL lC, .int .i64 g, .int .i64 h] w ret :=
  pure_of_ev (C := c_impl_inside) (sps := s_impl_inside) (body := bodyOf Tryz.f106) (env _ _ _ _) Tryz.func106 rfl rfl (of_decide_eq_true (by kernel_rfl)) (of_decide_eq_true (by kernel_rfl)) rfl fun wr0 hx0 => by rw [v_impl_inside]; exact hvc wr0 hx0
noncomputable def c_impl_lane_inside : Cfg := { P := Tryz.prog, T := tblGet tbl, pf := pfT, ef := efT, tt := ttT, vis := [], n := 50, pm := false, wr := false }
noncomputable def s_impl_lane_inside : List (Nat × LSpec) := [(3, { chg := [(5, .slice), (14, .int .i64)], chgL := [], keep := [1, 2, 12, 13] })]
def V_impl_lane_inside (p0 : Option Addr) (p1 : Int) (g : Int) (w : World) (R : Value → World → Prop) : Prop :=
    (∀ b, w.heap.size ≤ b →
    p0.isSome = true ∧
    (∃ (tasksO : Option Addr) (tasksL : Nat) (tasksC : Nat),
    CellsX [] w p0 (0 + 2) [.slice tasksO tasksL tasksC] ∧
    (∃ (xInv : List Value → World → Prop) (mu : List Value → World → Nat), (∀ wr, ExtX [] w wr → (∀ bq ∈ ([b] : List Nat), bq < wr.heap.size) → xInv [.slice none 0 0, .int .i64 0] wr) ∧
    ∀ (weightsO : Option Addr) (weightsL : Nat) (weightsC : Nat) (x : Int) wv, (∀ bq ∈ ([b] : List Nat), bq < wv.heap.size) → xInv [.slice weightsO weightsL weightsC, .int .i64 x] wv →
    ((decide (x < ((tasksL : Nat) : Int))) = true →
    Ix tasksO tasksL x ∧
    (∃ (x0 : Int) (x1 : Int) (x2 : Int) (x3 : Int) (x4 : Int) (x5 : Int) (x6 : Int) (x7 : Int) (x8 : Int),
    CellsX [b] wv tasksO (Int.toNat x * 9) [.int .i64 x0, .int .i64 x1, .int .i64 x2, .int .i64 x3, .int .i64 x4, .int .i64 x5, .int .i64 x6, .int .i64 x7, .int .i64 x8] ∧
    (∀ b1, wv.heap.size ≤ b1 →
    (((x0 == 1) && (x2 == p1)) = true → p0.isSome = true) ∧
    (∃ (groupsO : Option Addr) (groupsL : Nat) (groupsC : Nat),
    (((x0 == 1) && (x2 == p1)) = true → CellsX [b] wv p0 (0 + 3) [.slice groupsO groupsL groupsC]) ∧
    (∃ (inside : Bool),
    (((x0 == 1) && (x2 == p1)) = true → PureX [b] Tryz.prog fn_impl_inside #[.slice groupsO groupsL groupsC, .int .i64 g, .int .i64 x1] wv (.bool inside)) ∧
    ((((x0 == 1) && (x2 == p1)) && inside) = true →
    (∃ (weight : Int),
    PureX [b] Tryz.prog fn_impl_World_weight #[.pointer p0, .int .i64 x] wv (.int .i64 weight) ∧
    (∀ b2, wv.heap.size ≤ b2 →
    (∀ wr1, ExtX [b] wv wr1 → (∀ bq ∈ ([b, b1, b2] : List Nat), bq < wr1.heap.size) → wr1.heap[b2]? = some (Obj.cells ([.int .i64 weight] : List Value).toArray ty_int (0, 0)) → 
    (∃ (apO : Option Addr) (apL : Nat) (apC : Nat),
    ∃ wv1, (builtin .append #[ty_sl_int, ty_sl_int] ty_sl_int #[false, false] #[.slice weightsO weightsL weightsC, .slice (some (Addr.mk b2 0 none)) 1 1]).run Tryz.prog wr1 = .ok (.value (.slice apO apL apC)) wv1 ∧ Kept [b, b1, b2] wr1 wv1 ∧
    InR .i64 (x + 1) ∧
    (∀ wr2, ExtX [b, b1, b2] wv1 wr2 → (∀ bq ∈ ([b, b1, b2] : List Nat), bq < wr2.heap.size) → xInv [.slice apO apL apC, .int .i64 (x + 1)] wr2 ∧ mu [.slice apO apL apC, .int .i64 (x + 1)] wr2 < mu [.slice weightsO weightsL weightsC, .int .i64 x] wv)))))) ∧
    ((((x0 == 1) && (x2 == p1)) && inside) = false →
    InR .i64 (x + 1) ∧
    (∀ wr3, ExtX [b] wv wr3 → (∀ bq ∈ ([b, b1] : List Nat), bq < wr3.heap.size) → xInv [.slice weightsO weightsL weightsC, .int .i64 (x + 1)] wr3 ∧ mu [.slice weightsO weightsL weightsC, .int .i64 (x + 1)] wr3 < mu [.slice weightsO weightsL weightsC, .int .i64 x] wv))))))) ∧
    ((decide (x < ((tasksL : Nat) : Int))) = false →
    (∃ (total : Int),
    PureX [b] Tryz.prog fn_impl_total #[.slice weightsO weightsL weightsC] wv (.int .i64 total) ∧
    (∀ wr4, ExtX [b] wv wr4 → R (.int .i64 total) wr4))))))
theorem v_impl_lane_inside (p0 : Option Addr) (p1 : Int) (g : Int) (w : World) (R : Value → World → Prop) : evFn c_impl_lane_inside s_impl_lane_inside [.agg #[.pointer p0, .int .i64 p1], .int .i64 g] (bodyOf Tryz.f55) Tryz.f55.results.toList w R = V_impl_lane_inside p0 p1 g w R := by kernel_rfl
theorem e_impl_lane_inside (p0 : Option Addr) (p1 : Int) (g : Int) {w : World} {R : Value → World → Prop} (hvc : V_impl_lane_inside p0 p1 g w R) : Calls Tryz.prog fn_impl_lane_inside #[.agg #[.pointer p0, .int .i64 p1], .int .i64 g] w fun e0 wr0 => ∃ v0, e0 = .returned v0 ∧ R v0 wr0 :=
  eff_of_ev (C := c_impl_lane_inside) (sps := s_impl_lane_inside) (body := bodyOf Tryz.f55) (env _ _ _ _) Tryz.func55 rfl rfl (of_decide_eq_true (by kernel_rfl)) (of_decide_eq_true (by kernel_rfl)) rfl (by rw [v_impl_lane_inside]; exact hvc)
noncomputable def c_impl_GroupInside : Cfg := { P := Tryz.prog, T := tblGet tbl, pf := pfT, ef := efT, tt := ttT, vis := [3], n := 26, pm := false, wr := false }
noncomputable def s_impl_GroupInside : List (Nat × LSpec) := []
def V_impl_GroupInside (w0 : Int) (w1O : Option Addr) (w1L : Nat) (w1C : Nat) (w2O : Option Addr) (w2L : Nat) (w2C : Nat) (w3O : Option Addr) (w3L : Nat) (w3C : Nat) (group : Int) (cpu : Int) (w : World) (R : Value → World → Prop) : Prop :=
    (∀ b wb, ExtX [] w wb → w.heap.size ≤ b → wb.heap[b]? = some (Obj.cells ([.int .i64 w0, .slice w1O w1L w1C, .slice w2O w2L w2C, .slice w3O w3L w3C] : List Value).toArray ty_impl_World (0, 0)) → b ∉ ([] : List Nat) →
    (∃ (x0 : Int) (x1O : Option Addr) (x1L : Nat) (x1C : Nat) (x2O : Option Addr) (x2L : Nat) (x2C : Nat) (x3O : Option Addr) (x3L : Nat) (x3C : Nat),
    CellsX [] wb (some (Addr.mk b 0 none)) 0 [.int .i64 x0, .slice x1O x1L x1C, .slice x2O x2L x2C, .slice x3O x3L x3C] ∧
    (∃ (xWorldO : Bool),
    PureX [] Tryz.prog fn_impl_WorldOk #[.agg #[.int .i64 x0, .slice x1O x1L x1C, .slice x2O x2L x2C, .slice x3O x3L x3C]] wb (.bool xWorldO) ∧
    (∃ (groupsO : Option Addr) (groupsL : Nat) (groupsC : Nat),
    ((!xWorldO) = false → CellsX [] wb (some (Addr.mk b 0 none)) (0 + 3) [.slice groupsO groupsL groupsC]) ∧
    (∃ (groupU : Bool),
    ((!xWorldO) = false → PureX [] Tryz.prog fn_impl_groupUsed #[.slice groupsO groupsL groupsC, .int .i64 group] wb (.bool groupU)) ∧
    (∃ (cpuThe : Bool),
    (((!xWorldO) || (!groupU)) = false → PureX [] Tryz.prog fn_impl_World_cpuThere #[.pointer ((some (Addr.mk b 0 none)).map (·.add 0)), .int .i64 cpu] wb (.bool cpuThe)) ∧
    ((((!xWorldO) || (!groupU)) || (!cpuThe)) = true →
    (∀ wr, ExtX [] wb wr → R (.int .i64 0) wr)) ∧
    ((((!xWorldO) || (!groupU)) || (!cpuThe)) = false →
    (∃ (lane : Option Addr) (lane1 : Int),
    PureX [] Tryz.prog fn_impl_World_lane #[.pointer ((some (Addr.mk b 0 none)).map (·.add 0)), .int .i64 cpu] wb (.agg #[.pointer lane, .int .i64 lane1]) ∧
    (∃ (inside : Int),
    PureX [] Tryz.prog fn_impl_lane_inside #[.agg #[.pointer lane, .int .i64 lane1], .int .i64 group] wb (.int .i64 inside) ∧
    (∀ wr1, ExtX [] wb wr1 → R (.int .i64 inside) wr1))))))))))
theorem v_impl_GroupInside (w0 : Int) (w1O : Option Addr) (w1L : Nat) (w1C : Nat) (w2O : Option Addr) (w2L : Nat) (w2C : Nat) (w3O : Option Addr) (w3L : Nat) (w3C : Nat) (group : Int) (cpu : Int) (w : World) (R : Value → World → Prop) : evFn c_impl_GroupInside s_impl_GroupInside [.agg #[.int .i64 w0, .slice w1O w1L w1C, .slice w2O w2L w2C, .slice w3O w3L w3C], .int .i64 group, .int .i64 cpu] (bodyOf Tryz.f20) Tryz.f20.results.toList w R = V_impl_GroupInside w0 w1O w1L w1C w2O w2L w2C w3O w3L w3C group cpu w R := by kernel_rfl
theorem e_impl_GroupInside (w0 : Int) (w1O : Option Addr) (w1L : Nat) (w1C : Nat) (w2O : Option Addr) (w2L : Nat) (w2C : Nat) (w3O : Option Addr) (w3L : Nat) (w3C : Nat) (group : Int) (cpu : Int) {w : World} {R : Value → World → Prop} (hvc : V_impl_GroupInside w0 w1O w1L w1C w2O w2L w2C w3O w3L w3C group cpu w R) : Calls Tryz.prog fn_impl_GroupInside #[.agg #[.int .i64 w0, .slice w1O w1L w1C, .slice w2O w2L w2C, .slice w3O w3L w3C], .int .i64 group, .int .i64 cpu] w fun e0 wr0 => ∃ v0, e0 = .returned v0 ∧ R v0 wr0 :=
  eff_of_ev (C := c_impl_GroupInside) (sps := s_impl_GroupInside) (body := bodyOf Tryz.f20) (env _ _ _ _) Tryz.func20 rfl rfl (of_decide_eq_true (by kernel_rfl)) (of_decide_eq_true (by kernel_rfl)) rfl (by rw [v_impl_GroupInside]; exact hvc)
noncomputable def c_laws_FnExactGroupInside : Cfg := { P := Tryz.prog, T := tblGet tbl, pf := pfT, ef := efT, tt := ttT, vis := [], n := 35, pm := false, wr := false }
noncomputable def s_laws_FnExactGroupInside : List (Nat × LSpec) := []
def V_laws_FnExactGroupInside (aW0 : Int) (aW1O : Option Addr) (aW1L : Nat) (aW1C : Nat) (aW2O : Option Addr) (aW2L : Nat) (aW2C : Nat) (aW3O : Option Addr) (aW3L : Nat) (aW3C : Nat) (aGroup : Int) (aCpu : Int) (w : World) (R : Value → World → Prop) : Prop :=
    (∀ b, w.heap.size ≤ b →
    (∃ (szWorl : Int),
    PureX [] Tryz.prog fn_laws_szWorld #[.agg #[.int .i64 aW0, .slice aW1O aW1L aW1C, .slice aW2O aW2L aW2C, .slice aW3O aW3L aW3C], .int .i64 1048576] w (.int .i64 szWorl) ∧
    ((decide (szWorl < 0)) = true →
    (∀ wr, ExtX [] w wr → R (.bool true) wr)) ∧
    ((decide (szWorl < 0)) = false →
    (∀ wr1, ExtX [] w wr1 → (∀ bq ∈ ([b] : List Nat), bq < wr1.heap.size) → 
    Calls Tryz.prog fn_laws_toWorld #[.agg #[.int .i64 aW0, .slice aW1O aW1L aW1C, .slice aW2O aW2L aW2C, .slice aW3O aW3L aW3C]] wr1 fun e wv =>
    (∃ (toWorl : Int) (toWorl1O : Option Addr) (toWorl1L : Nat) (toWorl1C : Nat) (toWorl2O : Option Addr) (toWorl2L : Nat) (toWorl2C : Nat) (toWorl3O : Option Addr) (toWorl3L : Nat) (toWorl3C : Nat),
    e = .returned (.agg #[.int .i64 toWorl, .slice toWorl1O toWorl1L toWorl1C, .slice toWorl2O toWorl2L toWorl2C, .slice toWorl3O toWorl3L toWorl3C]) ∧ Kept [b] wr1 wv ∧
    (∃ (xGroupI : Int),
    PureX [b] Tryz.prog fn_spec_GroupInside #[.agg #[.int .i64 toWorl, .slice toWorl1O toWorl1L toWorl1C, .slice toWorl2O toWorl2L toWorl2C, .slice toWorl3O toWorl3L toWorl3C], .int .i64 aGroup, .int .i64 aCpu] wv (.int .i64 xGroupI) ∧
    (∀ wr2, ExtX [b] wv wr2 → (∀ bq ∈ ([b] : List Nat), bq < wr2.heap.size) → 
    Calls Tryz.prog fn_laws_toWorld #[.agg #[.int .i64 aW0, .slice aW1O aW1L aW1C, .slice aW2O aW2L aW2C, .slice aW3O aW3L aW3C]] wr2 fun e1 wv1 =>
    (∃ (toWorl4 : Int) (toWorl5O : Option Addr) (toWorl5L : Nat) (toWorl5C : Nat) (toWorl6O : Option Addr) (toWorl6L : Nat) (toWorl6C : Nat) (toWorl7O : Option Addr) (toWorl7L : Nat) (toWorl7C : Nat),
    e1 = .returned (.agg #[.int .i64 toWorl4, .slice toWorl5O toWorl5L toWorl5C, .slice toWorl6O toWorl6L toWorl6C, .slice toWorl7O toWorl7L toWorl7C]) ∧ Kept [b] wr2 wv1 ∧
    (∀ b1, wv1.heap.size ≤ b1 →
    (∃ (xGroupI1 : Int),
    PureX [b] Tryz.prog fn_impl_GroupInside #[.agg #[.int .i64 toWorl4, .slice toWorl5O toWorl5L toWorl5C, .slice toWorl6O toWorl6L toWorl6C, .slice toWorl7O toWorl7L toWorl7C], .int .i64 aGroup, .int .i64 aCpu] wv1 (.int .i64 xGroupI1) ∧
    ((xGroupI1 != xGroupI) = true →
    (∀ wr3, ExtX [b] wv1 wr3 → R (.bool false) wr3)) ∧
    ((xGroupI1 != xGroupI) = false →
    (∀ wr4, ExtX [b] wv1 wr4 → (∀ bq ∈ ([b, b1] : List Nat), bq < wr4.heap.size) → 
    Calls Tryz.prog fn_laws_toWorld #[.agg #[.int .i64 aW0, .slice aW1O aW1L aW1C, .slice aW2O aW2L aW2C, .slice aW3O aW3L aW3C]] wr4 fun e2 wv2 =>
    (∃ (toWorl8 : Int) (toWorl9O : Option Addr) (toWorl9L : Nat) (toWorl9C : Nat) (toWorl10O : Option Addr) (toWorl10L : Nat) (toWorl10C : Nat) (toWorl11O : Option Addr) (toWorl11L : Nat) (toWorl11C : Nat),
    e2 = .returned (.agg #[.int .i64 toWorl8, .slice toWorl9O toWorl9L toWorl9C, .slice toWorl10O toWorl10L toWorl10C, .slice toWorl11O toWorl11L toWorl11C]) ∧ Kept [b, b1] wr4 wv2 ∧
    (some (ty_impl_World, ([.int .i64 toWorl4, .slice toWorl5O toWorl5L toWorl5C, .slice toWorl6O toWorl6L toWorl6C, .slice toWorl7O toWorl7L toWorl7C] : List Value)) = some (ty_impl_World, ([.int .i64 toWorl4, .slice toWorl5O toWorl5L toWorl5C, .slice toWorl6O toWorl6L toWorl6C, .slice toWorl7O toWorl7L toWorl7C] : List Value))) ∧
    (∃ (eqWorl : Bool),
    PureX [b, b1] Tryz.prog fn_laws_eqWorld #[.agg #[.int .i64 toWorl4, .slice toWorl5O toWorl5L toWorl5C, .slice toWorl6O toWorl6L toWorl6C, .slice toWorl7O toWorl7L toWorl7C], .agg #[.int .i64 toWorl8, .slice toWorl9O toWorl9L toWorl9C, .slice toWorl10O toWorl10L toWorl10C, .slice toWorl11O toWorl11L toWorl11C]] wv2 (.bool eqWorl) ∧
    ((!eqWorl) = true →
    (∀ wr5, ExtX [b, b1] wv2 wr5 → R (.bool false) wr5)) ∧
    ((!eqWorl) = false →
    (∀ wr6, ExtX [b, b1] wv2 wr6 → R (.bool true) wr6))))))))))))))))
theorem v_laws_FnExactGroupInside (aW0 : Int) (aW1O : Option Addr) (aW1L : Nat) (aW1C : Nat) (aW2O : Option Addr) (aW2L : Nat) (aW2C : Nat) (aW3O : Option Addr) (aW3L : Nat) (aW3C : Nat) (aGroup : Int) (aCpu : Int) (w : World) (R : Value → World → Prop) : evFn c_laws_FnExactGroupInside s_laws_FnExactGroupInside [.agg #[.int .i64 aW0, .slice aW1O aW1L aW1C, .slice aW2O aW2L aW2C, .slice aW3O aW3L aW3C], .int .i64 aGroup, .int .i64 aCpu] (bodyOf Tryz.f5) Tryz.f5.results.toList w R = V_laws_FnExactGroupInside aW0 aW1O aW1L aW1C aW2O aW2L aW2C aW3O aW3L aW3C aGroup aCpu w R := by kernel_rfl
theorem e_laws_FnExactGroupInside (aW0 : Int) (aW1O : Option Addr) (aW1L : Nat) (aW1C : Nat) (aW2O : Option Addr) (aW2L : Nat) (aW2C : Nat) (aW3O : Option Addr) (aW3L : Nat) (aW3C : Nat) (aGroup : Int) (aCpu : Int) {w : World} {R : Value → World → Prop} (hvc : V_laws_FnExactGroupInside aW0 aW1O aW1L aW1C aW2O aW2L aW2C aW3O aW3L aW3C aGroup aCpu w R) : Calls Tryz.prog fn_laws_FnExactGroupInside #[.agg #[.int .i64 aW0, .slice aW1O aW1L aW1C, .slice aW2O aW2L aW2C, .slice aW3O aW3L aW3C], .int .i64 aGroup, .int .i64 aCpu] w fun e0 wr0 => ∃ v0, e0 = .returned v0 ∧ R v0 wr0 :=
  eff_of_ev (C := c_laws_FnExactGroupInside) (sps := s_laws_FnExactGroupInside) (body := bodyOf Tryz.f5) (env _ _ _ _) Tryz.func5 rfl rfl (of_decide_eq_true (by kernel_rfl)) (of_decide_eq_true (by kernel_rfl)) rfl (by rw [v_laws_FnExactGroupInside]; exact hvc)
noncomputable def c_spec_l1Max : Cfg := { P := Tryz.prog, T := tblGet tbl, pf := pfT, ef := efT, tt := ttT, vis := [], n := 10, pm := true, wr := false }
noncomputable def s_spec_l1Max : List (Nat × LSpec) := []
def V_spec_l1Max (a : Int) (b : Int) (w : World) (R : Value → World → Prop) : Prop :=
    ((decide (a > b)) = true →
    R (.int .i64 a) w) ∧
    ((decide (a > b)) = false →
    R (.int .i64 b) w)
theorem v_spec_l1Max (a : Int) (b : Int) (w : World) (R : Value → World → Prop) : evFn c_spec_l1Max s_spec_l1Max [.int .i64 a, .int .i64 b] (bodyOf Tryz.f107) Tryz.f107.results.toList w R = V_spec_l1Max a b w R := by kernel_rfl
theorem p_spec_l1Max (a : Int) (b : Int) {w : World} {bs : List Nat} {ret : Value} (hvc : ∀ wr0, ExtX bs w wr0 → V_spec_l1Max a b wr0 fun v0 _ => v0 = ret) : PureX bs Tryz.prog fn_spec_l1Max #[.int .i64 a, .int .i64 b] w ret :=
  pure_of_ev (C := c_spec_l1Max) (sps := s_spec_l1Max) (body := bodyOf Tryz.f107) (env _ _ _ _) Tryz.func107 rfl rfl (of_decide_eq_true (by kernel_rfl)) (of_decide_eq_true (by kernel_rfl)) rfl fun wr0 hx0 => by rw [v_spec_l1Max]; exact hvc wr0 hx0
noncomputable def c_spec_l12Share : Cfg := { P := Tryz.prog, T := tblGet tbl, pf := pfT, ef := efT, tt := ttT, vis := [], n := 44, pm := true, wr := false }
noncomputable def s_spec_l12Share : List (Nat × LSpec) := [(3, { chg := [(7, .int .i64), (8, .int .i64)], chgL := [], keep := [1, 2, 3] })]
def V_spec_l12Share (w0 : Int) (w1O : Option Addr) (w1L : Nat) (w1C : Nat) (w2O : Option Addr) (w2L : Nat) (w2C : Nat) (w3O : Option Addr) (w3L : Nat) (w3C : Nat) (g : Int) (c : Int) (w : World) (R : Value → World → Prop) : Prop :=
    (∀ b, w.heap.size ≤ b →
    (∃ (xInv : List Value → Prop) (mu : List Value → Nat), xInv [.int .i64 0, .int .i64 0] ∧
    ∀ (all : Int) (b1 : Int), xInv [.int .i64 all, .int .i64 b1] →
    ((decide (b1 < ((w1L : Nat) : Int))) = true →
    (∃ (l12Ins : Int),
    PureX [] Tryz.prog fn_spec_l12Inside #[.agg #[.int .i64 w0, .slice w1O w1L w1C, .slice w2O w2L w2C, .slice w3O w3L w3C], .int .i64 g, .int .i64 b1] w (.int .i64 l12Ins) ∧
    InR .i64 (all + l12Ins) ∧
    InR .i64 (b1 + 1) ∧
    xInv [.int .i64 (all + l12Ins), .int .i64 (b1 + 1)] ∧ mu [.int .i64 (all + l12Ins), .int .i64 (b1 + 1)] < mu [.int .i64 all, .int .i64 b1])) ∧
    ((decide (b1 < ((w1L : Nat) : Int))) = false →
    ((all == 0) = true →
    Ix w3O w3L g ∧
    (∃ (weight : Int),
    CellsX [] w w3O (Int.toNat g * 14 + 3) [.int .i64 weight] ∧
    R (.int .i64 weight) w)) ∧
    ((all == 0) = false →
    Ix w3O w3L g ∧
    (∃ (weight1 : Int),
    CellsX [] w w3O (Int.toNat g * 14 + 3) [.int .i64 weight1] ∧
    (∃ (l12Ins1 : Int),
    PureX [] Tryz.prog fn_spec_l12Inside #[.agg #[.int .i64 w0, .slice w1O w1L w1C, .slice w2O w2L w2C, .slice w3O w3L w3C], .int .i64 g, .int .i64 c] w (.int .i64 l12Ins1) ∧
    InR .i64 (weight1 * l12Ins1) ∧
    (all ≠ 0 ∧ InR .i64 (Int.tdiv (weight1 * l12Ins1) all)) ∧
    (∃ (l1Max : Int),
    PureX [] Tryz.prog fn_spec_l1Max #[.int .i64 1, .int .i64 (Int.tdiv (weight1 * l12Ins1) all)] w (.int .i64 l1Max) ∧
    R (.int .i64 l1Max) w)))))))
theorem v_spec_l12Share (w0 : Int) (w1O : Option Addr) (w1L : Nat) (w1C : Nat) (w2O : Option Addr) (w2L : Nat) (w2C : Nat) (w3O : Option Addr) (w3L : Nat) (w3C : Nat) (g : Int) (c : Int) (w : World) (R : Value → World → Prop) : evFn c_spec_l12Share s_spec_l12Share [.agg #[.int .i64 w0, .slice w1O w1L w1C, .slice w2O w2L w2C, .slice w3O w3L w3C], .int .i64 g, .int .i64 c] (bodyOf Tryz.f56) Tryz.f56.results.toList w R = V_spec_l12Share w0 w1O w1L w1C w2O w2L w2C w3O w3L w3C g c w R := by kernel_rfl
theorem p_spec_l12Share (w0 : Int) (w1O : Option Addr) (w1L : Nat) (w1C : Nat) (w2O : Option Addr) (w2L : Nat) (w2C : Nat) (w3O : Option Addr) (w3L : Nat) (w3C : Nat) (g : Int) (c : Int) {w : World} {bs : List Nat} {ret : Value} (hvc : ∀ wr0, ExtX bs w wr0 → V_spec_l12Share w0 w1O w1L w1C w2O w2L w2C w3O w3L w3C g c wr0 fun v0 _ => v0 = ret) : PureX bs Tryz.prog fn_spec_l12Share #[.agg #[.int .i64 w0, .slice w1O w1L w1C, .slice w2O w2L w2C, .slice w3O w3L w3C], .int .i64 g, .int .i64 c] w ret :=
  pure_of_ev (C := c_spec_l12Share) (sps := s_spec_l12Share) (body := bodyOf Tryz.f56) (env _ _ _ _) Tryz.func56 rfl rfl (of_decide_eq_true (by kernel_rfl)) (of_decide_eq_true (by kernel_rfl)) rfl fun wr0 hx0 => by rw [v_spec_l12Share]; exact hvc wr0 hx0
noncomputable def c_spec_GroupShare : Cfg := { P := Tryz.prog, T := tblGet tbl, pf := pfT, ef := efT, tt := ttT, vis := [], n := 34, pm := true, wr := false }
noncomputable def s_spec_GroupShare : List (Nat × LSpec) := []
def V_spec_GroupShare (w0 : Int) (w1O : Option Addr) (w1L : Nat) (w1C : Nat) (w2O : Option Addr) (w2L : Nat) (w2C : Nat) (w3O : Option Addr) (w3L : Nat) (w3C : Nat) (group : Int) (cpu : Int) (w : World) (R : Value → World → Prop) : Prop :=
    (∀ b, w.heap.size ≤ b →
    (∃ (xWorldO : Bool),
    PureX [] Tryz.prog fn_spec_WorldOk #[.agg #[.int .i64 w0, .slice w1O w1L w1C, .slice w2O w2L w2C, .slice w3O w3L w3C]] w (.bool xWorldO) ∧
    (∃ (l6Used : Bool),
    ((!xWorldO) = false → PureX [] Tryz.prog fn_spec_l6Used #[.slice w3O w3L w3C, .int .i64 group] w (.bool l6Used)) ∧
    ((((!xWorldO) || (!l6Used)) || (group == 0)) = false → InR .i64 (((w1L : Nat) : Int) - 1)) ∧
    (∃ (l1In : Bool),
    ((((!xWorldO) || (!l6Used)) || (group == 0)) = false → PureX [] Tryz.prog fn_spec_l1In #[.int .i64 cpu, .int .i64 0, .int .i64 (((w1L : Nat) : Int) - 1)] w (.bool l1In)) ∧
    (((((!xWorldO) || (!l6Used)) || (group == 0)) || (!l1In)) = true →
    R (.int .i64 0) w) ∧
    (((((!xWorldO) || (!l6Used)) || (group == 0)) || (!l1In)) = false →
    (∃ (l12Sha : Int),
    PureX [] Tryz.prog fn_spec_l12Share #[.agg #[.int .i64 w0, .slice w1O w1L w1C, .slice w2O w2L w2C, .slice w3O w3L w3C], .int .i64 group, .int .i64 cpu] w (.int .i64 l12Sha) ∧
    R (.int .i64 l12Sha) w))))))
theorem v_spec_GroupShare (w0 : Int) (w1O : Option Addr) (w1L : Nat) (w1C : Nat) (w2O : Option Addr) (w2L : Nat) (w2C : Nat) (w3O : Option Addr) (w3L : Nat) (w3C : Nat) (group : Int) (cpu : Int) (w : World) (R : Value → World → Prop) : evFn c_spec_GroupShare s_spec_GroupShare [.agg #[.int .i64 w0, .slice w1O w1L w1C, .slice w2O w2L w2C, .slice w3O w3L w3C], .int .i64 group, .int .i64 cpu] (bodyOf Tryz.f21) Tryz.f21.results.toList w R = V_spec_GroupShare w0 w1O w1L w1C w2O w2L w2C w3O w3L w3C group cpu w R := by kernel_rfl
theorem p_spec_GroupShare (w0 : Int) (w1O : Option Addr) (w1L : Nat) (w1C : Nat) (w2O : Option Addr) (w2L : Nat) (w2C : Nat) (w3O : Option Addr) (w3L : Nat) (w3C : Nat) (group : Int) (cpu : Int) {w : World} {bs : List Nat} {ret : Value} (hvc : ∀ wr0, ExtX bs w wr0 → V_spec_GroupShare w0 w1O w1L w1C w2O w2L w2C w3O w3L w3C group cpu wr0 fun v0 _ => v0 = ret) : PureX bs Tryz.prog fn_spec_GroupShare #[.agg #[.int .i64 w0, .slice w1O w1L w1C, .slice w2O w2L w2C, .slice w3O w3L w3C], .int .i64 group, .int .i64 cpu] w ret :=
  pure_of_ev (C := c_spec_GroupShare) (sps := s_spec_GroupShare) (body := bodyOf Tryz.f21) (env _ _ _ _) Tryz.func21 rfl rfl (of_decide_eq_true (by kernel_rfl)) (of_decide_eq_true (by kernel_rfl)) rfl fun wr0 hx0 => by rw [v_spec_GroupShare]; exact hvc wr0 hx0
noncomputable def c_impl_lane_share : Cfg := { P := Tryz.prog, T := tblGet tbl, pf := pfT, ef := efT, tt := ttT, vis := [], n := 52, pm := false, wr := false }
noncomputable def s_impl_lane_share : List (Nat × LSpec) := [(3, { chg := [(5, .slice), (15, .int .i64)], chgL := [], keep := [1, 2, 14] })]
def V_impl_lane_share (p0 : Option Addr) (p1 : Int) (g : Int) (w : World) (R : Value → World → Prop) : Prop :=
    (∀ b, w.heap.size ≤ b →
    p0.isSome = true ∧
    (∃ (cpusO : Option Addr) (cpusL : Nat) (cpusC : Nat),
    CellsX [] w p0 (0 + 1) [.slice cpusO cpusL cpusC] ∧
    (∃ (xInv : List Value → World → Prop) (mu : List Value → World → Nat), (∀ wr, ExtX [] w wr → (∀ bq ∈ ([b] : List Nat), bq < wr.heap.size) → xInv [.slice none 0 0, .int .i64 0] wr) ∧
    ∀ (partsO : Option Addr) (partsL : Nat) (partsC : Nat) (x : Int) wv, (∀ bq ∈ ([b] : List Nat), bq < wv.heap.size) → xInv [.slice partsO partsL partsC, .int .i64 x] wv →
    ((decide (x < ((cpusL : Nat) : Int))) = true →
    (∃ (lane : Option Addr) (lane1 : Int),
    PureX [b] Tryz.prog fn_impl_World_lane #[.pointer p0, .int .i64 x] wv (.agg #[.pointer lane, .int .i64 lane1]) ∧
    (∃ (inside : Int),
    PureX [b] Tryz.prog fn_impl_lane_inside #[.agg #[.pointer lane, .int .i64 lane1], .int .i64 g] wv (.int .i64 inside) ∧
    (∀ b1, wv.heap.size ≤ b1 →
    (∀ wr1, ExtX [b] wv wr1 → (∀ bq ∈ ([b, b1] : List Nat), bq < wr1.heap.size) → wr1.heap[b1]? = some (Obj.cells ([.int .i64 inside] : List Value).toArray ty_int (0, 0)) → 
    (∃ (apO : Option Addr) (apL : Nat) (apC : Nat),
    ∃ wv1, (builtin .append #[ty_sl_int, ty_sl_int] ty_sl_int #[false, false] #[.slice partsO partsL partsC, .slice (some (Addr.mk b1 0 none)) 1 1]).run Tryz.prog wr1 = .ok (.value (.slice apO apL apC)) wv1 ∧ Kept [b, b1] wr1 wv1 ∧
    InR .i64 (x + 1) ∧
    (∀ wr2, ExtX [b, b1] wv1 wr2 → (∀ bq ∈ ([b, b1] : List Nat), bq < wr2.heap.size) → xInv [.slice apO apL apC, .int .i64 (x + 1)] wr2 ∧ mu [.slice apO apL apC, .int .i64 (x + 1)] wr2 < mu [.slice partsO partsL partsC, .int .i64 x] wv))))))) ∧
    ((decide (x < ((cpusL : Nat) : Int))) = false →
    p0.isSome = true ∧
    (∃ (groupsO : Option Addr) (groupsL : Nat) (groupsC : Nat),
    CellsX [b] wv p0 (0 + 3) [.slice groupsO groupsL groupsC] ∧
    Ix groupsO groupsL g ∧
    (∃ (weight : Int),
    CellsX [b] wv groupsO (Int.toNat g * 14 + 3) [.int .i64 weight] ∧
    (∃ (total : Int),
    PureX [b] Tryz.prog fn_impl_total #[.slice partsO partsL partsC] wv (.int .i64 total) ∧
    ((total == 0) = true →
    (∀ wr3, ExtX [b] wv wr3 → R (.int .i64 weight) wr3)) ∧
    ((total == 0) = false →
    Ix partsO partsL p1 ∧
    (∃ (x1 : Int),
    CellsX [b] wv partsO (Int.toNat p1 * 1) [.int .i64 x1] ∧
    InR .i64 (weight * x1) ∧
    (total ≠ 0 ∧ InR .i64 (Int.tdiv (weight * x1) total)) ∧
    (∀ wr4, ExtX [b] wv wr4 → R (.int .i64 (if (Int.tdiv (weight * x1) total) > 1 then (Int.tdiv (weight * x1) total) else 1)) wr4))))))))))
theorem v_impl_lane_share (p0 : Option Addr) (p1 : Int) (g : Int) (w : World) (R : Value → World → Prop) : evFn c_impl_lane_share s_impl_lane_share [.agg #[.pointer p0, .int .i64 p1], .int .i64 g] (bodyOf Tryz.f57) Tryz.f57.results.toList w R = V_impl_lane_share p0 p1 g w R := by kernel_rfl
theorem e_impl_lane_share (p0 : Option Addr) (p1 : Int) (g : Int) {w : World} {R : Value → World → Prop} (hvc : V_impl_lane_share p0 p1 g w R) : Calls Tryz.prog fn_impl_lane_share #[.agg #[.pointer p0, .int .i64 p1], .int .i64 g] w fun e0 wr0 => ∃ v0, e0 = .returned v0 ∧ R v0 wr0 :=
  eff_of_ev (C := c_impl_lane_share) (sps := s_impl_lane_share) (body := bodyOf Tryz.f57) (env _ _ _ _) Tryz.func57 rfl rfl (of_decide_eq_true (by kernel_rfl)) (of_decide_eq_true (by kernel_rfl)) rfl (by rw [v_impl_lane_share]; exact hvc)
noncomputable def c_impl_GroupShare : Cfg := { P := Tryz.prog, T := tblGet tbl, pf := pfT, ef := efT, tt := ttT, vis := [3], n := 30, pm := false, wr := false }
noncomputable def s_impl_GroupShare : List (Nat × LSpec) := []
def V_impl_GroupShare (w0 : Int) (w1O : Option Addr) (w1L : Nat) (w1C : Nat) (w2O : Option Addr) (w2L : Nat) (w2C : Nat) (w3O : Option Addr) (w3L : Nat) (w3C : Nat) (group : Int) (cpu : Int) (w : World) (R : Value → World → Prop) : Prop :=
    (∀ b wb, ExtX [] w wb → w.heap.size ≤ b → wb.heap[b]? = some (Obj.cells ([.int .i64 w0, .slice w1O w1L w1C, .slice w2O w2L w2C, .slice w3O w3L w3C] : List Value).toArray ty_impl_World (0, 0)) → b ∉ ([] : List Nat) →
    (∃ (x0 : Int) (x1O : Option Addr) (x1L : Nat) (x1C : Nat) (x2O : Option Addr) (x2L : Nat) (x2C : Nat) (x3O : Option Addr) (x3L : Nat) (x3C : Nat),
    ((group == 0) = false → CellsX [] wb (some (Addr.mk b 0 none)) 0 [.int .i64 x0, .slice x1O x1L x1C, .slice x2O x2L x2C, .slice x3O x3L x3C]) ∧
    (∃ (xWorldO : Bool),
    ((group == 0) = false → PureX [] Tryz.prog fn_impl_WorldOk #[.agg #[.int .i64 x0, .slice x1O x1L x1C, .slice x2O x2L x2C, .slice x3O x3L x3C]] wb (.bool xWorldO)) ∧
    (∃ (groupsO : Option Addr) (groupsL : Nat) (groupsC : Nat),
    (((group == 0) || (!xWorldO)) = false → CellsX [] wb (some (Addr.mk b 0 none)) (0 + 3) [.slice groupsO groupsL groupsC]) ∧
    (∃ (groupU : Bool),
    (((group == 0) || (!xWorldO)) = false → PureX [] Tryz.prog fn_impl_groupUsed #[.slice groupsO groupsL groupsC, .int .i64 group] wb (.bool groupU)) ∧
    (∃ (cpuThe : Bool),
    ((((group == 0) || (!xWorldO)) || (!groupU)) = false → PureX [] Tryz.prog fn_impl_World_cpuThere #[.pointer ((some (Addr.mk b 0 none)).map (·.add 0)), .int .i64 cpu] wb (.bool cpuThe)) ∧
    (((((group == 0) || (!xWorldO)) || (!groupU)) || (!cpuThe)) = true →
    (∀ wr, ExtX [] wb wr → R (.int .i64 0) wr)) ∧
    (((((group == 0) || (!xWorldO)) || (!groupU)) || (!cpuThe)) = false →
    (∃ (lane : Option Addr) (lane1 : Int),
    PureX [] Tryz.prog fn_impl_World_lane #[.pointer ((some (Addr.mk b 0 none)).map (·.add 0)), .int .i64 cpu] wb (.agg #[.pointer lane, .int .i64 lane1]) ∧
    (∃ (share : Int),
    PureX [] Tryz.prog fn_impl_lane_share #[.agg #[.pointer lane, .int .i64 lane1], .int .i64 group] wb (.int .i64 share) ∧
    (∀ wr1, ExtX [] wb wr1 → R (.int .i64 share) wr1))))))))))
theorem v_impl_GroupShare (w0 : Int) (w1O : Option Addr) (w1L : Nat) (w1C : Nat) (w2O : Option Addr) (w2L : Nat) (w2C : Nat) (w3O : Option Addr) (w3L : Nat) (w3C : Nat) (group : Int) (cpu : Int) (w : World) (R : Value → World → Prop) : evFn c_impl_GroupShare s_impl_GroupShare [.agg #[.int .i64 w0, .slice w1O w1L w1C, .slice w2O w2L w2C, .slice w3O w3L w3C], .int .i64 group, .int .i64 cpu] (bodyOf Tryz.f22) Tryz.f22.results.toList w R = V_impl_GroupShare w0 w1O w1L w1C w2O w2L w2C w3O w3L w3C group cpu w R := by kernel_rfl
theorem e_impl_GroupShare (w0 : Int) (w1O : Option Addr) (w1L : Nat) (w1C : Nat) (w2O : Option Addr) (w2L : Nat) (w2C : Nat) (w3O : Option Addr) (w3L : Nat) (w3C : Nat) (group : Int) (cpu : Int) {w : World} {R : Value → World → Prop} (hvc : V_impl_GroupShare w0 w1O w1L w1C w2O w2L w2C w3O w3L w3C group cpu w R) : Calls Tryz.prog fn_impl_GroupShare #[.agg #[.int .i64 w0, .slice w1O w1L w1C, .slice w2O w2L w2C, .slice w3O w3L w3C], .int .i64 group, .int .i64 cpu] w fun e0 wr0 => ∃ v0, e0 = .returned v0 ∧ R v0 wr0 :=
  eff_of_ev (C := c_impl_GroupShare) (sps := s_impl_GroupShare) (body := bodyOf Tryz.f22) (env _ _ _ _) Tryz.func22 rfl rfl (of_decide_eq_true (by kernel_rfl)) (of_decide_eq_true (by kernel_rfl)) rfl (by rw [v_impl_GroupShare]; exact hvc)
noncomputable def c_laws_FnExactGroupShare : Cfg := { P := Tryz.prog, T := tblGet tbl, pf := pfT, ef := efT, tt := ttT, vis := [], n := 35, pm := false, wr := false }
noncomputable def s_laws_FnExactGroupShare : List (Nat × LSpec) := []
def V_laws_FnExactGroupShare (aW0 : Int) (aW1O : Option Addr) (aW1L : Nat) (aW1C : Nat) (aW2O : Option Addr) (aW2L : Nat) (aW2C : Nat) (aW3O : Option Addr) (aW3L : Nat) (aW3C : Nat) (aGroup : Int) (aCpu : Int) (w : World) (R : Value → World → Prop) : Prop :=
    (∀ b, w.heap.size ≤ b →
    (∃ (szWorl : Int),
    PureX [] Tryz.prog fn_laws_szWorld #[.agg #[.int .i64 aW0, .slice aW1O aW1L aW1C, .slice aW2O aW2L aW2C, .slice aW3O aW3L aW3C], .int .i64 1048576] w (.int .i64 szWorl) ∧
    ((decide (szWorl < 0)) = true →
    (∀ wr, ExtX [] w wr → R (.bool true) wr)) ∧
    ((decide (szWorl < 0)) = false →
    (∀ wr1, ExtX [] w wr1 → (∀ bq ∈ ([b] : List Nat), bq < wr1.heap.size) → 
    Calls Tryz.prog fn_laws_toWorld #[.agg #[.int .i64 aW0, .slice aW1O aW1L aW1C, .slice aW2O aW2L aW2C, .slice aW3O aW3L aW3C]] wr1 fun e wv =>
    (∃ (toWorl : Int) (toWorl1O : Option Addr) (toWorl1L : Nat) (toWorl1C : Nat) (toWorl2O : Option Addr) (toWorl2L : Nat) (toWorl2C : Nat) (toWorl3O : Option Addr) (toWorl3L : Nat) (toWorl3C : Nat),
    e = .returned (.agg #[.int .i64 toWorl, .slice toWorl1O toWorl1L toWorl1C, .slice toWorl2O toWorl2L toWorl2C, .slice toWorl3O toWorl3L toWorl3C]) ∧ Kept [b] wr1 wv ∧
    (∃ (xGroupS : Int),
    PureX [b] Tryz.prog fn_spec_GroupShare #[.agg #[.int .i64 toWorl, .slice toWorl1O toWorl1L toWorl1C, .slice toWorl2O toWorl2L toWorl2C, .slice toWorl3O toWorl3L toWorl3C], .int .i64 aGroup, .int .i64 aCpu] wv (.int .i64 xGroupS) ∧
    (∀ wr2, ExtX [b] wv wr2 → (∀ bq ∈ ([b] : List Nat), bq < wr2.heap.size) → 
    Calls Tryz.prog fn_laws_toWorld #[.agg #[.int .i64 aW0, .slice aW1O aW1L aW1C, .slice aW2O aW2L aW2C, .slice aW3O aW3L aW3C]] wr2 fun e1 wv1 =>
    (∃ (toWorl4 : Int) (toWorl5O : Option Addr) (toWorl5L : Nat) (toWorl5C : Nat) (toWorl6O : Option Addr) (toWorl6L : Nat) (toWorl6C : Nat) (toWorl7O : Option Addr) (toWorl7L : Nat) (toWorl7C : Nat),
    e1 = .returned (.agg #[.int .i64 toWorl4, .slice toWorl5O toWorl5L toWorl5C, .slice toWorl6O toWorl6L toWorl6C, .slice toWorl7O toWorl7L toWorl7C]) ∧ Kept [b] wr2 wv1 ∧
    (∀ b1, wv1.heap.size ≤ b1 →
    (∃ (xGroupS1 : Int),
    PureX [b] Tryz.prog fn_impl_GroupShare #[.agg #[.int .i64 toWorl4, .slice toWorl5O toWorl5L toWorl5C, .slice toWorl6O toWorl6L toWorl6C, .slice toWorl7O toWorl7L toWorl7C], .int .i64 aGroup, .int .i64 aCpu] wv1 (.int .i64 xGroupS1) ∧
    ((xGroupS1 != xGroupS) = true →
    (∀ wr3, ExtX [b] wv1 wr3 → R (.bool false) wr3)) ∧
    ((xGroupS1 != xGroupS) = false →
    (∀ wr4, ExtX [b] wv1 wr4 → (∀ bq ∈ ([b, b1] : List Nat), bq < wr4.heap.size) → 
    Calls Tryz.prog fn_laws_toWorld #[.agg #[.int .i64 aW0, .slice aW1O aW1L aW1C, .slice aW2O aW2L aW2C, .slice aW3O aW3L aW3C]] wr4 fun e2 wv2 =>
    (∃ (toWorl8 : Int) (toWorl9O : Option Addr) (toWorl9L : Nat) (toWorl9C : Nat) (toWorl10O : Option Addr) (toWorl10L : Nat) (toWorl10C : Nat) (toWorl11O : Option Addr) (toWorl11L : Nat) (toWorl11C : Nat),
    e2 = .returned (.agg #[.int .i64 toWorl8, .slice toWorl9O toWorl9L toWorl9C, .slice toWorl10O toWorl10L toWorl10C, .slice toWorl11O toWorl11L toWorl11C]) ∧ Kept [b, b1] wr4 wv2 ∧
    (some (ty_impl_World, ([.int .i64 toWorl4, .slice toWorl5O toWorl5L toWorl5C, .slice toWorl6O toWorl6L toWorl6C, .slice toWorl7O toWorl7L toWorl7C] : List Value)) = some (ty_impl_World, ([.int .i64 toWorl4, .slice toWorl5O toWorl5L toWorl5C, .slice toWorl6O toWorl6L toWorl6C, .slice toWorl7O toWorl7L toWorl7C] : List Value))) ∧
    (∃ (eqWorl : Bool),
    PureX [b, b1] Tryz.prog fn_laws_eqWorld #[.agg #[.int .i64 toWorl4, .slice toWorl5O toWorl5L toWorl5C, .slice toWorl6O toWorl6L toWorl6C, .slice toWorl7O toWorl7L toWorl7C], .agg #[.int .i64 toWorl8, .slice toWorl9O toWorl9L toWorl9C, .slice toWorl10O toWorl10L toWorl10C, .slice toWorl11O toWorl11L toWorl11C]] wv2 (.bool eqWorl) ∧
    ((!eqWorl) = true →
    (∀ wr5, ExtX [b, b1] wv2 wr5 → R (.bool false) wr5)) ∧
    ((!eqWorl) = false →
    (∀ wr6, ExtX [b, b1] wv2 wr6 → R (.bool true) wr6))))))))))))))))
theorem v_laws_FnExactGroupShare (aW0 : Int) (aW1O : Option Addr) (aW1L : Nat) (aW1C : Nat) (aW2O : Option Addr) (aW2L : Nat) (aW2C : Nat) (aW3O : Option Addr) (aW3L : Nat) (aW3C : Nat) (aGroup : Int) (aCpu : Int) (w : World) (R : Value → World → Prop) : evFn c_laws_FnExactGroupShare s_laws_FnExactGroupShare [.agg #[.int .i64 aW0, .slice aW1O aW1L aW1C, .slice aW2O aW2L aW2C, .slice aW3O aW3L aW3C], .int .i64 aGroup, .int .i64 aCpu] (bodyOf Tryz.f6) Tryz.f6.results.toList w R = V_laws_FnExactGroupShare aW0 aW1O aW1L aW1C aW2O aW2L aW2C aW3O aW3L aW3C aGroup aCpu w R := by kernel_rfl
theorem e_laws_FnExactGroupShare (aW0 : Int) (aW1O : Option Addr) (aW1L : Nat) (aW1C : Nat) (aW2O : Option Addr) (aW2L : Nat) (aW2C : Nat) (aW3O : Option Addr) (aW3L : Nat) (aW3C : Nat) (aGroup : Int) (aCpu : Int) {w : World} {R : Value → World → Prop} (hvc : V_laws_FnExactGroupShare aW0 aW1O aW1L aW1C aW2O aW2L aW2C aW3O aW3L aW3C aGroup aCpu w R) : Calls Tryz.prog fn_laws_FnExactGroupShare #[.agg #[.int .i64 aW0, .slice aW1O aW1L aW1C, .slice aW2O aW2L aW2C, .slice aW3O aW3L aW3C], .int .i64 aGroup, .int .i64 aCpu] w fun e0 wr0 => ∃ v0, e0 = .returned v0 ∧ R v0 wr0 :=
  eff_of_ev (C := c_laws_FnExactGroupShare) (sps := s_laws_FnExactGroupShare) (body := bodyOf Tryz.f6) (env _ _ _ _) Tryz.func6 rfl rfl (of_decide_eq_true (by kernel_rfl)) (of_decide_eq_true (by kernel_rfl)) rfl (by rw [v_laws_FnExactGroupShare]; exact hvc)
noncomputable def c_spec_l14Split : Cfg := { P := Tryz.prog, T := tblGet tbl, pf := pfT, ef := efT, tt := ttT, vis := [], n := 39, pm := true, wr := false }
noncomputable def s_spec_l14Split : List (Nat × LSpec) := [(4, { chg := [(5, .int .i64)], chgL := [], keep := [0] })]
def V_spec_l14Split (path : ByteArray) (w : World) (R : Value → World → Prop) : Prop :=
    (((decide ((path.size : Int) < 1)) || (decide ((path.size : Int) > 60))) = false → (0 ≤ (0 : Int) ∧ 0 < (path.size : Int))) ∧
    ((((decide ((path.size : Int) < 1)) || (decide ((path.size : Int) > 60))) || ((strAt path 0) != 47)) = true →
    R (.tuple #[.string (ByteArray.mk [].toArray), .string (ByteArray.mk [].toArray), .bool false]) w) ∧
    ((((decide ((path.size : Int) < 1)) || (decide ((path.size : Int) > 60))) || ((strAt path 0) != 47)) = false →
    InR .i64 ((path.size : Int) - 1) ∧
    (∃ (xInv : List Value → Prop) (mu : List Value → Nat), xInv [.int .i64 ((path.size : Int) - 1)] ∧
    ∀ (k : Int), xInv [.int .i64 k] →
    (0 ≤ k ∧ k < (path.size : Int)) ∧
    (((strAt path k) != 47) = true →
    InR .i64 (k - 1) ∧
    xInv [.int .i64 (k - 1)] ∧ mu [.int .i64 (k - 1)] < mu [.int .i64 k]) ∧
    (((strAt path k) != 47) = false →
    ((k == 0) = true →
    (0 ≤ (1 : Int) ∧ (1 : Int) ≤ ((path.size : Nat) : Int) ∧ ((path.size : Nat) : Int) ≤ (path.size : Int)) ∧
    R (.tuple #[.string (ByteArray.mk [47].toArray), .string (path.extract (Int.toNat 1) (Int.toNat ((path.size : Nat) : Int))), .bool true]) w) ∧
    ((k == 0) = false →
    (0 ≤ (0 : Int) ∧ (0 : Int) ≤ k ∧ k ≤ (path.size : Int)) ∧
    InR .i64 (k + 1) ∧
    (0 ≤ k + 1 ∧ k + 1 ≤ ((path.size : Nat) : Int) ∧ ((path.size : Nat) : Int) ≤ (path.size : Int)) ∧
    R (.tuple #[.string (path.extract (Int.toNat 0) (Int.toNat k)), .string (path.extract (Int.toNat (k + 1)) (Int.toNat ((path.size : Nat) : Int))), .bool true]) w))))
theorem v_spec_l14Split (path : ByteArray) (w : World) (R : Value → World → Prop) : evFn c_spec_l14Split s_spec_l14Split [.string path] (bodyOf Tryz.f58) Tryz.f58.results.toList w R = V_spec_l14Split path w R := by kernel_rfl
theorem p_spec_l14Split (path : ByteArray) {w : World} {bs : List Nat} {ret : Value} (hvc : ∀ wr0, ExtX bs w wr0 → V_spec_l14Split path wr0 fun v0 _ => v0 = ret) : PureX bs Tryz.prog fn_spec_l14Split #[.string path] w ret :=
  pure_of_ev (C := c_spec_l14Split) (sps := s_spec_l14Split) (body := bodyOf Tryz.f58) (env _ _ _ _) Tryz.func58 rfl rfl (of_decide_eq_true (by kernel_rfl)) (of_decide_eq_true (by kernel_rfl)) rfl fun wr0 hx0 => by rw [v_spec_l14Split]; exact hvc wr0 hx0
noncomputable def c_spec_l6Path : Cfg := { P := Tryz.prog, T := tblGet tbl, pf := pfT, ef := efT, tt := ttT, vis := [], n := 21, pm := false, wr := false }
noncomputable def s_spec_l6Path : List (Nat × LSpec) := []
def V_spec_l6Path (lO : Option Addr) (lL : Nat) (lC : Nat) (g : Int) (w : World) (R : Value → World → Prop) : Prop :=
    ((g == 0) = true →
    (∀ wr, ExtX [] w wr → R (.string (ByteArray.mk [].toArray)) wr)) ∧
    ((g == 0) = false →
    Ix lO lL g ∧
    (∃ (parent : Int),
    CellsX [] w lO (Int.toNat g * 14 + 1) [.int .i64 parent] ∧
    Ix lO lL g ∧
    (∃ (name : ByteArray),
    CellsX [] w lO (Int.toNat g * 14 + 2) [.string name] ∧
    (∀ wr1, ExtX [] w wr1 → (∀ bq ∈ ([] : List Nat), bq < wr1.heap.size) → 
    Calls Tryz.prog fn_spec_l6Path #[.slice lO lL lC, .int .i64 parent] wr1 fun e wv =>
    (∃ (l6Path : ByteArray),
    e = .returned (.string l6Path) ∧ Kept [] wr1 wv ∧
    CellsX [] wv lO (Int.toNat g * 14 + 2) [.string name] ∧
    l6Path.size + (ByteArray.mk [47].toArray).size ≤ 9223372036854775807 ∧
    (l6Path ++ (ByteArray.mk [47].toArray)).size + name.size ≤ 9223372036854775807 ∧
    (∀ wr2, ExtX [] wv wr2 → R (.string ((l6Path ++ (ByteArray.mk [47].toArray)) ++ name)) wr2))))))
theorem v_spec_l6Path (lO : Option Addr) (lL : Nat) (lC : Nat) (g : Int) (w : World) (R : Value → World → Prop) : evFn c_spec_l6Path s_spec_l6Path [.slice lO lL lC, .int .i64 g] (bodyOf Tryz.f164) Tryz.f164.results.toList w R = V_spec_l6Path lO lL lC g w R := by kernel_rfl
theorem e_spec_l6Path (lO : Option Addr) (lL : Nat) (lC : Nat) (g : Int) {w : World} {R : Value → World → Prop} (hvc : V_spec_l6Path lO lL lC g w R) : Calls Tryz.prog fn_spec_l6Path #[.slice lO lL lC, .int .i64 g] w fun e0 wr0 => ∃ v0, e0 = .returned v0 ∧ R v0 wr0 :=
  eff_of_ev (C := c_spec_l6Path) (sps := s_spec_l6Path) (body := bodyOf Tryz.f164) (env _ _ _ _) Tryz.func164 rfl rfl (of_decide_eq_true (by kernel_rfl)) (of_decide_eq_true (by kernel_rfl)) rfl (by rw [v_spec_l6Path]; exact hvc)
noncomputable def c_spec_TreePath : Cfg := { P := Tryz.prog, T := tblGet tbl, pf := pfT, ef := efT, tt := ttT, vis := [], n := 19, pm := false, wr := false }
noncomputable def s_spec_TreePath : List (Nat × LSpec) := []
def V_spec_TreePath (lO : Option Addr) (lL : Nat) (lC : Nat) (g : Int) (w : World) (R : Value → World → Prop) : Prop :=
    (∃ (xTreeOk : Bool),
    PureX [] Tryz.prog fn_spec_TreeOk #[.slice lO lL lC] w (.bool xTreeOk) ∧
    (∃ (l6Used : Bool),
    ((!xTreeOk) = false → PureX [] Tryz.prog fn_spec_l6Used #[.slice lO lL lC, .int .i64 g] w (.bool l6Used)) ∧
    (((!xTreeOk) || (!l6Used)) = true →
    (∀ wr, ExtX [] w wr → R (.string (ByteArray.mk [].toArray)) wr)) ∧
    (((!xTreeOk) || (!l6Used)) = false →
    ((g == 0) = true →
    (∀ wr1, ExtX [] w wr1 → R (.string (ByteArray.mk [47].toArray)) wr1)) ∧
    ((g == 0) = false →
    (∀ wr2, ExtX [] w wr2 → (∀ bq ∈ ([] : List Nat), bq < wr2.heap.size) → 
    Calls Tryz.prog fn_spec_l6Path #[.slice lO lL lC, .int .i64 g] wr2 fun e wv =>
    (∃ (l6Path : ByteArray),
    e = .returned (.string l6Path) ∧ Kept [] wr2 wv ∧
    (∀ wr3, ExtX [] wv wr3 → R (.string l6Path) wr3)))))))
theorem v_spec_TreePath (lO : Option Addr) (lL : Nat) (lC : Nat) (g : Int) (w : World) (R : Value → World → Prop) : evFn c_spec_TreePath s_spec_TreePath [.slice lO lL lC, .int .i64 g] (bodyOf Tryz.f108) Tryz.f108.results.toList w R = V_spec_TreePath lO lL lC g w R := by kernel_rfl
theorem e_spec_TreePath (lO : Option Addr) (lL : Nat) (lC : Nat) (g : Int) {w : World} {R : Value → World → Prop} (hvc : V_spec_TreePath lO lL lC g w R) : Calls Tryz.prog fn_spec_TreePath #[.slice lO lL lC, .int .i64 g] w fun e0 wr0 => ∃ v0, e0 = .returned v0 ∧ R v0 wr0 :=
  eff_of_ev (C := c_spec_TreePath) (sps := s_spec_TreePath) (body := bodyOf Tryz.f108) (env _ _ _ _) Tryz.func108 rfl rfl (of_decide_eq_true (by kernel_rfl)) (of_decide_eq_true (by kernel_rfl)) rfl (by rw [v_spec_TreePath]; exact hvc)
noncomputable def c_spec_TreeFind : Cfg := { P := Tryz.prog, T := tblGet tbl, pf := pfT, ef := efT, tt := ttT, vis := [], n := 28, pm := false, wr := false }
noncomputable def s_spec_TreeFind : List (Nat × LSpec) := [(4, { chg := [(5, .int .i64)], chgL := [], keep := [0, 1] })]
def V_spec_TreeFind (lO : Option Addr) (lL : Nat) (lC : Nat) (path : ByteArray) (w : World) (R : Value → World → Prop) : Prop :=
    (∃ (xTreeOk : Bool),
    PureX [] Tryz.prog fn_spec_TreeOk #[.slice lO lL lC] w (.bool xTreeOk) ∧
    ((!xTreeOk) = true →
    (∀ wr, ExtX [] w wr → R (.int .i64 (-1)) wr)) ∧
    ((!xTreeOk) = false →
    (∃ (xInv : List Value → World → Prop) (mu : List Value → World → Nat), (∀ wr1, ExtX [] w wr1 → (∀ bq ∈ ([] : List Nat), bq < wr1.heap.size) → xInv [.int .i64 0] wr1) ∧
    ∀ (g : Int) wv, (∀ bq ∈ ([] : List Nat), bq < wv.heap.size) → xInv [.int .i64 g] wv →
    ((decide (g < ((lL : Nat) : Int))) = true →
    Ix lO lL g ∧
    (∃ (used : Bool),
    CellsX [] wv lO (Int.toNat g * 14 + 0) [.bool used] ∧
    (used = true → (∀ wr2, ExtX [] wv wr2 → (∀ bq ∈ ([] : List Nat), bq < wr2.heap.size) → 
    Calls Tryz.prog fn_spec_TreePath #[.slice lO lL lC, .int .i64 g] wr2 fun e wv1 =>
    (∃ (xTreePa : ByteArray),
    e = .returned (.string xTreePa) ∧ Kept [] wr2 wv1 ∧
    ((used && (strEq xTreePa path)) = true →
    (∀ wr3, ExtX [] wv1 wr3 → R (.int .i64 g) wr3)) ∧
    ((used && (strEq xTreePa path)) = false →
    InR .i64 (g + 1) ∧
    (∀ wr4, ExtX [] wv1 wr4 → (∀ bq ∈ ([] : List Nat), bq < wr4.heap.size) → xInv [.int .i64 (g + 1)] wr4 ∧ mu [.int .i64 (g + 1)] wr4 < mu [.int .i64 g] wv))))) ∧
    ((used = true → False) →
    (false = true →
    (∀ wr5, ExtX [] wv wr5 → R (.int .i64 g) wr5)) ∧
    (false = false →
    InR .i64 (g + 1) ∧
    (∀ wr6, ExtX [] wv wr6 → (∀ bq ∈ ([] : List Nat), bq < wr6.heap.size) → xInv [.int .i64 (g + 1)] wr6 ∧ mu [.int .i64 (g + 1)] wr6 < mu [.int .i64 g] wv))))) ∧
    ((decide (g < ((lL : Nat) : Int))) = false →
    (∀ wr7, ExtX [] wv wr7 → R (.int .i64 (-1)) wr7)))))
theorem v_spec_TreeFind (lO : Option Addr) (lL : Nat) (lC : Nat) (path : ByteArray) (w : World) (R : Value → World → Prop) : evFn c_spec_TreeFind s_spec_TreeFind [.slice lO lL lC, .string path] (bodyOf Tryz.f59) Tryz.f59.results.toList w R = V_spec_TreeFind lO lL lC path w R := by kernel_rfl
theorem e_spec_TreeFind (lO : Option Addr) (lL : Nat) (lC : Nat) (path : ByteArray) {w : World} {R : Value → World → Prop} (hvc : V_spec_TreeFind lO lL lC path w R) : Calls Tryz.prog fn_spec_TreeFind #[.slice lO lL lC, .string path] w fun e0 wr0 => ∃ v0, e0 = .returned v0 ∧ R v0 wr0 :=
  eff_of_ev (C := c_spec_TreeFind) (sps := s_spec_TreeFind) (body := bodyOf Tryz.f59) (env _ _ _ _) Tryz.func59 rfl rfl (of_decide_eq_true (by kernel_rfl)) (of_decide_eq_true (by kernel_rfl)) rfl (by rw [v_spec_TreeFind]; exact hvc)
noncomputable def c_spec_TreeKids : Cfg := { P := Tryz.prog, T := tblGet tbl, pf := pfT, ef := efT, tt := ttT, vis := [], n := 42, pm := false, wr := false }
noncomputable def s_spec_TreeKids : List (Nat × LSpec) := [(5, { chg := [(5, .slice), (6, .int .i64)], chgL := [], keep := [0, 1] })]
def V_spec_TreeKids (lO : Option Addr) (lL : Nat) (lC : Nat) (g : Int) (w : World) (R : Value → World → Prop) : Prop :=
    (∃ (xTreeOk : Bool),
    PureX [] Tryz.prog fn_spec_TreeOk #[.slice lO lL lC] w (.bool xTreeOk) ∧
    (∃ (l6Used : Bool),
    ((!xTreeOk) = false → PureX [] Tryz.prog fn_spec_l6Used #[.slice lO lL lC, .int .i64 g] w (.bool l6Used)) ∧
    (((!xTreeOk) || (!l6Used)) = true →
    (∀ wr, ExtX [] w wr → R (.slice none 0 0) wr)) ∧
    (((!xTreeOk) || (!l6Used)) = false →
    (∃ (xInv : List Value → World → Prop) (mu : List Value → World → Nat), (∀ wr1, ExtX [] w wr1 → (∀ bq ∈ ([] : List Nat), bq < wr1.heap.size) → xInv [.slice none 0 0, .int .i64 1] wr1) ∧
    ∀ (outO : Option Addr) (outL : Nat) (outC : Nat) (h : Int) wv, (∀ bq ∈ ([] : List Nat), bq < wv.heap.size) → xInv [.slice outO outL outC, .int .i64 h] wv →
    ((decide (h < ((lL : Nat) : Int))) = true →
    Ix lO lL h ∧
    (∃ (used : Bool),
    CellsX [] wv lO (Int.toNat h * 14 + 0) [.bool used] ∧
    (used = true → Ix lO lL h) ∧
    (∃ (parent : Int),
    (used = true → CellsX [] wv lO (Int.toNat h * 14 + 1) [.int .i64 parent]) ∧
    ((used && (parent == g)) = true →
    (∀ b, wv.heap.size ≤ b →
    (∀ wr2, ExtX [] wv wr2 → (∀ bq ∈ ([b] : List Nat), bq < wr2.heap.size) → wr2.heap[b]? = some (Obj.cells ([.int .i64 h] : List Value).toArray ty_int (0, 0)) → 
    (∃ (apO : Option Addr) (apL : Nat) (apC : Nat),
    ∃ wv1, (builtin .append #[ty_sl_int, ty_sl_int] ty_sl_int #[false, false] #[.slice outO outL outC, .slice (some (Addr.mk b 0 none)) 1 1]).run Tryz.prog wr2 = .ok (.value (.slice apO apL apC)) wv1 ∧ Kept [b] wr2 wv1 ∧
    InR .i64 (h + 1) ∧
    (∀ wr3, ExtX [b] wv1 wr3 → (∀ bq ∈ ([b] : List Nat), bq < wr3.heap.size) → xInv [.slice apO apL apC, .int .i64 (h + 1)] wr3 ∧ mu [.slice apO apL apC, .int .i64 (h + 1)] wr3 < mu [.slice outO outL outC, .int .i64 h] wv))))) ∧
    ((used && (parent == g)) = false →
    InR .i64 (h + 1) ∧
    (∀ wr4, ExtX [] wv wr4 → (∀ bq ∈ ([] : List Nat), bq < wr4.heap.size) → xInv [.slice outO outL outC, .int .i64 (h + 1)] wr4 ∧ mu [.slice outO outL outC, .int .i64 (h + 1)] wr4 < mu [.slice outO outL outC, .int .i64 h] wv))))) ∧
    ((decide (h < ((lL : Nat) : Int))) = false →
    (∀ wr5, ExtX [] wv wr5 → R (.slice outO outL outC) wr5))))))
theorem v_spec_TreeKids (lO : Option Addr) (lL : Nat) (lC : Nat) (g : Int) (w : World) (R : Value → World → Prop) : evFn c_spec_TreeKids s_spec_TreeKids [.slice lO lL lC, .int .i64 g] (bodyOf Tryz.f60) Tryz.f60.results.toList w R = V_spec_TreeKids lO lL lC g w R := by kernel_rfl
theorem e_spec_TreeKids (lO : Option Addr) (lL : Nat) (lC : Nat) (g : Int) {w : World} {R : Value → World → Prop} (hvc : V_spec_TreeKids lO lL lC g w R) : Calls Tryz.prog fn_spec_TreeKids #[.slice lO lL lC, .int .i64 g] w fun e0 wr0 => ∃ v0, e0 = .returned v0 ∧ R v0 wr0 :=
  eff_of_ev (C := c_spec_TreeKids) (sps := s_spec_TreeKids) (body := bodyOf Tryz.f60) (env _ _ _ _) Tryz.func60 rfl rfl (of_decide_eq_true (by kernel_rfl)) (of_decide_eq_true (by kernel_rfl)) rfl (by rw [v_spec_TreeKids]; exact hvc)
noncomputable def c_spec_FileList : Cfg := { P := Tryz.prog, T := tblGet tbl, pf := pfT, ef := efT, tt := ttT, vis := [], n := 58, pm := false, wr := false }
noncomputable def s_spec_FileList : List (Nat × LSpec) := [(12, { chg := [(10, .str), (12, .int .i64)], chgL := [], keep := [2, 9, 11] })]
def V_spec_FileList (w0 : Int) (w1O : Option Addr) (w1L : Nat) (w1C : Nat) (w2O : Option Addr) (w2L : Nat) (w2C : Nat) (w3O : Option Addr) (w3L : Nat) (w3C : Nat) (path : ByteArray) (w : World) (R : Value → World → Prop) : Prop :=
    (∀ b, w.heap.size ≤ b →
    (∃ (xWorldO : Bool),
    PureX [] Tryz.prog fn_spec_WorldOk #[.agg #[.int .i64 w0, .slice w1O w1L w1C, .slice w2O w2L w2C, .slice w3O w3L w3C]] w (.bool xWorldO) ∧
    ((!xWorldO) = true →
    (∀ wr, ExtX [] w wr → R (.tuple #[.string (ByteArray.mk [].toArray), .int .i64 1]) wr)) ∧
    ((!xWorldO) = false →
    (∃ (l14Spl : ByteArray) (l14Spl1 : ByteArray) (l14Spl2 : Bool),
    PureX [] Tryz.prog fn_spec_l14Split #[.string path] w (.tuple #[.string l14Spl, .string l14Spl1, .bool l14Spl2]) ∧
    ((!l14Spl2) = true →
    (∀ wr1, ExtX [] w wr1 → R (.tuple #[.string (ByteArray.mk [].toArray), .int .i64 1]) wr1)) ∧
    ((!l14Spl2) = false →
    (∀ wr2, ExtX [] w wr2 → (∀ bq ∈ ([b] : List Nat), bq < wr2.heap.size) → 
    Calls Tryz.prog fn_spec_TreeFind #[.slice w3O w3L w3C, .string path] wr2 fun e wv =>
    (∃ (xTreeFi : Int),
    e = .returned (.int .i64 xTreeFi) ∧ Kept [b] wr2 wv ∧
    ((decide (xTreeFi < 0)) = true →
    (∀ wr3, ExtX [b] wv wr3 → R (.tuple #[.string (ByteArray.mk [].toArray), .int .i64 2]) wr3)) ∧
    ((decide (xTreeFi < 0)) = false →
    (∀ wr4, ExtX [b] wv wr4 → (∀ bq ∈ ([b] : List Nat), bq < wr4.heap.size) → 
    Calls Tryz.prog fn_spec_TreeKids #[.slice w3O w3L w3C, .int .i64 xTreeFi] wr4 fun e1 wv1 =>
    (∃ (xTreeKiO : Option Addr) (xTreeKiL : Nat) (xTreeKiC : Nat),
    e1 = .returned (.slice xTreeKiO xTreeKiL xTreeKiC) ∧ Kept [b] wr4 wv1 ∧
    (∃ (xInv : List Value → World → Prop) (mu : List Value → World → Nat), (∀ wr5, ExtX [b] wv1 wr5 → (∀ bq ∈ ([b] : List Nat), bq < wr5.heap.size) → xInv [.string (ByteArray.mk [].toArray), .int .i64 0] wr5) ∧
    ∀ (s : ByteArray) (i : Int) wv2, (∀ bq ∈ ([b] : List Nat), bq < wv2.heap.size) → xInv [.string s, .int .i64 i] wv2 →
    ((decide (i < ((xTreeKiL : Nat) : Int))) = true →
    Ix xTreeKiO xTreeKiL i ∧
    (∃ (x : Int),
    CellsX [b] wv2 xTreeKiO (Int.toNat i * 1) [.int .i64 x] ∧
    Ix w3O w3L x ∧
    (∃ (name : ByteArray),
    CellsX [b] wv2 w3O (Int.toNat x * 14 + 2) [.string name] ∧
    s.size + name.size ≤ 9223372036854775807 ∧
    (s ++ name).size + (ByteArray.mk [47, 10].toArray).size ≤ 9223372036854775807 ∧
    InR .i64 (i + 1) ∧
    (∀ wr6, ExtX [b] wv2 wr6 → (∀ bq ∈ ([b] : List Nat), bq < wr6.heap.size) → xInv [.string ((s ++ name) ++ (ByteArray.mk [47, 10].toArray)), .int .i64 (i + 1)] wr6 ∧ mu [.string ((s ++ name) ++ (ByteArray.mk [47, 10].toArray)), .int .i64 (i + 1)] wr6 < mu [.string s, .int .i64 i] wv2)))) ∧
    ((decide (i < ((xTreeKiL : Nat) : Int))) = false →
    ((xTreeFi != 0) = true →
    s.size + (ByteArray.mk [119, 101, 105, 103, 104, 116, 10, 109, 97, 120, 10, 99, 112, 117, 115, 10].toArray).size ≤ 9223372036854775807 ∧
    (s ++ (ByteArray.mk [119, 101, 105, 103, 104, 116, 10, 109, 97, 120, 10, 99, 112, 117, 115, 10].toArray)).size + (ByteArray.mk [112, 114, 111, 99, 115, 10, 115, 116, 97, 116, 10].toArray).size ≤ 9223372036854775807 ∧
    (∀ wr7, ExtX [b] wv2 wr7 → R (.tuple #[.string ((s ++ (ByteArray.mk [119, 101, 105, 103, 104, 116, 10, 109, 97, 120, 10, 99, 112, 117, 115, 10].toArray)) ++ (ByteArray.mk [112, 114, 111, 99, 115, 10, 115, 116, 97, 116, 10].toArray)), .int .i64 0]) wr7)) ∧
    ((xTreeFi != 0) = false →
    s.size + (ByteArray.mk [112, 114, 111, 99, 115, 10, 115, 116, 97, 116, 10].toArray).size ≤ 9223372036854775807 ∧
    (∀ wr8, ExtX [b] wv2 wr8 → R (.tuple #[.string (s ++ (ByteArray.mk [112, 114, 111, 99, 115, 10, 115, 116, 97, 116, 10].toArray)), .int .i64 0]) wr8))))))))))))))
theorem v_spec_FileList (w0 : Int) (w1O : Option Addr) (w1L : Nat) (w1C : Nat) (w2O : Option Addr) (w2L : Nat) (w2C : Nat) (w3O : Option Addr) (w3L : Nat) (w3C : Nat) (path : ByteArray) (w : World) (R : Value → World → Prop) : evFn c_spec_FileList s_spec_FileList [.agg #[.int .i64 w0, .slice w1O w1L w1C, .slice w2O w2L w2C, .slice w3O w3L w3C], .string path] (bodyOf Tryz.f23) Tryz.f23.results.toList w R = V_spec_FileList w0 w1O w1L w1C w2O w2L w2C w3O w3L w3C path w R := by kernel_rfl
theorem e_spec_FileList (w0 : Int) (w1O : Option Addr) (w1L : Nat) (w1C : Nat) (w2O : Option Addr) (w2L : Nat) (w2C : Nat) (w3O : Option Addr) (w3L : Nat) (w3C : Nat) (path : ByteArray) {w : World} {R : Value → World → Prop} (hvc : V_spec_FileList w0 w1O w1L w1C w2O w2L w2C w3O w3L w3C path w R) : Calls Tryz.prog fn_spec_FileList #[.agg #[.int .i64 w0, .slice w1O w1L w1C, .slice w2O w2L w2C, .slice w3O w3L w3C], .string path] w fun e0 wr0 => ∃ v0, e0 = .returned v0 ∧ R v0 wr0 :=
  eff_of_ev (C := c_spec_FileList) (sps := s_spec_FileList) (body := bodyOf Tryz.f23) (env _ _ _ _) Tryz.func23 rfl rfl (of_decide_eq_true (by kernel_rfl)) (of_decide_eq_true (by kernel_rfl)) rfl (by rw [v_spec_FileList]; exact hvc)
noncomputable def c_internal_bytealg_LastIndexByteString : Cfg := { P := Tryz.prog, T := tblGet tbl, pf := pfT, ef := efT, tt := ttT, vis := [], n := 19, pm := true, wr := false }
noncomputable def s_internal_bytealg_LastIndexByteString : List (Nat × LSpec) := [(2, { chg := [(5, .int .i64)], chgL := [], keep := [0, 1] })]
def V_internal_bytealg_LastIndexByteString (s : ByteArray) (c : Int) (w : World) (R : Value → World → Prop) : Prop :=
    InR .i64 ((s.size : Int) - 1) ∧
    (∃ (xInv : List Value → Prop) (mu : List Value → Nat), xInv [.int .i64 ((s.size : Int) - 1)] ∧
    ∀ (i : Int), xInv [.int .i64 i] →
    ((decide (i ≥ 0)) = true →
    (0 ≤ i ∧ i < (s.size : Int)) ∧
    (((strAt s i) == c) = true →
    R (.int .i64 i) w) ∧
    (((strAt s i) == c) = false →
    InR .i64 (i - 1) ∧
    xInv [.int .i64 (i - 1)] ∧ mu [.int .i64 (i - 1)] < mu [.int .i64 i])) ∧
    ((decide (i ≥ 0)) = false →
    R (.int .i64 (-1)) w))
theorem v_internal_bytealg_LastIndexByteString (s : ByteArray) (c : Int) (w : World) (R : Value → World → Prop) : evFn c_internal_bytealg_LastIndexByteString s_internal_bytealg_LastIndexByteString [.string s, .int .u8 c] (bodyOf Tryz.f195) Tryz.f195.results.toList w R = V_internal_bytealg_LastIndexByteString s c w R := by kernel_rfl
theorem p_internal_bytealg_LastIndexByteString (s : ByteArray) (c : Int) {w : World} {bs : List Nat} {ret : Value} (hvc : ∀ wr0, ExtX bs w wr0 → V_internal_bytealg_LastIndexByteString s c wr0 fun v0 _ => v0 = ret) : PureX bs Tryz.prog fn_internal_bytealg_LastIndexByteString #[.string s, .int .u8 c] w ret :=
  pure_of_ev (C := c_internal_bytealg_LastIndexByteString) (sps := s_internal_bytealg_LastIndexByteString) (body := bodyOf Tryz.f195) (env _ _ _ _) Tryz.func195 rfl rfl (of_decide_eq_true (by kernel_rfl)) (of_decide_eq_true (by kernel_rfl)) rfl fun wr0 hx0 => by rw [v_internal_bytealg_LastIndexByteString]; exact hvc wr0 hx0
noncomputable def c_strings_LastIndexByte : Cfg := { P := Tryz.prog, T := tblGet tbl, pf := pfT, ef := efT, tt := ttT, vis := [], n := 8, pm := true, wr := false }
noncomputable def s_strings_LastIndexByte : List (Nat × LSpec) := []
def V_strings_LastIndexByte (s : ByteArray) (c : Int) (w : World) (R : Value → World → Prop) : Prop :=
    (∃ (xLastIn : Int),
    PureX [] Tryz.prog fn_internal_bytealg_LastIndexByteString #[.string s, .int .u8 c] w (.int .i64 xLastIn) ∧
    R (.int .i64 xLastIn) w)
theorem v_strings_LastIndexByte (s : ByteArray) (c : Int) (w : World) (R : Value → World → Prop) : evFn c_strings_LastIndexByte s_strings_LastIndexByte [.string s, .int .u8 c] (bodyOf Tryz.f165) Tryz.f165.results.toList w R = V_strings_LastIndexByte s c w R := by kernel_rfl
theorem p_strings_LastIndexByte (s : ByteArray) (c : Int) {w : World} {bs : List Nat} {ret : Value} (hvc : ∀ wr0, ExtX bs w wr0 → V_strings_LastIndexByte s c wr0 fun v0 _ => v0 = ret) : PureX bs Tryz.prog fn_strings_LastIndexByte #[.string s, .int .u8 c] w ret :=
  pure_of_ev (C := c_strings_LastIndexByte) (sps := s_strings_LastIndexByte) (body := bodyOf Tryz.f165) (env _ _ _ _) Tryz.func165 rfl rfl (of_decide_eq_true (by kernel_rfl)) (of_decide_eq_true (by kernel_rfl)) rfl fun wr0 hx0 => by rw [v_strings_LastIndexByte]; exact hvc wr0 hx0
noncomputable def c_impl_splitPath : Cfg := { P := Tryz.prog, T := tblGet tbl, pf := pfT, ef := efT, tt := ttT, vis := [], n := 28, pm := true, wr := false }
noncomputable def s_impl_splitPath : List (Nat × LSpec) := []
def V_impl_splitPath (path : ByteArray) (w : World) (R : Value → World → Prop) : Prop :=
    (∃ (inRang : Bool),
    PureX [] Tryz.prog fn_impl_inRange #[.int .i64 (path.size : Int), .int .i64 1, .int .i64 60] w (.bool inRang) ∧
    ((!inRang) = false → (0 ≤ (0 : Int) ∧ 0 < (path.size : Int))) ∧
    (((!inRang) || ((strAt path 0) != 47)) = true →
    R (.tuple #[.string (ByteArray.mk [].toArray), .string (ByteArray.mk [].toArray), .bool false]) w) ∧
    (((!inRang) || ((strAt path 0) != 47)) = false →
    (∃ (xLastIn : Int),
    PureX [] Tryz.prog fn_strings_LastIndexByte #[.string path, .int .u8 47] w (.int .i64 xLastIn) ∧
    ((xLastIn == 0) = true →
    (0 ≤ (1 : Int) ∧ (1 : Int) ≤ ((path.size : Nat) : Int) ∧ ((path.size : Nat) : Int) ≤ (path.size : Int)) ∧
    R (.tuple #[.string (ByteArray.mk [47].toArray), .string (path.extract (Int.toNat 1) (Int.toNat ((path.size : Nat) : Int))), .bool true]) w) ∧
    ((xLastIn == 0) = false →
    (0 ≤ (0 : Int) ∧ (0 : Int) ≤ xLastIn ∧ xLastIn ≤ (path.size : Int)) ∧
    InR .i64 (xLastIn + 1) ∧
    (0 ≤ xLastIn + 1 ∧ xLastIn + 1 ≤ ((path.size : Nat) : Int) ∧ ((path.size : Nat) : Int) ≤ (path.size : Int)) ∧
    R (.tuple #[.string (path.extract (Int.toNat 0) (Int.toNat xLastIn)), .string (path.extract (Int.toNat (xLastIn + 1)) (Int.toNat ((path.size : Nat) : Int))), .bool true]) w))))
theorem v_impl_splitPath (path : ByteArray) (w : World) (R : Value → World → Prop) : evFn c_impl_splitPath s_impl_splitPath [.string path] (bodyOf Tryz.f109) Tryz.f109.results.toList w R = V_impl_splitPath path w R := by kernel_rfl
theorem p_impl_splitPath (path : ByteArray) {w : World} {bs : List Nat} {ret : Value} (hvc : ∀ wr0, ExtX bs w wr0 → V_impl_splitPath path wr0 fun v0 _ => v0 = ret) : PureX bs Tryz.prog fn_impl_splitPath #[.string path] w ret :=
  pure_of_ev (C := c_impl_splitPath) (sps := s_impl_splitPath) (body := bodyOf Tryz.f109) (env _ _ _ _) Tryz.func109 rfl rfl (of_decide_eq_true (by kernel_rfl)) (of_decide_eq_true (by kernel_rfl)) rfl fun wr0 hx0 => by rw [v_impl_splitPath]; exact hvc wr0 hx0
noncomputable def c_impl_node_path : Cfg := { P := Tryz.prog, T := tblGet tbl, pf := pfT, ef := efT, tt := ttT, vis := [], n := 26, pm := true, wr := false }
noncomputable def s_impl_node_path : List (Nat × LSpec) := [(4, { chg := [(0, .ptr), (3, .str)], chgL := [], keep := [] })]
def V_impl_node_path (n : Option Addr) (w : World) (R : Value → World → Prop) : Prop :=
    n.isSome = true ∧
    (∃ (slot : Int),
    CellsX [] w n (0 + 0) [.int .i64 slot] ∧
    ((slot == 0) = true →
    R (.string (ByteArray.mk [47].toArray)) w) ∧
    ((slot == 0) = false →
    (∃ (xInv : List Value → Prop) (mu : List Value → Nat), xInv [.pointer n, .string (ByteArray.mk [].toArray)] ∧
    ∀ (n1 : Option Addr) (s : ByteArray), xInv [.pointer n1, .string s] →
    n1.isSome = true ∧
    (∃ (slot1 : Int),
    CellsX [] w n1 (0 + 0) [.int .i64 slot1] ∧
    ((slot1 != 0) = true →
    n1.isSome = true ∧
    (∃ (name : ByteArray),
    CellsX [] w n1 (0 + 1) [.string name] ∧
    (ByteArray.mk [47].toArray).size + name.size ≤ 9223372036854775807 ∧
    ((ByteArray.mk [47].toArray) ++ name).size + s.size ≤ 9223372036854775807 ∧
    n1.isSome = true ∧
    (∃ (up : Option Addr),
    CellsX [] w n1 (0 + 2) [.pointer up] ∧
    xInv [.pointer up, .string (((ByteArray.mk [47].toArray) ++ name) ++ s)] ∧ mu [.pointer up, .string (((ByteArray.mk [47].toArray) ++ name) ++ s)] < mu [.pointer n1, .string s]))) ∧
    ((slot1 != 0) = false →
    R (.string s) w)))))
theorem v_impl_node_path (n : Option Addr) (w : World) (R : Value → World → Prop) : evFn c_impl_node_path s_impl_node_path [.pointer n] (bodyOf Tryz.f167) Tryz.f167.results.toList w R = V_impl_node_path n w R := by kernel_rfl
theorem p_impl_node_path (n : Option Addr) {w : World} {bs : List Nat} {ret : Value} (hvc : ∀ wr0, ExtX bs w wr0 → V_impl_node_path n wr0 fun v0 _ => v0 = ret) : PureX bs Tryz.prog fn_impl_node_path #[.pointer n] w ret :=
  pure_of_ev (C := c_impl_node_path) (sps := s_impl_node_path) (body := bodyOf Tryz.f167) (env _ _ _ _) Tryz.func167 rfl rfl (of_decide_eq_true (by kernel_rfl)) (of_decide_eq_true (by kernel_rfl)) rfl fun wr0 hx0 => by rw [v_impl_node_path]; exact hvc wr0 hx0
noncomputable def c_impl_TreeFind : Cfg := { P := Tryz.prog, T := tblGet tbl, pf := pfT, ef := efT, tt := ttT, vis := [], n := 31, pm := false, wr := false }
noncomputable def s_impl_TreeFind : List (Nat × LSpec) := [(3, { chg := [(16, .int .i64)], chgL := [], keep := [1, 14, 15] })]
def V_impl_TreeFind (lO : Option Addr) (lL : Nat) (lC : Nat) (path : ByteArray) (w : World) (R : Value → World → Prop) : Prop :=
    (∀ wr, ExtX [] w wr → (∀ bq ∈ ([] : List Nat), bq < wr.heap.size) → 
    Calls Tryz.prog fn_impl_nodes #[.slice lO lL lC] wr fun e wv =>
    (∃ (nodesO : Option Addr) (nodesL : Nat) (nodesC : Nat) (nodes1 : Bool),
    e = .returned (.tuple #[.slice nodesO nodesL nodesC, .bool nodes1]) ∧ Kept [] wr wv ∧
    (∃ (xInv : List Value → World → Prop) (mu : List Value → World → Nat), (∀ wr1, ExtX [] wv wr1 → (∀ bq ∈ ([] : List Nat), bq < wr1.heap.size) → xInv [.int .i64 0] wr1) ∧
    ∀ (x : Int) wv1, (∀ bq ∈ ([] : List Nat), bq < wv1.heap.size) → xInv [.int .i64 x] wv1 →
    ((decide (x < ((nodesL : Nat) : Int))) = true →
    Ix nodesO nodesL x ∧
    (∃ (x1 : Option Addr),
    CellsX [] wv1 nodesO (Int.toNat x * 1) [.pointer x1] ∧
    (∃ (path1 : ByteArray),
    ((!x1.isNone) = true → PureX [] Tryz.prog fn_impl_node_path #[.pointer x1] wv1 (.string path1)) ∧
    (((!x1.isNone) && (strEq path1 path)) = true →
    (∀ wr2, ExtX [] wv1 wr2 → R (.int .i64 x) wr2)) ∧
    (((!x1.isNone) && (strEq path1 path)) = false →
    InR .i64 (x + 1) ∧
    (∀ wr3, ExtX [] wv1 wr3 → (∀ bq ∈ ([] : List Nat), bq < wr3.heap.size) → xInv [.int .i64 (x + 1)] wr3 ∧ mu [.int .i64 (x + 1)] wr3 < mu [.int .i64 x] wv1))))) ∧
    ((decide (x < ((nodesL : Nat) : Int))) = false →
    (∀ wr4, ExtX [] wv1 wr4 → R (.int .i64 (-1)) wr4)))))
theorem v_impl_TreeFind (lO : Option Addr) (lL : Nat) (lC : Nat) (path : ByteArray) (w : World) (R : Value → World → Prop) : evFn c_impl_TreeFind s_impl_TreeFind [.slice lO lL lC, .string path] (bodyOf Tryz.f110) Tryz.f110.results.toList w R = V_impl_TreeFind lO lL lC path w R := by kernel_rfl
theorem e_impl_TreeFind (lO : Option Addr) (lL : Nat) (lC : Nat) (path : ByteArray) {w : World} {R : Value → World → Prop} (hvc : V_impl_TreeFind lO lL lC path w R) : Calls Tryz.prog fn_impl_TreeFind #[.slice lO lL lC, .string path] w fun e0 wr0 => ∃ v0, e0 = .returned v0 ∧ R v0 wr0 :=
  eff_of_ev (C := c_impl_TreeFind) (sps := s_impl_TreeFind) (body := bodyOf Tryz.f110) (env _ _ _ _) Tryz.func110 rfl rfl (of_decide_eq_true (by kernel_rfl)) (of_decide_eq_true (by kernel_rfl)) rfl (by rw [v_impl_TreeFind]; exact hvc)
noncomputable def c_impl_findGroup : Cfg := { P := Tryz.prog, T := tblGet tbl, pf := pfT, ef := efT, tt := ttT, vis := [], n := 27, pm := true, wr := false }
noncomputable def s_impl_findGroup : List (Nat × LSpec) := []
def V_impl_findGroup (wv : Option Addr) (path : ByteArray) (w : World) (R : Value → World → Prop) : Prop :=
    (∃ (splitP : ByteArray) (splitP1 : ByteArray) (splitP2 : Bool),
    PureX [] Tryz.prog fn_impl_splitPath #[.string path] w (.tuple #[.string splitP, .string splitP1, .bool splitP2]) ∧
    ((!splitP2) = true →
    R (.tuple #[.int .i64 0, .int .i64 1]) w) ∧
    ((!splitP2) = false →
    wv.isSome = true ∧
    (∃ (groupsO : Option Addr) (groupsL : Nat) (groupsC : Nat),
    CellsX [] w wv (0 + 3) [.slice groupsO groupsL groupsC] ∧
    (∃ (xTreeFi : Int),
    PureX [] Tryz.prog fn_impl_TreeFind #[.slice groupsO groupsL groupsC, .string path] w (.int .i64 xTreeFi) ∧
    ((decide (xTreeFi < 0)) = true →
    R (.tuple #[.int .i64 0, .int .i64 2]) w) ∧
    ((decide (xTreeFi < 0)) = false →
    R (.tuple #[.int .i64 xTreeFi, .int .i64 0]) w)))))
theorem v_impl_findGroup (wv : Option Addr) (path : ByteArray) (w : World) (R : Value → World → Prop) : evFn c_impl_findGroup s_impl_findGroup [.pointer wv, .string path] (bodyOf Tryz.f61) Tryz.f61.results.toList w R = V_impl_findGroup wv path w R := by kernel_rfl
theorem p_impl_findGroup (wv : Option Addr) (path : ByteArray) {w : World} {bs : List Nat} {ret : Value} (hvc : ∀ wr0, ExtX bs w wr0 → V_impl_findGroup wv path wr0 fun v0 _ => v0 = ret) : PureX bs Tryz.prog fn_impl_findGroup #[.pointer wv, .string path] w ret :=
  pure_of_ev (C := c_impl_findGroup) (sps := s_impl_findGroup) (body := bodyOf Tryz.f61) (env _ _ _ _) Tryz.func61 rfl rfl (of_decide_eq_true (by kernel_rfl)) (of_decide_eq_true (by kernel_rfl)) rfl fun wr0 hx0 => by rw [v_impl_findGroup]; exact hvc wr0 hx0
noncomputable def c_impl_TreeKids : Cfg := { P := Tryz.prog, T := tblGet tbl, pf := pfT, ef := efT, tt := ttT, vis := [], n := 41, pm := false, wr := false }
noncomputable def s_impl_TreeKids : List (Nat × LSpec) := [(5, { chg := [(5, .slice), (18, .int .i64)], chgL := [], keep := [0, 1, 17] })]
def V_impl_TreeKids (lO : Option Addr) (lL : Nat) (lC : Nat) (g : Int) (w : World) (R : Value → World → Prop) : Prop :=
    (∃ (xTreeOk : Bool),
    PureX [] Tryz.prog fn_impl_TreeOk #[.slice lO lL lC] w (.bool xTreeOk) ∧
    (∃ (groupU : Bool),
    ((!xTreeOk) = false → PureX [] Tryz.prog fn_impl_groupUsed #[.slice lO lL lC, .int .i64 g] w (.bool groupU)) ∧
    (((!xTreeOk) || (!groupU)) = true →
    (∀ wr, ExtX [] w wr → R (.slice none 0 0) wr)) ∧
    (((!xTreeOk) || (!groupU)) = false →
    (∃ (xInv : List Value → World → Prop) (mu : List Value → World → Nat), (∀ wr1, ExtX [] w wr1 → (∀ bq ∈ ([] : List Nat), bq < wr1.heap.size) → xInv [.slice none 0 0, .int .i64 0] wr1) ∧
    ∀ (kidsO : Option Addr) (kidsL : Nat) (kidsC : Nat) (x : Int) wv, (∀ bq ∈ ([] : List Nat), bq < wv.heap.size) → xInv [.slice kidsO kidsL kidsC, .int .i64 x] wv →
    ((decide (x < ((lL : Nat) : Int))) = true →
    Ix lO lL x ∧
    (∃ (used : Bool),
    CellsX [] wv lO (Int.toNat x * 14 + 0) [.bool used] ∧
    (used = true → Ix lO lL x) ∧
    (∃ (parent : Int),
    (used = true → CellsX [] wv lO (Int.toNat x * 14 + 1) [.int .i64 parent]) ∧
    ((used && (parent == g)) = true →
    (∀ b, wv.heap.size ≤ b →
    (∀ wr2, ExtX [] wv wr2 → (∀ bq ∈ ([b] : List Nat), bq < wr2.heap.size) → wr2.heap[b]? = some (Obj.cells ([.int .i64 x] : List Value).toArray ty_int (0, 0)) → 
    (∃ (apO : Option Addr) (apL : Nat) (apC : Nat),
    ∃ wv1, (builtin .append #[ty_sl_int, ty_sl_int] ty_sl_int #[false, false] #[.slice kidsO kidsL kidsC, .slice (some (Addr.mk b 0 none)) 1 1]).run Tryz.prog wr2 = .ok (.value (.slice apO apL apC)) wv1 ∧ Kept [b] wr2 wv1 ∧
    InR .i64 (x + 1) ∧
    (∀ wr3, ExtX [b] wv1 wr3 → (∀ bq ∈ ([b] : List Nat), bq < wr3.heap.size) → xInv [.slice apO apL apC, .int .i64 (x + 1)] wr3 ∧ mu [.slice apO apL apC, .int .i64 (x + 1)] wr3 < mu [.slice kidsO kidsL kidsC, .int .i64 x] wv))))) ∧
    ((used && (parent == g)) = false →
    InR .i64 (x + 1) ∧
    (∀ wr4, ExtX [] wv wr4 → (∀ bq ∈ ([] : List Nat), bq < wr4.heap.size) → xInv [.slice kidsO kidsL kidsC, .int .i64 (x + 1)] wr4 ∧ mu [.slice kidsO kidsL kidsC, .int .i64 (x + 1)] wr4 < mu [.slice kidsO kidsL kidsC, .int .i64 x] wv))))) ∧
    ((decide (x < ((lL : Nat) : Int))) = false →
    (∀ wr5, ExtX [] wv wr5 → R (.slice kidsO kidsL kidsC) wr5))))))
theorem v_impl_TreeKids (lO : Option Addr) (lL : Nat) (lC : Nat) (g : Int) (w : World) (R : Value → World → Prop) : evFn c_impl_TreeKids s_impl_TreeKids [.slice lO lL lC, .int .i64 g] (bodyOf Tryz.f62) Tryz.f62.results.toList w R = V_impl_TreeKids lO lL lC g w R := by kernel_rfl
theorem e_impl_TreeKids (lO : Option Addr) (lL : Nat) (lC : Nat) (g : Int) {w : World} {R : Value → World → Prop} (hvc : V_impl_TreeKids lO lL lC g w R) : Calls Tryz.prog fn_impl_TreeKids #[.slice lO lL lC, .int .i64 g] w fun e0 wr0 => ∃ v0, e0 = .returned v0 ∧ R v0 wr0 :=
  eff_of_ev (C := c_impl_TreeKids) (sps := s_impl_TreeKids) (body := bodyOf Tryz.f62) (env _ _ _ _) Tryz.func62 rfl rfl (of_decide_eq_true (by kernel_rfl)) (of_decide_eq_true (by kernel_rfl)) rfl (by rw [v_impl_TreeKids]; exact hvc)
noncomputable def c_impl_fileNames : Cfg := { P := Tryz.prog, T := tblGet tbl, pf := pfT, ef := efT, tt := ttT, vis := [4], n := 10, pm := false, wr := false }
noncomputable def s_impl_fileNames : List (Nat × LSpec) := []
def V_impl_fileNames (g : Int) (w : World) (R : Value → World → Prop) : Prop :=
    (∀ b wb, ExtX [] w wb → w.heap.size ≤ b → wb.heap[b]? = some (Obj.cells ([.string (ByteArray.mk [119, 101, 105, 103, 104, 116].toArray), .string (ByteArray.mk [109, 97, 120].toArray), .string (ByteArray.mk [99, 112, 117, 115].toArray), .string (ByteArray.mk [112, 114, 111, 99, 115].toArray), .string (ByteArray.mk [115, 116, 97, 116].toArray)] : List Value).toArray ty_string (0, 0)) → b ∉ ([] : List Nat) →
    ((g == 0) = true →
    (0 ≤ (3 : Int) ∧ (3 : Int) ≤ ((5 : Nat) : Int) ∧ ((5 : Nat) : Int) ≤ (5 : Int)) ∧
    (∀ wr, ExtX [] wb wr → R (.slice (if 5 = Int.toNat 3 then some (Addr.mk b 0 none) else (some (Addr.mk b 0 none)).map (·.add (Int.toNat 3 * 1))) (Int.toNat ((5 : Nat) : Int) - Int.toNat 3) (5 - Int.toNat 3)) wr)) ∧
    ((g == 0) = false →
    (∀ wr1, ExtX [] wb wr1 → R (.slice (some (Addr.mk b 0 none)) 5 5) wr1)))
theorem v_impl_fileNames (g : Int) (w : World) (R : Value → World → Prop) : evFn c_impl_fileNames s_impl_fileNames [.int .i64 g] (bodyOf Tryz.f64) Tryz.f64.results.toList w R = V_impl_fileNames g w R := by kernel_rfl
theorem e_impl_fileNames (g : Int) {w : World} {R : Value → World → Prop} (hvc : V_impl_fileNames g w R) : Calls Tryz.prog fn_impl_fileNames #[.int .i64 g] w fun e0 wr0 => ∃ v0, e0 = .returned v0 ∧ R v0 wr0 :=
  eff_of_ev (C := c_impl_fileNames) (sps := s_impl_fileNames) (body := bodyOf Tryz.f64) (env _ _ _ _) Tryz.func64 rfl rfl (of_decide_eq_true (by kernel_rfl)) (of_decide_eq_true (by kernel_rfl)) rfl (by rw [v_impl_fileNames]; exact hvc)
noncomputable def c_impl_FileList : Cfg := { P := Tryz.prog, T := tblGet tbl, pf := pfT, ef := efT, tt := ttT, vis := [2, 8], n := 54, pm := false, wr := false }
noncomputable def s_impl_FileList : List (Nat × LSpec) := [(8, { chg := [(29, .int .i64)], chgL := [], keep := [2, 6, 8, 27, 28] }), (13, { chg := [(45, .int .i64)], chgL := [], keep := [8, 43, 44] })]
def V_impl_FileList (w0 : Int) (w1O : Option Addr) (w1L : Nat) (w1C : Nat) (w2O : Option Addr) (w2L : Nat) (w2C : Nat) (w3O : Option Addr) (w3L : Nat) (w3C : Nat) (path : ByteArray) (w : World) (R : Value → World → Prop) : Prop :=
    (∀ b wb, ExtX [] w wb → w.heap.size ≤ b → wb.heap[b]? = some (Obj.cells ([.int .i64 w0, .slice w1O w1L w1C, .slice w2O w2L w2C, .slice w3O w3L w3C] : List Value).toArray ty_impl_World (0, 0)) → b ∉ ([] : List Nat) →
    (∃ (x0 : Int) (x1O : Option Addr) (x1L : Nat) (x1C : Nat) (x2O : Option Addr) (x2L : Nat) (x2C : Nat) (x3O : Option Addr) (x3L : Nat) (x3C : Nat),
    CellsX [] wb (some (Addr.mk b 0 none)) 0 [.int .i64 x0, .slice x1O x1L x1C, .slice x2O x2L x2C, .slice x3O x3L x3C] ∧
    (∃ (xWorldO : Bool),
    PureX [] Tryz.prog fn_impl_WorldOk #[.agg #[.int .i64 x0, .slice x1O x1L x1C, .slice x2O x2L x2C, .slice x3O x3L x3C]] wb (.bool xWorldO) ∧
    ((!xWorldO) = true →
    (∀ wr, ExtX [] wb wr → R (.tuple #[.string (ByteArray.mk [].toArray), .int .i64 1]) wr)) ∧
    ((!xWorldO) = false →
    (∃ (findGr : Int) (findGr1 : Int),
    PureX [] Tryz.prog fn_impl_findGroup #[.pointer ((some (Addr.mk b 0 none)).map (·.add 0)), .string path] wb (.tuple #[.int .i64 findGr, .int .i64 findGr1]) ∧
    ((findGr1 != 0) = true →
    (∀ wr1, ExtX [] wb wr1 → R (.tuple #[.string (ByteArray.mk [].toArray), .int .i64 findGr1]) wr1)) ∧
    ((findGr1 != 0) = false →
    (∀ b1 wb1, ExtX [] wb wb1 → wb.heap.size ≤ b1 → wb1.heap[b1]? = some (Obj.cells ([.pointer none, .slice none 0 0] : List Value).toArray ty_strings_Builder (0, 0)) → b1 ∉ ([] : List Nat) →
    (∃ (groupsO : Option Addr) (groupsL : Nat) (groupsC : Nat),
    CellsX [] wb1 (some (Addr.mk b 0 none)) (0 + 3) [.slice groupsO groupsL groupsC] ∧
    (∀ wr2, ExtX [] wb1 wr2 → (∀ bq ∈ ([] : List Nat), bq < wr2.heap.size) → 
    Calls Tryz.prog fn_impl_TreeKids #[.slice groupsO groupsL groupsC, .int .i64 findGr] wr2 fun e wv =>
    (∃ (xTreeKiO : Option Addr) (xTreeKiL : Nat) (xTreeKiC : Nat),
    e = .returned (.slice xTreeKiO xTreeKiL xTreeKiC) ∧ Kept [] wr2 wv ∧
    (∃ (xInv : List Value → World → Prop) (mu : List Value → World → Nat), (∀ wr3, ExtX [] wv wr3 → (∀ bq ∈ ([] : List Nat), bq < wr3.heap.size) → xInv [.int .i64 0] wr3) ∧
    ∀ (x : Int) wv1, (∀ bq ∈ ([] : List Nat), bq < wv1.heap.size) → xInv [.int .i64 x] wv1 →
    ((decide (x < ((xTreeKiL : Nat) : Int))) = true →
    Ix xTreeKiO xTreeKiL x ∧
    (∃ (x4 : Int),
    CellsX [] wv1 xTreeKiO (Int.toNat x * 1) [.int .i64 x4] ∧
    (∃ (groups1O : Option Addr) (groups1L : Nat) (groups1C : Nat),
    CellsX [] wv1 (some (Addr.mk b 0 none)) (0 + 3) [.slice groups1O groups1L groups1C] ∧
    Ix groups1O groups1L x4 ∧
    (∃ (name : ByteArray),
    CellsX [] wv1 groups1O (Int.toNat x4 * 14 + 2) [.string name] ∧
    name.size + (ByteArray.mk [47, 10].toArray).size ≤ 9223372036854775807 ∧
    (∀ wr4, ExtX [] wv1 wr4 → (∀ bq ∈ ([] : List Nat), bq < wr4.heap.size) → 
    Calls Tryz.prog fn_strings_Builder_WriteString #[.pointer ((some (Addr.mk b1 0 none)).map (·.add 0)), .string (name ++ (ByteArray.mk [47, 10].toArray))] wr4 fun e1 wv2 =>
    (∃ (xWriteS : Int) (xWriteS1 : Value),
    e1 = .returned (.tuple #[.int .i64 xWriteS, xWriteS1]) ∧ Kept [] wr4 wv2 ∧
    InR .i64 (x + 1) ∧
    (∀ wr5, ExtX [] wv2 wr5 → (∀ bq ∈ ([] : List Nat), bq < wr5.heap.size) → xInv [.int .i64 (x + 1)] wr5 ∧ mu [.int .i64 (x + 1)] wr5 < mu [.int .i64 x] wv1))))))) ∧
    ((decide (x < ((xTreeKiL : Nat) : Int))) = false →
    (∀ wr6, ExtX [] wv1 wr6 → (∀ bq ∈ ([] : List Nat), bq < wr6.heap.size) → 
    Calls Tryz.prog fn_impl_fileNames #[.int .i64 findGr] wr6 fun e2 wv3 =>
    (∃ (fileNaO : Option Addr) (fileNaL : Nat) (fileNaC : Nat),
    e2 = .returned (.slice fileNaO fileNaL fileNaC) ∧ Kept [] wr6 wv3 ∧
    (∃ (xInv1 : List Value → World → Prop) (mu1 : List Value → World → Nat), (∀ wr7, ExtX [] wv3 wr7 → (∀ bq ∈ ([] : List Nat), bq < wr7.heap.size) → xInv1 [.int .i64 0] wr7) ∧
    ∀ (x5 : Int) wv4, (∀ bq ∈ ([] : List Nat), bq < wv4.heap.size) → xInv1 [.int .i64 x5] wv4 →
    ((decide (x5 < ((fileNaL : Nat) : Int))) = true →
    Ix fileNaO fileNaL x5 ∧
    (∃ (x6 : ByteArray),
    CellsX [] wv4 fileNaO (Int.toNat x5 * 1) [.string x6] ∧
    x6.size + (ByteArray.mk [10].toArray).size ≤ 9223372036854775807 ∧
    (∀ wr8, ExtX [] wv4 wr8 → (∀ bq ∈ ([] : List Nat), bq < wr8.heap.size) → 
    Calls Tryz.prog fn_strings_Builder_WriteString #[.pointer ((some (Addr.mk b1 0 none)).map (·.add 0)), .string (x6 ++ (ByteArray.mk [10].toArray))] wr8 fun e3 wv5 =>
    (∃ (xWriteS2 : Int) (xWriteS3 : Value),
    e3 = .returned (.tuple #[.int .i64 xWriteS2, xWriteS3]) ∧ Kept [] wr8 wv5 ∧
    InR .i64 (x5 + 1) ∧
    (∀ wr9, ExtX [] wv5 wr9 → (∀ bq ∈ ([] : List Nat), bq < wr9.heap.size) → xInv1 [.int .i64 (x5 + 1)] wr9 ∧ mu1 [.int .i64 (x5 + 1)] wr9 < mu1 [.int .i64 x5] wv4))))) ∧
    ((decide (x5 < ((fileNaL : Nat) : Int))) = false →
    (∀ wr10, ExtX [] wv4 wr10 → (∀ bq ∈ ([] : List Nat), bq < wr10.heap.size) → 
    Calls Tryz.prog fn_strings_Builder_String #[.pointer ((some (Addr.mk b1 0 none)).map (·.add 0))] wr10 fun e4 wv6 =>
    (∃ (xString : ByteArray),
    e4 = .returned (.string xString) ∧ Kept [] wr10 wv6 ∧
    (∀ wr11, ExtX [] wv6 wr11 → R (.tuple #[.string xString, .int .i64 0]) wr11)))))))))))))))))))
theorem v_impl_FileList (w0 : Int) (w1O : Option Addr) (w1L : Nat) (w1C : Nat) (w2O : Option Addr) (w2L : Nat) (w2C : Nat) (w3O : Option Addr) (w3L : Nat) (w3C : Nat) (path : ByteArray) (w : World) (R : Value → World → Prop) : evFn c_impl_FileList s_impl_FileList [.agg #[.int .i64 w0, .slice w1O w1L w1C, .slice w2O w2L w2C, .slice w3O w3L w3C], .string path] (bodyOf Tryz.f24) Tryz.f24.results.toList w R = V_impl_FileList w0 w1O w1L w1C w2O w2L w2C w3O w3L w3C path w R := by kernel_rfl
theorem e_impl_FileList (w0 : Int) (w1O : Option Addr) (w1L : Nat) (w1C : Nat) (w2O : Option Addr) (w2L : Nat) (w2C : Nat) (w3O : Option Addr) (w3L : Nat) (w3C : Nat) (path : ByteArray) {w : World} {R : Value → World → Prop} (hvc : V_impl_FileList w0 w1O w1L w1C w2O w2L w2C w3O w3L w3C path w R) : Calls Tryz.prog fn_impl_FileList #[.agg #[.int .i64 w0, .slice w1O w1L w1C, .slice w2O w2L w2C, .slice w3O w3L w3C], .string path] w fun e0 wr0 => ∃ v0, e0 = .returned v0 ∧ R v0 wr0 :=
  eff_of_ev (C := c_impl_FileList) (sps := s_impl_FileList) (body := bodyOf Tryz.f24) (env _ _ _ _) Tryz.func24 rfl rfl (of_decide_eq_true (by kernel_rfl)) (of_decide_eq_true (by kernel_rfl)) rfl (by rw [v_impl_FileList]; exact hvc)
noncomputable def c_laws_FnExactFileList : Cfg := { P := Tryz.prog, T := tblGet tbl, pf := pfT, ef := efT, tt := ttT, vis := [], n := 47, pm := false, wr := false }
noncomputable def s_laws_FnExactFileList : List (Nat × LSpec) := []
def V_laws_FnExactFileList (aW0 : Int) (aW1O : Option Addr) (aW1L : Nat) (aW1C : Nat) (aW2O : Option Addr) (aW2L : Nat) (aW2C : Nat) (aW3O : Option Addr) (aW3L : Nat) (aW3C : Nat) (aPath : ByteArray) (w : World) (R : Value → World → Prop) : Prop :=
    (∀ b, w.heap.size ≤ b →
    ((decide ((aPath.size : Int) > 1048576)) = true →
    (∀ wr, ExtX [] w wr → R (.bool true) wr)) ∧
    ((decide ((aPath.size : Int) > 1048576)) = false →
    (∃ (szWorl : Int),
    PureX [] Tryz.prog fn_laws_szWorld #[.agg #[.int .i64 aW0, .slice aW1O aW1L aW1C, .slice aW2O aW2L aW2C, .slice aW3O aW3L aW3C], .int .i64 1048576] w (.int .i64 szWorl) ∧
    ((decide (szWorl < 0)) = true →
    (∀ wr1, ExtX [] w wr1 → R (.bool true) wr1)) ∧
    ((decide (szWorl < 0)) = false →
    (∀ wr2, ExtX [] w wr2 → (∀ bq ∈ ([b] : List Nat), bq < wr2.heap.size) → 
    Calls Tryz.prog fn_laws_toWorld #[.agg #[.int .i64 aW0, .slice aW1O aW1L aW1C, .slice aW2O aW2L aW2C, .slice aW3O aW3L aW3C]] wr2 fun e wv =>
    (∃ (toWorl : Int) (toWorl1O : Option Addr) (toWorl1L : Nat) (toWorl1C : Nat) (toWorl2O : Option Addr) (toWorl2L : Nat) (toWorl2C : Nat) (toWorl3O : Option Addr) (toWorl3L : Nat) (toWorl3C : Nat),
    e = .returned (.agg #[.int .i64 toWorl, .slice toWorl1O toWorl1L toWorl1C, .slice toWorl2O toWorl2L toWorl2C, .slice toWorl3O toWorl3L toWorl3C]) ∧ Kept [b] wr2 wv ∧
    (∀ wr3, ExtX [b] wv wr3 → (∀ bq ∈ ([b] : List Nat), bq < wr3.heap.size) → 
    Calls Tryz.prog fn_spec_FileList #[.agg #[.int .i64 toWorl, .slice toWorl1O toWorl1L toWorl1C, .slice toWorl2O toWorl2L toWorl2C, .slice toWorl3O toWorl3L toWorl3C], .string aPath] wr3 fun e1 wv1 =>
    (∃ (xFileLi : ByteArray) (xFileLi1 : Int),
    e1 = .returned (.tuple #[.string xFileLi, .int .i64 xFileLi1]) ∧ Kept [b] wr3 wv1 ∧
    (∀ wr4, ExtX [b] wv1 wr4 → (∀ bq ∈ ([b] : List Nat), bq < wr4.heap.size) → 
    Calls Tryz.prog fn_laws_toWorld #[.agg #[.int .i64 aW0, .slice aW1O aW1L aW1C, .slice aW2O aW2L aW2C, .slice aW3O aW3L aW3C]] wr4 fun e2 wv2 =>
    (∃ (toWorl4 : Int) (toWorl5O : Option Addr) (toWorl5L : Nat) (toWorl5C : Nat) (toWorl6O : Option Addr) (toWorl6L : Nat) (toWorl6C : Nat) (toWorl7O : Option Addr) (toWorl7L : Nat) (toWorl7C : Nat),
    e2 = .returned (.agg #[.int .i64 toWorl4, .slice toWorl5O toWorl5L toWorl5C, .slice toWorl6O toWorl6L toWorl6C, .slice toWorl7O toWorl7L toWorl7C]) ∧ Kept [b] wr4 wv2 ∧
    (∀ b1, wv2.heap.size ≤ b1 →
    (∀ wr5, ExtX [b] wv2 wr5 → (∀ bq ∈ ([b, b1] : List Nat), bq < wr5.heap.size) → 
    Calls Tryz.prog fn_impl_FileList #[.agg #[.int .i64 toWorl4, .slice toWorl5O toWorl5L toWorl5C, .slice toWorl6O toWorl6L toWorl6C, .slice toWorl7O toWorl7L toWorl7C], .string aPath] wr5 fun e3 wv3 =>
    (∃ (xFileLi2 : ByteArray) (xFileLi3 : Int),
    e3 = .returned (.tuple #[.string xFileLi2, .int .i64 xFileLi3]) ∧ Kept [b, b1] wr5 wv3 ∧
    (((!strEq xFileLi2 xFileLi) || (xFileLi3 != xFileLi1)) = true →
    (∀ wr6, ExtX [b, b1] wv3 wr6 → R (.bool false) wr6)) ∧
    (((!strEq xFileLi2 xFileLi) || (xFileLi3 != xFileLi1)) = false →
    (∀ wr7, ExtX [b, b1] wv3 wr7 → (∀ bq ∈ ([b, b1] : List Nat), bq < wr7.heap.size) → 
    Calls Tryz.prog fn_laws_toWorld #[.agg #[.int .i64 aW0, .slice aW1O aW1L aW1C, .slice aW2O aW2L aW2C, .slice aW3O aW3L aW3C]] wr7 fun e4 wv4 =>
    (∃ (toWorl8 : Int) (toWorl9O : Option Addr) (toWorl9L : Nat) (toWorl9C : Nat) (toWorl10O : Option Addr) (toWorl10L : Nat) (toWorl10C : Nat) (toWorl11O : Option Addr) (toWorl11L : Nat) (toWorl11C : Nat),
    e4 = .returned (.agg #[.int .i64 toWorl8, .slice toWorl9O toWorl9L toWorl9C, .slice toWorl10O toWorl10L toWorl10C, .slice toWorl11O toWorl11L toWorl11C]) ∧ Kept [b, b1] wr7 wv4 ∧
    (some (ty_impl_World, ([.int .i64 toWorl4, .slice toWorl5O toWorl5L toWorl5C, .slice toWorl6O toWorl6L toWorl6C, .slice toWorl7O toWorl7L toWorl7C] : List Value)) = some (ty_impl_World, ([.int .i64 toWorl4, .slice toWorl5O toWorl5L toWorl5C, .slice toWorl6O toWorl6L toWorl6C, .slice toWorl7O toWorl7L toWorl7C] : List Value))) ∧
    (∃ (eqWorl : Bool),
    PureX [b, b1] Tryz.prog fn_laws_eqWorld #[.agg #[.int .i64 toWorl4, .slice toWorl5O toWorl5L toWorl5C, .slice toWorl6O toWorl6L toWorl6C, .slice toWorl7O toWorl7L toWorl7C], .agg #[.int .i64 toWorl8, .slice toWorl9O toWorl9L toWorl9C, .slice toWorl10O toWorl10L toWorl10C, .slice toWorl11O toWorl11L toWorl11C]] wv4 (.bool eqWorl) ∧
    ((!eqWorl) = true →
    (∀ wr8, ExtX [b, b1] wv4 wr8 → R (.bool false) wr8)) ∧
    ((!eqWorl) = false →
    (∀ wr9, ExtX [b, b1] wv4 wr9 → R (.bool true) wr9)))))))))))))))))))
theorem v_laws_FnExactFileList (aW0 : Int) (aW1O : Option Addr) (aW1L : Nat) (aW1C : Nat) (aW2O : Option Addr) (aW2L : Nat) (aW2C : Nat) (aW3O : Option Addr) (aW3L : Nat) (aW3C : Nat) (aPath : ByteArray) (w : World) (R : Value → World → Prop) : evFn c_laws_FnExactFileList s_laws_FnExactFileList [.agg #[.int .i64 aW0, .slice aW1O aW1L aW1C, .slice aW2O aW2L aW2C, .slice aW3O aW3L aW3C], .string aPath] (bodyOf Tryz.f7) Tryz.f7.results.toList w R = V_laws_FnExactFileList aW0 aW1O aW1L aW1C aW2O aW2L aW2C aW3O aW3L aW3C aPath w R := by kernel_rfl
theorem e_laws_FnExactFileList (aW0 : Int) (aW1O : Option Addr) (aW1L : Nat) (aW1C : Nat) (aW2O : Option Addr) (aW2L : Nat) (aW2C : Nat) (aW3O : Option Addr) (aW3L : Nat) (aW3C : Nat) (aPath : ByteArray) {w : World} {R : Value → World → Prop} (hvc : V_laws_FnExactFileList aW0 aW1O aW1L aW1C aW2O aW2L aW2C aW3O aW3L aW3C aPath w R) : Calls Tryz.prog fn_laws_FnExactFileList #[.agg #[.int .i64 aW0, .slice aW1O aW1L aW1C, .slice aW2O aW2L aW2C, .slice aW3O aW3L aW3C], .string aPath] w fun e0 wr0 => ∃ v0, e0 = .returned v0 ∧ R v0 wr0 :=
  eff_of_ev (C := c_laws_FnExactFileList) (sps := s_laws_FnExactFileList) (body := bodyOf Tryz.f7) (env _ _ _ _) Tryz.func7 rfl rfl (of_decide_eq_true (by kernel_rfl)) (of_decide_eq_true (by kernel_rfl)) rfl (by rw [v_laws_FnExactFileList]; exact hvc)
noncomputable def c_spec_l9Up : Cfg := { P := Tryz.prog, T := tblGet tbl, pf := pfT, ef := efT, tt := ttT, vis := [], n := 19, pm := true, wr := false }
noncomputable def s_spec_l9Up : List (Nat × LSpec) := []
def V_spec_l9Up (w0 : Int) (w1O : Option Addr) (w1L : Nat) (w1C : Nat) (w2O : Option Addr) (w2L : Nat) (w2C : Nat) (w3O : Option Addr) (w3L : Nat) (w3C : Nat) (c : Int) (w : World) (R : Value → World → Prop) : Prop :=
    (∀ b, w.heap.size ≤ b →
    InR .i64 (((w1L : Nat) : Int) - 1) ∧
    (∃ (l1In : Bool),
    PureX [] Tryz.prog fn_spec_l1In #[.int .i64 c, .int .i64 0, .int .i64 (((w1L : Nat) : Int) - 1)] w (.bool l1In) ∧
    (l1In = true → Ix w1O w1L c) ∧
    (∃ (up : Bool),
    (l1In = true → CellsX [] w w1O (Int.toNat c * 5 + 0) [.bool up]) ∧
    R (.bool (l1In && up)) w)))
theorem v_spec_l9Up (w0 : Int) (w1O : Option Addr) (w1L : Nat) (w1C : Nat) (w2O : Option Addr) (w2L : Nat) (w2C : Nat) (w3O : Option Addr) (w3L : Nat) (w3C : Nat) (c : Int) (w : World) (R : Value → World → Prop) : evFn c_spec_l9Up s_spec_l9Up [.agg #[.int .i64 w0, .slice w1O w1L w1C, .slice w2O w2L w2C, .slice w3O w3L w3C], .int .i64 c] (bodyOf Tryz.f66) Tryz.f66.results.toList w R = V_spec_l9Up w0 w1O w1L w1C w2O w2L w2C w3O w3L w3C c w R := by kernel_rfl
theorem p_spec_l9Up (w0 : Int) (w1O : Option Addr) (w1L : Nat) (w1C : Nat) (w2O : Option Addr) (w2L : Nat) (w2C : Nat) (w3O : Option Addr) (w3L : Nat) (w3C : Nat) (c : Int) {w : World} {bs : List Nat} {ret : Value} (hvc : ∀ wr0, ExtX bs w wr0 → V_spec_l9Up w0 w1O w1L w1C w2O w2L w2C w3O w3L w3C c wr0 fun v0 _ => v0 = ret) : PureX bs Tryz.prog fn_spec_l9Up #[.agg #[.int .i64 w0, .slice w1O w1L w1C, .slice w2O w2L w2C, .slice w3O w3L w3C], .int .i64 c] w ret :=
  pure_of_ev (C := c_spec_l9Up) (sps := s_spec_l9Up) (body := bodyOf Tryz.f66) (env _ _ _ _) Tryz.func66 rfl rfl (of_decide_eq_true (by kernel_rfl)) (of_decide_eq_true (by kernel_rfl)) rfl fun wr0 hx0 => by rw [v_spec_l9Up]; exact hvc wr0 hx0
noncomputable def c_spec_DomainLevels : Cfg := { P := Tryz.prog, T := tblGet tbl, pf := pfT, ef := efT, tt := ttT, vis := [], n := 15, pm := true, wr := false }
noncomputable def s_spec_DomainLevels : List (Nat × LSpec) := [(4, { chg := [(3, .int .i64)], chgL := [], keep := [0] })]
def V_spec_DomainLevels (cpus : Int) (w : World) (R : Value → World → Prop) : Prop :=
    (∃ (l1In : Bool),
    PureX [] Tryz.prog fn_spec_l1In #[.int .i64 cpus, .int .i64 1, .int .i64 4] w (.bool l1In) ∧
    ((!l1In) = true →
    R (.int .i64 0) w) ∧
    ((!l1In) = false →
    (∃ (xInv : List Value → Prop) (mu : List Value → Nat), xInv [.int .i64 0] ∧
    ∀ (n : Int), xInv [.int .i64 n] →
    InR .u64 n ∧
    (0 ≤ n ∧ InR .i64 (1 * 2 ^ (min (Int.toNat n) 64))) ∧
    ((decide (1 * 2 ^ (min (Int.toNat n) 64) < cpus)) = true →
    InR .i64 (n + 1) ∧
    xInv [.int .i64 (n + 1)] ∧ mu [.int .i64 (n + 1)] < mu [.int .i64 n]) ∧
    ((decide (1 * 2 ^ (min (Int.toNat n) 64) < cpus)) = false →
    R (.int .i64 n) w))))
theorem v_spec_DomainLevels (cpus : Int) (w : World) (R : Value → World → Prop) : evFn c_spec_DomainLevels s_spec_DomainLevels [.int .i64 cpus] (bodyOf Tryz.f67) Tryz.f67.results.toList w R = V_spec_DomainLevels cpus w R := by kernel_rfl
theorem p_spec_DomainLevels (cpus : Int) {w : World} {bs : List Nat} {ret : Value} (hvc : ∀ wr0, ExtX bs w wr0 → V_spec_DomainLevels cpus wr0 fun v0 _ => v0 = ret) : PureX bs Tryz.prog fn_spec_DomainLevels #[.int .i64 cpus] w ret :=
  pure_of_ev (C := c_spec_DomainLevels) (sps := s_spec_DomainLevels) (body := bodyOf Tryz.f67) (env _ _ _ _) Tryz.func67 rfl rfl (of_decide_eq_true (by kernel_rfl)) (of_decide_eq_true (by kernel_rfl)) rfl fun wr0 hx0 => by rw [v_spec_DomainLevels]; exact hvc wr0 hx0
noncomputable def c_spec_l9Groups : Cfg := { P := Tryz.prog, T := tblGet tbl, pf := pfT, ef := efT, tt := ttT, vis := [], n := 28, pm := false, wr := false }
noncomputable def s_spec_l9Groups : List (Nat × LSpec) := [(3, { chg := [(5, .int .i64), (6, .slice)], chgL := [], keep := [2] })]
def V_spec_l9Groups (w0 : Int) (w1O : Option Addr) (w1L : Nat) (w1C : Nat) (w2O : Option Addr) (w2L : Nat) (w2C : Nat) (w3O : Option Addr) (w3L : Nat) (w3C : Nat) (t : Int) (w : World) (R : Value → World → Prop) : Prop :=
    (∀ b, w.heap.size ≤ b →
    Ix w2O w2L t ∧
    (∃ (group : Int),
    CellsX [] w w2O (Int.toNat t * 9 + 1) [.int .i64 group] ∧
    (∀ b1, w.heap.size ≤ b1 →
    (∃ (xInv : List Value → World → Prop) (mu : List Value → World → Nat), (∀ wr, ExtX [] w wr → (∀ bq ∈ ([b, b1] : List Nat), bq < wr.heap.size) → xInv [.int .i64 group, .slice (some (Addr.mk b1 0 none)) 1 1] wr) ∧
    ∀ (g : Int) (outO : Option Addr) (outL : Nat) (outC : Nat) wv, (∀ bq ∈ ([b, b1] : List Nat), bq < wv.heap.size) → xInv [.int .i64 g, .slice outO outL outC] wv →
    ((g != 0) = true →
    Ix w3O w3L g ∧
    (∃ (parent : Int),
    CellsX [b, b1] wv w3O (Int.toNat g * 14 + 1) [.int .i64 parent] ∧
    (∀ b2, wv.heap.size ≤ b2 →
    (∀ wr1, ExtX [b, b1] wv wr1 → (∀ bq ∈ ([b, b1, b2] : List Nat), bq < wr1.heap.size) → wr1.heap[b2]? = some (Obj.cells ([.int .i64 parent] : List Value).toArray ty_int (0, 0)) → 
    (∃ (apO : Option Addr) (apL : Nat) (apC : Nat),
    ∃ wv1, (builtin .append #[ty_sl_int, ty_sl_int] ty_sl_int #[false, false] #[.slice outO outL outC, .slice (some (Addr.mk b2 0 none)) 1 1]).run Tryz.prog wr1 = .ok (.value (.slice apO apL apC)) wv1 ∧ Kept [b, b1, b2] wr1 wv1 ∧
    (∀ wr2, ExtX [b, b1, b2] wv1 wr2 → (∀ bq ∈ ([b, b1, b2] : List Nat), bq < wr2.heap.size) → xInv [.int .i64 parent, .slice apO apL apC] wr2 ∧ mu [.int .i64 parent, .slice apO apL apC] wr2 < mu [.int .i64 g, .slice outO outL outC] wv)))))) ∧
    ((g != 0) = false →
    (∀ wr3, ExtX [b, b1] wv wr3 → R (.slice outO outL outC) wr3))))))
theorem v_spec_l9Groups (w0 : Int) (w1O : Option Addr) (w1L : Nat) (w1C : Nat) (w2O : Option Addr) (w2L : Nat) (w2C : Nat) (w3O : Option Addr) (w3L : Nat) (w3C : Nat) (t : Int) (w : World) (R : Value → World → Prop) : evFn c_spec_l9Groups s_spec_l9Groups [.agg #[.int .i64 w0, .slice w1O w1L w1C, .slice w2O w2L w2C, .slice w3O w3L w3C], .int .i64 t] (bodyOf Tryz.f169) Tryz.f169.results.toList w R = V_spec_l9Groups w0 w1O w1L w1C w2O w2L w2C w3O w3L w3C t w R := by kernel_rfl
theorem e_spec_l9Groups (w0 : Int) (w1O : Option Addr) (w1L : Nat) (w1C : Nat) (w2O : Option Addr) (w2L : Nat) (w2C : Nat) (w3O : Option Addr) (w3L : Nat) (w3C : Nat) (t : Int) {w : World} {R : Value → World → Prop} (hvc : V_spec_l9Groups w0 w1O w1L w1C w2O w2L w2C w3O w3L w3C t w R) : Calls Tryz.prog fn_spec_l9Groups #[.agg #[.int .i64 w0, .slice w1O w1L w1C, .slice w2O w2L w2C, .slice w3O w3L w3C], .int .i64 t] w fun e0 wr0 => ∃ v0, e0 = .returned v0 ∧ R v0 wr0 :=
  eff_of_ev (C := c_spec_l9Groups) (sps := s_spec_l9Groups) (body := bodyOf Tryz.f169) (env _ _ _ _) Tryz.func169 rfl rfl (of_decide_eq_true (by kernel_rfl)) (of_decide_eq_true (by kernel_rfl)) rfl (by rw [v_spec_l9Groups]; exact hvc)
noncomputable def c_spec_l12Could : Cfg := { P := Tryz.prog, T := tblGet tbl, pf := pfT, ef := efT, tt := ttT, vis := [], n := 68, pm := false, wr := false }
noncomputable def s_spec_l12Could : List (Nat × LSpec) := [(6, { chg := [(9, .int .i64)], chgL := [], keep := [2, 3, 8] })]
def V_spec_l12Could (w0 : Int) (w1O : Option Addr) (w1L : Nat) (w1C : Nat) (w2O : Option Addr) (w2L : Nat) (w2C : Nat) (w3O : Option Addr) (w3L : Nat) (w3C : Nat) (t : Int) (c : Int) (w : World) (R : Value → World → Prop) : Prop :=
    (∀ b, w.heap.size ≤ b →
    Ix w2O w2L t ∧
    (∃ (x0 : Int) (x1 : Int) (x2 : Int) (x3 : Int) (x4 : Int) (x5 : Int) (x6 : Int) (x7 : Int) (x8 : Int),
    CellsX [] w w2O (Int.toNat t * 9) [.int .i64 x0, .int .i64 x1, .int .i64 x2, .int .i64 x3, .int .i64 x4, .int .i64 x5, .int .i64 x6, .int .i64 x7, .int .i64 x8] ∧
    (∀ b1, w.heap.size ≤ b1 →
    (((x0 != 1) || (x2 == c)) = false → Ix w1O w1L x2) ∧
    (∃ (cur : Int),
    (((x0 != 1) || (x2 == c)) = false → CellsX [] w w1O (Int.toNat x2 * 5 + 1) [.int .i64 cur]) ∧
    (∃ (l8InLi : Bool),
    ((((x0 != 1) || (x2 == c)) || (cur == t)) = false → PureX [] Tryz.prog fn_spec_l8InLine #[.agg #[.int .i64 w0, .slice w1O w1L w1C, .slice w2O w2L w2C, .slice w3O w3L w3C], .int .i64 t] w (.bool l8InLi)) ∧
    (∃ (l8Wher : Int),
    (((((x0 != 1) || (x2 == c)) || (cur == t)) || (!l8InLi)) = false → PureX [] Tryz.prog fn_spec_l8Where #[.agg #[.int .i64 w0, .slice w1O w1L w1C, .slice w2O w2L w2C, .slice w3O w3L w3C], .int .i64 x1, .int .i64 x4] w (.int .i64 l8Wher)) ∧
    (∃ (xMaskHa : Bool),
    (((((x0 != 1) || (x2 == c)) || (cur == t)) || (!l8InLi)) = false → PureX [] Tryz.prog fn_spec_MaskHas #[.int .i64 l8Wher, .int .i64 c] w (.bool xMaskHa)) ∧
    ((((((x0 != 1) || (x2 == c)) || (cur == t)) || (!l8InLi)) || (!xMaskHa)) = true →
    (∀ wr, ExtX [] w wr → R (.bool false) wr)) ∧
    ((((((x0 != 1) || (x2 == c)) || (cur == t)) || (!l8InLi)) || (!xMaskHa)) = false →
    (∀ wr1, ExtX [] w wr1 → (∀ bq ∈ ([b, b1] : List Nat), bq < wr1.heap.size) → 
    Calls Tryz.prog fn_spec_l9Groups #[.agg #[.int .i64 w0, .slice w1O w1L w1C, .slice w2O w2L w2C, .slice w3O w3L w3C], .int .i64 t] wr1 fun e wv =>
    (∃ (l9GrouO : Option Addr) (l9GrouL : Nat) (l9GrouC : Nat),
    e = .returned (.slice l9GrouO l9GrouL l9GrouC) ∧ Kept [b, b1] wr1 wv ∧
    (∃ (xInv : List Value → World → Prop) (mu : List Value → World → Nat), (∀ wr2, ExtX [b, b1] wv wr2 → (∀ bq ∈ ([b, b1] : List Nat), bq < wr2.heap.size) → xInv [.int .i64 0] wr2) ∧
    ∀ (i : Int) wv1, (∀ bq ∈ ([b, b1] : List Nat), bq < wv1.heap.size) → xInv [.int .i64 i] wv1 →
    ((decide (i < ((l9GrouL : Nat) : Int))) = true →
    Ix l9GrouO l9GrouL i ∧
    (∃ (x : Int),
    CellsX [b, b1] wv1 l9GrouO (Int.toNat i * 1) [.int .i64 x] ∧
    (∃ (l8Dry : Bool),
    PureX [b, b1] Tryz.prog fn_spec_l8Dry #[.agg #[.int .i64 w0, .slice w1O w1L w1C, .slice w2O w2L w2C, .slice w3O w3L w3C], .int .i64 x, .int .i64 c] wv1 (.bool l8Dry) ∧
    (l8Dry = true →
    (∀ wr3, ExtX [b, b1] wv1 wr3 → R (.bool false) wr3)) ∧
    (l8Dry = false →
    InR .i64 (i + 1) ∧
    (∀ wr4, ExtX [b, b1] wv1 wr4 → (∀ bq ∈ ([b, b1] : List Nat), bq < wr4.heap.size) → xInv [.int .i64 (i + 1)] wr4 ∧ mu [.int .i64 (i + 1)] wr4 < mu [.int .i64 i] wv1))))) ∧
    ((decide (i < ((l9GrouL : Nat) : Int))) = false →
    (∀ wr5, ExtX [b, b1] wv1 wr5 → R (.bool true) wr5)))))))))))))
theorem v_spec_l12Could (w0 : Int) (w1O : Option Addr) (w1L : Nat) (w1C : Nat) (w2O : Option Addr) (w2L : Nat) (w2C : Nat) (w3O : Option Addr) (w3L : Nat) (w3C : Nat) (t : Int) (c : Int) (w : World) (R : Value → World → Prop) : evFn c_spec_l12Could s_spec_l12Could [.agg #[.int .i64 w0, .slice w1O w1L w1C, .slice w2O w2L w2C, .slice w3O w3L w3C], .int .i64 t, .int .i64 c] (bodyOf Tryz.f114) Tryz.f114.results.toList w R = V_spec_l12Could w0 w1O w1L w1C w2O w2L w2C w3O w3L w3C t c w R := by kernel_rfl
theorem e_spec_l12Could (w0 : Int) (w1O : Option Addr) (w1L : Nat) (w1C : Nat) (w2O : Option Addr) (w2L : Nat) (w2C : Nat) (w3O : Option Addr) (w3L : Nat) (w3C : Nat) (t : Int) (c : Int) {w : World} {R : Value → World → Prop} (hvc : V_spec_l12Could w0 w1O w1L w1C w2O w2L w2C w3O w3L w3C t c w R) : Calls Tryz.prog fn_spec_l12Could #[.agg #[.int .i64 w0, .slice w1O w1L w1C, .slice w2O w2L w2C, .slice w3O w3L w3C], .int .i64 t, .int .i64 c] w fun e0 wr0 => ∃ v0, e0 = .returned v0 ∧ R v0 wr0 :=
  eff_of_ev (C := c_spec_l12Could) (sps := s_spec_l12Could) (body := bodyOf Tryz.f114) (env _ _ _ _) Tryz.func114 rfl rfl (of_decide_eq_true (by kernel_rfl)) (of_decide_eq_true (by kernel_rfl)) rfl (by rw [v_spec_l12Could]; exact hvc)
end Go.Proofs.YthojnihahmlboaaGreat
