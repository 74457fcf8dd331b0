/- Printed by wip/tools/vc.py: what a function's text asks for. -/
import Derived.Test.YthojnihahmlboaaGreatTab
namespace Go.Proofs.YthojnihahmlboaaGreat
open Go.RowKit
set_option linter.unusedVariables false
set_option maxRecDepth 100000
set_option maxHeartbeats 1600000
noncomputable def c_laws_szCpuS : Cfg := { P := Tryz.prog, T := tblGet tbl, pf := pfT, ef := efT, tt := ttT, vis := [], n := 12, pm := true, wr := false }
noncomputable def s_laws_szCpuS : List (Nat × LSpec) := []
def V_laws_szCpuS (aO : Option Addr) (aL : Nat) (aC : Nat) (leftv : Int) (w : World) (R : Value → World → Prop) : Prop :=
    InR .i64 (leftv - ((aL : Nat) : Int)) ∧
    ((decide (leftv - ((aL : Nat) : Int) < 0)) = true →
    R (.int .i64 (-1)) w) ∧
    ((decide (leftv - ((aL : Nat) : Int) < 0)) = false →
    R (.int .i64 (leftv - ((aL : Nat) : Int))) w)
theorem v_laws_szCpuS (aO : Option Addr) (aL : Nat) (aC : Nat) (leftv : Int) (w : World) (R : Value → World → Prop) : evFn c_laws_szCpuS s_laws_szCpuS [.slice aO aL aC, .int .i64 leftv] (bodyOf Tryz.f33) Tryz.f33.results.toList w R = V_laws_szCpuS aO aL aC leftv w R := by kernel_rfl
theorem p_laws_szCpuS (aO : Option Addr) (aL : Nat) (aC : Nat) (leftv : Int) {w : World} {bs : List Nat} {ret : Value} (hvc : ∀ wr0, ExtX bs w wr0 → V_laws_szCpuS aO aL aC leftv wr0 fun v0 _ => v0 = ret) : PureX bs Tryz.prog fn_laws_szCpuS #[.slice aO aL aC, .int .i64 leftv] w ret :=
  pure_of_ev (C := c_laws_szCpuS) (sps := s_laws_szCpuS) (body := bodyOf Tryz.f33) (env _ _ _ _) Tryz.func33 rfl rfl (of_decide_eq_true (by kernel_rfl)) (of_decide_eq_true (by kernel_rfl)) rfl fun wr0 hx0 => by rw [v_laws_szCpuS]; exact hvc wr0 hx0
noncomputable def c_laws_szTaskS : Cfg := { P := Tryz.prog, T := tblGet tbl, pf := pfT, ef := efT, tt := ttT, vis := [], n := 12, pm := true, wr := false }
noncomputable def s_laws_szTaskS : List (Nat × LSpec) := []
def V_laws_szTaskS (aO : Option Addr) (aL : Nat) (aC : Nat) (leftv : Int) (w : World) (R : Value → World → Prop) : Prop :=
    InR .i64 (leftv - ((aL : Nat) : Int)) ∧
    ((decide (leftv - ((aL : Nat) : Int) < 0)) = true →
    R (.int .i64 (-1)) w) ∧
    ((decide (leftv - ((aL : Nat) : Int) < 0)) = false →
    R (.int .i64 (leftv - ((aL : Nat) : Int))) w)
theorem v_laws_szTaskS (aO : Option Addr) (aL : Nat) (aC : Nat) (leftv : Int) (w : World) (R : Value → World → Prop) : evFn c_laws_szTaskS s_laws_szTaskS [.slice aO aL aC, .int .i64 leftv] (bodyOf Tryz.f34) Tryz.f34.results.toList w R = V_laws_szTaskS aO aL aC leftv w R := by kernel_rfl
theorem p_laws_szTaskS (aO : Option Addr) (aL : Nat) (aC : Nat) (leftv : Int) {w : World} {bs : List Nat} {ret : Value} (hvc : ∀ wr0, ExtX bs w wr0 → V_laws_szTaskS aO aL aC leftv wr0 fun v0 _ => v0 = ret) : PureX bs Tryz.prog fn_laws_szTaskS #[.slice aO aL aC, .int .i64 leftv] w ret :=
  pure_of_ev (C := c_laws_szTaskS) (sps := s_laws_szTaskS) (body := bodyOf Tryz.f34) (env _ _ _ _) Tryz.func34 rfl rfl (of_decide_eq_true (by kernel_rfl)) (of_decide_eq_true (by kernel_rfl)) rfl fun wr0 hx0 => by rw [v_laws_szTaskS]; exact hvc wr0 hx0
noncomputable def c_laws_szIntS : Cfg := { P := Tryz.prog, T := tblGet tbl, pf := pfT, ef := efT, tt := ttT, vis := [], n := 12, pm := true, wr := false }
noncomputable def s_laws_szIntS : List (Nat × LSpec) := []
def V_laws_szIntS (aO : Option Addr) (aL : Nat) (aC : Nat) (leftv : Int) (w : World) (R : Value → World → Prop) : Prop :=
    InR .i64 (leftv - ((aL : Nat) : Int)) ∧
    ((decide (leftv - ((aL : Nat) : Int) < 0)) = true →
    R (.int .i64 (-1)) w) ∧
    ((decide (leftv - ((aL : Nat) : Int) < 0)) = false →
    R (.int .i64 (leftv - ((aL : Nat) : Int))) w)
theorem v_laws_szIntS (aO : Option Addr) (aL : Nat) (aC : Nat) (leftv : Int) (w : World) (R : Value → World → Prop) : evFn c_laws_szIntS s_laws_szIntS [.slice aO aL aC, .int .i64 leftv] (bodyOf Tryz.f177) Tryz.f177.results.toList w R = V_laws_szIntS aO aL aC leftv w R := by kernel_rfl
theorem p_laws_szIntS (aO : Option Addr) (aL : Nat) (aC : Nat) (leftv : Int) {w : World} {bs : List Nat} {ret : Value} (hvc : ∀ wr0, ExtX bs w wr0 → V_laws_szIntS aO aL aC leftv wr0 fun v0 _ => v0 = ret) : PureX bs Tryz.prog fn_laws_szIntS #[.slice aO aL aC, .int .i64 leftv] w ret :=
  pure_of_ev (C := c_laws_szIntS) (sps := s_laws_szIntS) (body := bodyOf Tryz.f177) (env _ _ _ _) Tryz.func177 rfl rfl (of_decide_eq_true (by kernel_rfl)) (of_decide_eq_true (by kernel_rfl)) rfl fun wr0 hx0 => by rw [v_laws_szIntS]; exact hvc wr0 hx0
noncomputable def c_laws_szBoolS : Cfg := { P := Tryz.prog, T := tblGet tbl, pf := pfT, ef := efT, tt := ttT, vis := [], n := 12, pm := true, wr := false }
noncomputable def s_laws_szBoolS : List (Nat × LSpec) := []
def V_laws_szBoolS (aO : Option Addr) (aL : Nat) (aC : Nat) (leftv : Int) (w : World) (R : Value → World → Prop) : Prop :=
    InR .i64 (leftv - ((aL : Nat) : Int)) ∧
    ((decide (leftv - ((aL : Nat) : Int) < 0)) = true →
    R (.int .i64 (-1)) w) ∧
    ((decide (leftv - ((aL : Nat) : Int) < 0)) = false →
    R (.int .i64 (leftv - ((aL : Nat) : Int))) w)
theorem v_laws_szBoolS (aO : Option Addr) (aL : Nat) (aC : Nat) (leftv : Int) (w : World) (R : Value → World → Prop) : evFn c_laws_szBoolS s_laws_szBoolS [.slice aO aL aC, .int .i64 leftv] (bodyOf Tryz.f178) Tryz.f178.results.toList w R = V_laws_szBoolS aO aL aC leftv w R := by kernel_rfl
theorem p_laws_szBoolS (aO : Option Addr) (aL : Nat) (aC : Nat) (leftv : Int) {w : World} {bs : List Nat} {ret : Value} (hvc : ∀ wr0, ExtX bs w wr0 → V_laws_szBoolS aO aL aC leftv wr0 fun v0 _ => v0 = ret) : PureX bs Tryz.prog fn_laws_szBoolS #[.slice aO aL aC, .int .i64 leftv] w ret :=
  pure_of_ev (C := c_laws_szBoolS) (sps := s_laws_szBoolS) (body := bodyOf Tryz.f178) (env _ _ _ _) Tryz.func178 rfl rfl (of_decide_eq_true (by kernel_rfl)) (of_decide_eq_true (by kernel_rfl)) rfl fun wr0 hx0 => by rw [v_laws_szBoolS]; exact hvc wr0 hx0
noncomputable def c_laws_szBand : Cfg := { P := Tryz.prog, T := tblGet tbl, pf := pfT, ef := efT, tt := ttT, vis := [], n := 18, pm := true, wr := false }
noncomputable def s_laws_szBand : List (Nat × LSpec) := []
def V_laws_szBand (a0 : Int) (a1 : Int) (a2 : Int) (a3O : Option Addr) (a3L : Nat) (a3C : Nat) (a4O : Option Addr) (a4L : Nat) (a4C : Nat) (leftv : Int) (w : World) (R : Value → World → Prop) : Prop :=
    (∀ b, w.heap.size ≤ b →
    (∃ (szIntS : Int),
    PureX [] Tryz.prog fn_laws_szIntS #[.slice a3O a3L a3C, .int .i64 leftv] w (.int .i64 szIntS) ∧
    ((decide (szIntS < 0)) = true →
    R (.int .i64 (-1)) w) ∧
    ((decide (szIntS < 0)) = false →
    (∃ (szBool : Int),
    PureX [] Tryz.prog fn_laws_szBoolS #[.slice a4O a4L a4C, .int .i64 szIntS] w (.int .i64 szBool) ∧
    ((decide (szBool < 0)) = true →
    R (.int .i64 (-1)) w) ∧
    ((decide (szBool < 0)) = false →
    R (.int .i64 szBool) w)))))
theorem v_laws_szBand (a0 : Int) (a1 : Int) (a2 : Int) (a3O : Option Addr) (a3L : Nat) (a3C : Nat) (a4O : Option Addr) (a4L : Nat) (a4C : Nat) (leftv : Int) (w : World) (R : Value → World → Prop) : evFn c_laws_szBand s_laws_szBand [.agg #[.int .i64 a0, .int .i64 a1, .int .i64 a2, .slice a3O a3L a3C, .slice a4O a4L a4C], .int .i64 leftv] (bodyOf Tryz.f130) Tryz.f130.results.toList w R = V_laws_szBand a0 a1 a2 a3O a3L a3C a4O a4L a4C leftv w R := by kernel_rfl
theorem p_laws_szBand (a0 : Int) (a1 : Int) (a2 : Int) (a3O : Option Addr) (a3L : Nat) (a3C : Nat) (a4O : Option Addr) (a4L : Nat) (a4C : Nat) (leftv : Int) {w : World} {bs : List Nat} {ret : Value} (hvc : ∀ wr0, ExtX bs w wr0 → V_laws_szBand a0 a1 a2 a3O a3L a3C a4O a4L a4C leftv wr0 fun v0 _ => v0 = ret) : PureX bs Tryz.prog fn_laws_szBand #[.agg #[.int .i64 a0, .int .i64 a1, .int .i64 a2, .slice a3O a3L a3C, .slice a4O a4L a4C], .int .i64 leftv] w ret :=
  pure_of_ev (C := c_laws_szBand) (sps := s_laws_szBand) (body := bodyOf Tryz.f130) (env _ _ _ _) Tryz.func130 rfl rfl (of_decide_eq_true (by kernel_rfl)) (of_decide_eq_true (by kernel_rfl)) rfl fun wr0 hx0 => by rw [v_laws_szBand]; exact hvc wr0 hx0
noncomputable def c_laws_szShelfS : Cfg := { P := Tryz.prog, T := tblGet tbl, pf := pfT, ef := efT, tt := ttT, vis := [], n := 12, pm := true, wr := false }
noncomputable def s_laws_szShelfS : List (Nat × LSpec) := []
def V_laws_szShelfS (aO : Option Addr) (aL : Nat) (aC : Nat) (leftv : Int) (w : World) (R : Value → World → Prop) : Prop :=
    InR .i64 (leftv - ((aL : Nat) : Int)) ∧
    ((decide (leftv - ((aL : Nat) : Int) < 0)) = true →
    R (.int .i64 (-1)) w) ∧
    ((decide (leftv - ((aL : Nat) : Int) < 0)) = false →
    R (.int .i64 (leftv - ((aL : Nat) : Int))) w)
theorem v_laws_szShelfS (aO : Option Addr) (aL : Nat) (aC : Nat) (leftv : Int) (w : World) (R : Value → World → Prop) : evFn c_laws_szShelfS s_laws_szShelfS [.slice aO aL aC, .int .i64 leftv] (bodyOf Tryz.f131) Tryz.f131.results.toList w R = V_laws_szShelfS aO aL aC leftv w R := by kernel_rfl
theorem p_laws_szShelfS (aO : Option Addr) (aL : Nat) (aC : Nat) (leftv : Int) {w : World} {bs : List Nat} {ret : Value} (hvc : ∀ wr0, ExtX bs w wr0 → V_laws_szShelfS aO aL aC leftv wr0 fun v0 _ => v0 = ret) : PureX bs Tryz.prog fn_laws_szShelfS #[.slice aO aL aC, .int .i64 leftv] w ret :=
  pure_of_ev (C := c_laws_szShelfS) (sps := s_laws_szShelfS) (body := bodyOf Tryz.f131) (env _ _ _ _) Tryz.func131 rfl rfl (of_decide_eq_true (by kernel_rfl)) (of_decide_eq_true (by kernel_rfl)) rfl fun wr0 hx0 => by rw [v_laws_szShelfS]; exact hvc wr0 hx0
noncomputable def c_laws_szGroup : Cfg := { P := Tryz.prog, T := tblGet tbl, pf := pfT, ef := efT, tt := ttT, vis := [], n := 25, pm := true, wr := false }
noncomputable def s_laws_szGroup : List (Nat × LSpec) := []
def V_laws_szGroup (a0 : Bool) (a1 : Int) (a2 : ByteArray) (a3 : Int) (a4 : Int) (a5 : Int) (a6 : Int) (a7 : Int) (a8 : Int) (a9 : Int) (a10 : Int) (a11O : Option Addr) (a11L : Nat) (a11C : Nat) (a12O : Option Addr) (a12L : Nat) (a12C : Nat) (a13O : Option Addr) (a13L : Nat) (a13C : Nat) (leftv : Int) (w : World) (R : Value → World → Prop) : Prop :=
    (∀ b, w.heap.size ≤ b →
    InR .i64 (leftv - (a2.size : Int)) ∧
    ((decide (leftv - (a2.size : Int) < 0)) = true →
    R (.int .i64 (-1)) w) ∧
    ((decide (leftv - (a2.size : Int) < 0)) = false →
    (∃ (szBand : Int),
    PureX [] Tryz.prog fn_laws_szBand #[.agg #[.int .i64 a8, .int .i64 a9, .int .i64 a10, .slice a11O a11L a11C, .slice a12O a12L a12C], .int .i64 (leftv - (a2.size : Int))] w (.int .i64 szBand) ∧
    ((decide (szBand < 0)) = true →
    R (.int .i64 (-1)) w) ∧
    ((decide (szBand < 0)) = false →
    (∃ (szShel : Int),
    PureX [] Tryz.prog fn_laws_szShelfS #[.slice a13O a13L a13C, .int .i64 szBand] w (.int .i64 szShel) ∧
    ((decide (szShel < 0)) = true →
    R (.int .i64 (-1)) w) ∧
    ((decide (szShel < 0)) = false →
    R (.int .i64 szShel) w))))))
theorem v_laws_szGroup (a0 : Bool) (a1 : Int) (a2 : ByteArray) (a3 : Int) (a4 : Int) (a5 : Int) (a6 : Int) (a7 : Int) (a8 : Int) (a9 : Int) (a10 : Int) (a11O : Option Addr) (a11L : Nat) (a11C : Nat) (a12O : Option Addr) (a12L : Nat) (a12C : Nat) (a13O : Option Addr) (a13L : Nat) (a13C : Nat) (leftv : Int) (w : World) (R : Value → World → Prop) : evFn c_laws_szGroup s_laws_szGroup [.agg #[.bool a0, .int .i64 a1, .string a2, .int .i64 a3, .int .i64 a4, .int .i64 a5, .int .i64 a6, .int .i64 a7, .int .i64 a8, .int .i64 a9, .int .i64 a10, .slice a11O a11L a11C, .slice a12O a12L a12C, .slice a13O a13L a13C], .int .i64 leftv] (bodyOf Tryz.f82) Tryz.f82.results.toList w R = V_laws_szGroup a0 a1 a2 a3 a4 a5 a6 a7 a8 a9 a10 a11O a11L a11C a12O a12L a12C a13O a13L a13C leftv w R := by kernel_rfl
theorem p_laws_szGroup (a0 : Bool) (a1 : Int) (a2 : ByteArray) (a3 : Int) (a4 : Int) (a5 : Int) (a6 : Int) (a7 : Int) (a8 : Int) (a9 : Int) (a10 : Int) (a11O : Option Addr) (a11L : Nat) (a11C : Nat) (a12O : Option Addr) (a12L : Nat) (a12C : Nat) (a13O : Option Addr) (a13L : Nat) (a13C : Nat) (leftv : Int) {w : World} {bs : List Nat} {ret : Value} (hvc : ∀ wr0, ExtX bs w wr0 → V_laws_szGroup a0 a1 a2 a3 a4 a5 a6 a7 a8 a9 a10 a11O a11L a11C a12O a12L a12C a13O a13L a13C leftv wr0 fun v0 _ => v0 = ret) : PureX bs Tryz.prog fn_laws_szGroup #[.agg #[.bool a0, .int .i64 a1, .string a2, .int .i64 a3, .int .i64 a4, .int .i64 a5, .int .i64 a6, .int .i64 a7, .int .i64 a8, .int .i64 a9, .int .i64 a10, .slice a11O a11L a11C, .slice a12O a12L a12C, .slice a13O a13L a13C], .int .i64 leftv] w ret :=
  pure_of_ev (C := c_laws_szGroup) (sps := s_laws_szGroup) (body := bodyOf Tryz.f82) (env _ _ _ _) Tryz.func82 rfl rfl (of_decide_eq_true (by kernel_rfl)) (of_decide_eq_true (by kernel_rfl)) rfl fun wr0 hx0 => by rw [v_laws_szGroup]; exact hvc wr0 hx0
noncomputable def c_laws_szGroupS : Cfg := { P := Tryz.prog, T := tblGet tbl, pf := pfT, ef := efT, tt := ttT, vis := [], n := 27, pm := true, wr := false }
noncomputable def s_laws_szGroupS : List (Nat × LSpec) := [(5, { chg := [(1, .int .i64), (5, .int .i64)], chgL := [], keep := [0] })]
def V_laws_szGroupS (aO : Option Addr) (aL : Nat) (aC : Nat) (leftv : Int) (w : World) (R : Value → World → Prop) : Prop :=
    InR .i64 (leftv - ((aL : Nat) : Int)) ∧
    ((decide (leftv - ((aL : Nat) : Int) < 0)) = true →
    R (.int .i64 (-1)) w) ∧
    ((decide (leftv - ((aL : Nat) : Int) < 0)) = false →
    (∃ (xInv : List Value → Prop) (mu : List Value → Nat), xInv [.int .i64 (leftv - ((aL : Nat) : Int)), .int .i64 0] ∧
    ∀ (leftv1 : Int) (i : Int), xInv [.int .i64 leftv1, .int .i64 i] →
    ((decide (i < ((aL : Nat) : Int))) = true →
    Ix aO aL i ∧
    (∃ (x0 : Bool) (x1 : Int) (x2 : ByteArray) (x3 : Int) (x4 : Int) (x5 : Int) (x6 : Int) (x7 : Int) (x8 : Int) (x9 : Int) (x10 : Int) (x11O : Option Addr) (x11L : Nat) (x11C : Nat) (x12O : Option Addr) (x12L : Nat) (x12C : Nat) (x13O : Option Addr) (x13L : Nat) (x13C : Nat),
    CellsX [] w aO (Int.toNat i * 14) [.bool x0, .int .i64 x1, .string x2, .int .i64 x3, .int .i64 x4, .int .i64 x5, .int .i64 x6, .int .i64 x7, .int .i64 x8, .int .i64 x9, .int .i64 x10, .slice x11O x11L x11C, .slice x12O x12L x12C, .slice x13O x13L x13C] ∧
    (∃ (szGrou : Int),
    PureX [] Tryz.prog fn_laws_szGroup #[.agg #[.bool x0, .int .i64 x1, .string x2, .int .i64 x3, .int .i64 x4, .int .i64 x5, .int .i64 x6, .int .i64 x7, .int .i64 x8, .int .i64 x9, .int .i64 x10, .slice x11O x11L x11C, .slice x12O x12L x12C, .slice x13O x13L x13C], .int .i64 leftv1] w (.int .i64 szGrou) ∧
    ((decide (szGrou < 0)) = true →
    R (.int .i64 (-1)) w) ∧
    ((decide (szGrou < 0)) = false →
    InR .i64 (i + 1) ∧
    xInv [.int .i64 szGrou, .int .i64 (i + 1)] ∧ mu [.int .i64 szGrou, .int .i64 (i + 1)] < mu [.int .i64 leftv1, .int .i64 i])))) ∧
    ((decide (i < ((aL : Nat) : Int))) = false →
    R (.int .i64 leftv1) w)))
theorem v_laws_szGroupS (aO : Option Addr) (aL : Nat) (aC : Nat) (leftv : Int) (w : World) (R : Value → World → Prop) : evFn c_laws_szGroupS s_laws_szGroupS [.slice aO aL aC, .int .i64 leftv] (bodyOf Tryz.f35) Tryz.f35.results.toList w R = V_laws_szGroupS aO aL aC leftv w R := by kernel_rfl
theorem p_laws_szGroupS (aO : Option Addr) (aL : Nat) (aC : Nat) (leftv : Int) {w : World} {bs : List Nat} {ret : Value} (hvc : ∀ wr0, ExtX bs w wr0 → V_laws_szGroupS aO aL aC leftv wr0 fun v0 _ => v0 = ret) : PureX bs Tryz.prog fn_laws_szGroupS #[.slice aO aL aC, .int .i64 leftv] w ret :=
  pure_of_ev (C := c_laws_szGroupS) (sps := s_laws_szGroupS) (body := bodyOf Tryz.f35) (env _ _ _ _) Tryz.func35 rfl rfl (of_decide_eq_true (by kernel_rfl)) (of_decide_eq_true (by kernel_rfl)) rfl fun wr0 hx0 => by rw [v_laws_szGroupS]; exact hvc wr0 hx0
noncomputable def c_laws_szWorld : Cfg := { P := Tryz.prog, T := tblGet tbl, pf := pfT, ef := efT, tt := ttT, vis := [], n := 24, pm := true, wr := false }
noncomputable def s_laws_szWorld : List (Nat × LSpec) := []
def V_laws_szWorld (a0 : Int) (a1O : Option Addr) (a1L : Nat) (a1C : Nat) (a2O : Option Addr) (a2L : Nat) (a2C : Nat) (a3O : Option Addr) (a3L : Nat) (a3C : Nat) (leftv : Int) (w : World) (R : Value → World → Prop) : Prop :=
    (∀ b, w.heap.size ≤ b →
    (∃ (szCpuS : Int),
    PureX [] Tryz.prog fn_laws_szCpuS #[.slice a1O a1L a1C, .int .i64 leftv] w (.int .i64 szCpuS) ∧
    ((decide (szCpuS < 0)) = true →
    R (.int .i64 (-1)) w) ∧
    ((decide (szCpuS < 0)) = false →
    (∃ (szTask : Int),
    PureX [] Tryz.prog fn_laws_szTaskS #[.slice a2O a2L a2C, .int .i64 szCpuS] w (.int .i64 szTask) ∧
    ((decide (szTask < 0)) = true →
    R (.int .i64 (-1)) w) ∧
    ((decide (szTask < 0)) = false →
    (∃ (szGrou : Int),
    PureX [] Tryz.prog fn_laws_szGroupS #[.slice a3O a3L a3C, .int .i64 szTask] w (.int .i64 szGrou) ∧
    ((decide (szGrou < 0)) = true →
    R (.int .i64 (-1)) w) ∧
    ((decide (szGrou < 0)) = false →
    R (.int .i64 szGrou) w)))))))
theorem v_laws_szWorld (a0 : Int) (a1O : Option Addr) (a1L : Nat) (a1C : Nat) (a2O : Option Addr) (a2L : Nat) (a2C : Nat) (a3O : Option Addr) (a3L : Nat) (a3C : Nat) (leftv : Int) (w : World) (R : Value → World → Prop) : evFn c_laws_szWorld s_laws_szWorld [.agg #[.int .i64 a0, .slice a1O a1L a1C, .slice a2O a2L a2C, .slice a3O a3L a3C], .int .i64 leftv] (bodyOf Tryz.f12) Tryz.f12.results.toList w R = V_laws_szWorld a0 a1O a1L a1C a2O a2L a2C a3O a3L a3C leftv w R := by kernel_rfl
theorem p_laws_szWorld (a0 : Int) (a1O : Option Addr) (a1L : Nat) (a1C : Nat) (a2O : Option Addr) (a2L : Nat) (a2C : Nat) (a3O : Option Addr) (a3L : Nat) (a3C : Nat) (leftv : Int) {w : World} {bs : List Nat} {ret : Value} (hvc : ∀ wr0, ExtX bs w wr0 → V_laws_szWorld a0 a1O a1L a1C a2O a2L a2C a3O a3L a3C leftv wr0 fun v0 _ => v0 = ret) : PureX bs Tryz.prog fn_laws_szWorld #[.agg #[.int .i64 a0, .slice a1O a1L a1C, .slice a2O a2L a2C, .slice a3O a3L a3C], .int .i64 leftv] w ret :=
  pure_of_ev (C := c_laws_szWorld) (sps := s_laws_szWorld) (body := bodyOf Tryz.f12) (env _ _ _ _) Tryz.func12 rfl rfl (of_decide_eq_true (by kernel_rfl)) (of_decide_eq_true (by kernel_rfl)) rfl fun wr0 hx0 => by rw [v_laws_szWorld]; exact hvc wr0 hx0
noncomputable def c_spec_l1In : Cfg := { P := Tryz.prog, T := tblGet tbl, pf := pfT, ef := efT, tt := ttT, vis := [], n := 15, pm := true, wr := false }
noncomputable def s_spec_l1In : List (Nat × LSpec) := []
def V_spec_l1In (n : Int) (low : Int) (high : Int) (w : World) (R : Value → World → Prop) : Prop :=
    R (.bool ((decide (n ≥ low)) && (decide (n ≤ high)))) w
theorem v_spec_l1In (n : Int) (low : Int) (high : Int) (w : World) (R : Value → World → Prop) : evFn c_spec_l1In s_spec_l1In [.int .i64 n, .int .i64 low, .int .i64 high] (bodyOf Tryz.f37) Tryz.f37.results.toList w R = V_spec_l1In n low high w R := by kernel_rfl
theorem p_spec_l1In (n : Int) (low : Int) (high : Int) {w : World} {bs : List Nat} {ret : Value} (hvc : ∀ wr0, ExtX bs w wr0 → V_spec_l1In n low high wr0 fun v0 _ => v0 = ret) : PureX bs Tryz.prog fn_spec_l1In #[.int .i64 n, .int .i64 low, .int .i64 high] w ret :=
  pure_of_ev (C := c_spec_l1In) (sps := s_spec_l1In) (body := bodyOf Tryz.f37) (env _ _ _ _) Tryz.func37 rfl rfl (of_decide_eq_true (by kernel_rfl)) (of_decide_eq_true (by kernel_rfl)) rfl fun wr0 hx0 => by rw [v_spec_l1In]; exact hvc wr0 hx0
noncomputable def c_spec_l6File : Cfg := { P := Tryz.prog, T := tblGet tbl, pf := pfT, ef := efT, tt := ttT, vis := [], n := 21, pm := true, wr := false }
noncomputable def s_spec_l6File : List (Nat × LSpec) := []
def V_spec_l6File (s : ByteArray) (w : World) (R : Value → World → Prop) : Prop :=
    R (.bool (((((strEq s (ByteArray.mk [119, 101, 105, 103, 104, 116].toArray)) || (strEq s (ByteArray.mk [109, 97, 120].toArray))) || (strEq s (ByteArray.mk [99, 112, 117, 115].toArray))) || (strEq s (ByteArray.mk [112, 114, 111, 99, 115].toArray))) || (strEq s (ByteArray.mk [115, 116, 97, 116].toArray)))) w
theorem v_spec_l6File (s : ByteArray) (w : World) (R : Value → World → Prop) : evFn c_spec_l6File s_spec_l6File [.string s] (bodyOf Tryz.f127) Tryz.f127.results.toList w R = V_spec_l6File s w R := by kernel_rfl
theorem p_spec_l6File (s : ByteArray) {w : World} {bs : List Nat} {ret : Value} (hvc : ∀ wr0, ExtX bs w wr0 → V_spec_l6File s wr0 fun v0 _ => v0 = ret) : PureX bs Tryz.prog fn_spec_l6File #[.string s] w ret :=
  pure_of_ev (C := c_spec_l6File) (sps := s_spec_l6File) (body := bodyOf Tryz.f127) (env _ _ _ _) Tryz.func127 rfl rfl (of_decide_eq_true (by kernel_rfl)) (of_decide_eq_true (by kernel_rfl)) rfl fun wr0 hx0 => by rw [v_spec_l6File]; exact hvc wr0 hx0
noncomputable def c_spec_NameOk : Cfg := { P := Tryz.prog, T := tblGet tbl, pf := pfT, ef := efT, tt := ttT, vis := [], n := 41, pm := true, wr := false }
noncomputable def s_spec_NameOk : List (Nat × LSpec) := [(4, { chg := [(3, .int .i64)], chgL := [], keep := [0] })]
def V_spec_NameOk (s : ByteArray) (w : World) (R : Value → World → Prop) : Prop :=
    (∃ (l1In : Bool),
    PureX [] Tryz.prog fn_spec_l1In #[.int .i64 (s.size : Int), .int .i64 1, .int .i64 8] w (.bool l1In) ∧
    (∃ (l6File : Bool),
    ((!l1In) = false → PureX [] Tryz.prog fn_spec_l6File #[.string s] w (.bool l6File)) ∧
    (((!l1In) || l6File) = true →
    R (.bool false) w) ∧
    (((!l1In) || l6File) = false →
    (∃ (xInv : List Value → Prop) (mu : List Value → Nat), xInv [.int .i64 0] ∧
    ∀ (i : Int), xInv [.int .i64 i] →
    ((decide (i < (s.size : Int))) = true →
    (0 ≤ i ∧ i < (s.size : Int)) ∧
    ((decide (strAt s i ≥ 97)) = true → (0 ≤ i ∧ i < (s.size : Int))) ∧
    (((decide (strAt s i ≥ 97)) && (decide (strAt s i ≤ 122))) = false → (0 ≤ i ∧ i < (s.size : Int))) ∧
    ((decide (strAt s i ≥ 48)) = true → (((decide (strAt s i ≥ 97)) && (decide (strAt s i ≤ 122))) = false → (0 ≤ i ∧ i < (s.size : Int)))) ∧
    ((!(((decide (strAt s i ≥ 97)) && (decide (strAt s i ≤ 122))) || ((decide (strAt s i ≥ 48)) && (decide (strAt s i ≤ 57))))) = true →
    R (.bool false) w) ∧
    ((!(((decide (strAt s i ≥ 97)) && (decide (strAt s i ≤ 122))) || ((decide (strAt s i ≥ 48)) && (decide (strAt s i ≤ 57))))) = false →
    InR .i64 (i + 1) ∧
    xInv [.int .i64 (i + 1)] ∧ mu [.int .i64 (i + 1)] < mu [.int .i64 i])) ∧
    ((decide (i < (s.size : Int))) = false →
    R (.bool true) w)))))
theorem v_spec_NameOk (s : ByteArray) (w : World) (R : Value → World → Prop) : evFn c_spec_NameOk s_spec_NameOk [.string s] (bodyOf Tryz.f132) Tryz.f132.results.toList w R = V_spec_NameOk s w R := by kernel_rfl
theorem p_spec_NameOk (s : ByteArray) {w : World} {bs : List Nat} {ret : Value} (hvc : ∀ wr0, ExtX bs w wr0 → V_spec_NameOk s wr0 fun v0 _ => v0 = ret) : PureX bs Tryz.prog fn_spec_NameOk #[.string s] w ret :=
  pure_of_ev (C := c_spec_NameOk) (sps := s_spec_NameOk) (body := bodyOf Tryz.f132) (env _ _ _ _) Tryz.func132 rfl rfl (of_decide_eq_true (by kernel_rfl)) (of_decide_eq_true (by kernel_rfl)) rfl fun wr0 hx0 => by rw [v_spec_NameOk]; exact hvc wr0 hx0
noncomputable def c_spec_l6Used : Cfg := { P := Tryz.prog, T := tblGet tbl, pf := pfT, ef := efT, tt := ttT, vis := [], n := 20, pm := true, wr := false }
noncomputable def s_spec_l6Used : List (Nat × LSpec) := []
def V_spec_l6Used (lO : Option Addr) (lL : Nat) (lC : Nat) (g : Int) (w : World) (R : Value → World → Prop) : Prop :=
    (((decide (g ≥ 0)) && (decide (g < ((lL : Nat) : Int)))) = true → Ix lO lL g) ∧
    (∃ (used : Bool),
    (((decide (g ≥ 0)) && (decide (g < ((lL : Nat) : Int)))) = true → CellsX [] w lO (Int.toNat g * 14 + 0) [.bool used]) ∧
    R (.bool (((decide (g ≥ 0)) && (decide (g < ((lL : Nat) : Int)))) && used)) w)
theorem v_spec_l6Used (lO : Option Addr) (lL : Nat) (lC : Nat) (g : Int) (w : World) (R : Value → World → Prop) : evFn c_spec_l6Used s_spec_l6Used [.slice lO lL lC, .int .i64 g] (bodyOf Tryz.f52) Tryz.f52.results.toList w R = V_spec_l6Used lO lL lC g w R := by kernel_rfl
theorem p_spec_l6Used (lO : Option Addr) (lL : Nat) (lC : Nat) (g : Int) {w : World} {bs : List Nat} {ret : Value} (hvc : ∀ wr0, ExtX bs w wr0 → V_spec_l6Used lO lL lC g wr0 fun v0 _ => v0 = ret) : PureX bs Tryz.prog fn_spec_l6Used #[.slice lO lL lC, .int .i64 g] w ret :=
  pure_of_ev (C := c_spec_l6Used) (sps := s_spec_l6Used) (body := bodyOf Tryz.f52) (env _ _ _ _) Tryz.func52 rfl rfl (of_decide_eq_true (by kernel_rfl)) (of_decide_eq_true (by kernel_rfl)) rfl fun wr0 hx0 => by rw [v_spec_l6Used]; exact hvc wr0 hx0
noncomputable def c_spec_l6Depth : Cfg := { P := Tryz.prog, T := tblGet tbl, pf := pfT, ef := efT, tt := ttT, vis := [], n := 24, pm := true, wr := false }
noncomputable def s_spec_l6Depth : List (Nat × LSpec) := [(2, { chg := [(1, .int .i64), (5, .int .i64)], chgL := [], keep := [0] })]
def V_spec_l6Depth (lO : Option Addr) (lL : Nat) (lC : Nat) (g : Int) (w : World) (R : Value → World → Prop) : Prop :=
    (∃ (xInv : List Value → Prop) (mu : List Value → Nat), xInv [.int .i64 g, .int .i64 0] ∧
    ∀ (g1 : Int) (n : Int), xInv [.int .i64 g1, .int .i64 n] →
    ((decide (n ≤ ((lL : Nat) : Int))) = true →
    (∃ (l6Used : Bool),
    PureX [] Tryz.prog fn_spec_l6Used #[.slice lO lL lC, .int .i64 g1] w (.bool l6Used) ∧
    ((!l6Used) = true →
    R (.int .i64 (-1)) w) ∧
    ((!l6Used) = false →
    ((g1 == 0) = true →
    R (.int .i64 n) w) ∧
    ((g1 == 0) = false →
    Ix lO lL g1 ∧
    (∃ (parent : Int),
    CellsX [] w lO (Int.toNat g1 * 14 + 1) [.int .i64 parent] ∧
    InR .i64 (n + 1) ∧
    xInv [.int .i64 parent, .int .i64 (n + 1)] ∧ mu [.int .i64 parent, .int .i64 (n + 1)] < mu [.int .i64 g1, .int .i64 n]))))) ∧
    ((decide (n ≤ ((lL : Nat) : Int))) = false →
    R (.int .i64 (-1)) w))
theorem v_spec_l6Depth (lO : Option Addr) (lL : Nat) (lC : Nat) (g : Int) (w : World) (R : Value → World → Prop) : evFn c_spec_l6Depth s_spec_l6Depth [.slice lO lL lC, .int .i64 g] (bodyOf Tryz.f133) Tryz.f133.results.toList w R = V_spec_l6Depth lO lL lC g w R := by kernel_rfl
theorem p_spec_l6Depth (lO : Option Addr) (lL : Nat) (lC : Nat) (g : Int) {w : World} {bs : List Nat} {ret : Value} (hvc : ∀ wr0, ExtX bs w wr0 → V_spec_l6Depth lO lL lC g wr0 fun v0 _ => v0 = ret) : PureX bs Tryz.prog fn_spec_l6Depth #[.slice lO lL lC, .int .i64 g] w ret :=
  pure_of_ev (C := c_spec_l6Depth) (sps := s_spec_l6Depth) (body := bodyOf Tryz.f133) (env _ _ _ _) Tryz.func133 rfl rfl (of_decide_eq_true (by kernel_rfl)) (of_decide_eq_true (by kernel_rfl)) rfl fun wr0 hx0 => by rw [v_spec_l6Depth]; exact hvc wr0 hx0
noncomputable def c_spec_TreeOk : Cfg := { P := Tryz.prog, T := tblGet tbl, pf := pfT, ef := efT, tt := ttT, vis := [], n := 91, pm := true, wr := false }
noncomputable def s_spec_TreeOk : List (Nat × LSpec) := [(4, { chg := [(3, .int .i64)], chgL := [], keep := [0] }), (10, { chg := [(4, .int .i64)], chgL := [], keep := [0, 3] })]
def V_spec_TreeOk (lO : Option Addr) (lL : Nat) (lC : Nat) (w : World) (R : Value → World → Prop) : Prop :=
    ((((lL : Nat) : Int) != 8) = false → Ix lO lL 0) ∧
    (∃ (used : Bool),
    ((((lL : Nat) : Int) != 8) = false → CellsX [] w lO (Int.toNat 0 * 14 + 0) [.bool used]) ∧
    (((((lL : Nat) : Int) != 8) || (!used)) = false → Ix lO lL 0) ∧
    (∃ (parent : Int),
    (((((lL : Nat) : Int) != 8) || (!used)) = false → CellsX [] w lO (Int.toNat 0 * 14 + 1) [.int .i64 parent]) ∧
    ((((((lL : Nat) : Int) != 8) || (!used)) || (parent != (-1))) = false → Ix lO lL 0) ∧
    (∃ (name : ByteArray),
    ((((((lL : Nat) : Int) != 8) || (!used)) || (parent != (-1))) = false → CellsX [] w lO (Int.toNat 0 * 14 + 2) [.string name]) ∧
    (((((((lL : Nat) : Int) != 8) || (!used)) || (parent != (-1))) || (!strEq name (ByteArray.mk [].toArray))) = true →
    R (.bool false) w) ∧
    (((((((lL : Nat) : Int) != 8) || (!used)) || (parent != (-1))) || (!strEq name (ByteArray.mk [].toArray))) = false →
    (∃ (xInv : List Value → Prop) (mu : List Value → Nat), xInv [.int .i64 1] ∧
    ∀ (g : Int), xInv [.int .i64 g] →
    ((decide (g < ((lL : Nat) : Int))) = true →
    Ix lO lL g ∧
    (∃ (used1 : Bool),
    CellsX [] w lO (Int.toNat g * 14 + 0) [.bool used1] ∧
    ((!used1) = true →
    InR .i64 (g + 1) ∧
    xInv [.int .i64 (g + 1)] ∧ mu [.int .i64 (g + 1)] < mu [.int .i64 g]) ∧
    ((!used1) = false →
    Ix lO lL g ∧
    (∃ (name1 : ByteArray),
    CellsX [] w lO (Int.toNat g * 14 + 2) [.string name1] ∧
    (∃ (xNameOk : Bool),
    PureX [] Tryz.prog fn_spec_NameOk #[.string name1] w (.bool xNameOk) ∧
    (∃ (l6Dept : Int),
    ((!xNameOk) = false → PureX [] Tryz.prog fn_spec_l6Depth #[.slice lO lL lC, .int .i64 g] w (.int .i64 l6Dept)) ∧
    (∃ (l1In : Bool),
    ((!xNameOk) = false → PureX [] Tryz.prog fn_spec_l1In #[.int .i64 l6Dept, .int .i64 1, .int .i64 3] w (.bool l1In)) ∧
    (((!xNameOk) || (!l1In)) = true →
    R (.bool false) w) ∧
    (((!xNameOk) || (!l1In)) = false →
    (∃ (xInv1 : List Value → Prop) (mu1 : List Value → Nat), xInv1 [.int .i64 1] ∧
    ∀ (h : Int), xInv1 [.int .i64 h] →
    ((decide (h < g)) = true →
    Ix lO lL h ∧
    (∃ (used2 : Bool),
    CellsX [] w lO (Int.toNat h * 14 + 0) [.bool used2] ∧
    (used2 = true → Ix lO lL h) ∧
    (∃ (parent1 : Int),
    (used2 = true → CellsX [] w lO (Int.toNat h * 14 + 1) [.int .i64 parent1]) ∧
    (used2 = true → Ix lO lL g) ∧
    (∃ (parent2 : Int),
    (used2 = true → CellsX [] w lO (Int.toNat g * 14 + 1) [.int .i64 parent2]) ∧
    ((used2 && (parent1 == parent2)) = true → Ix lO lL h) ∧
    (∃ (name2 : ByteArray),
    ((used2 && (parent1 == parent2)) = true → CellsX [] w lO (Int.toNat h * 14 + 2) [.string name2]) ∧
    ((used2 && (parent1 == parent2)) = true → Ix lO lL g) ∧
    (∃ (name3 : ByteArray),
    ((used2 && (parent1 == parent2)) = true → CellsX [] w lO (Int.toNat g * 14 + 2) [.string name3]) ∧
    (((used2 && (parent1 == parent2)) && (strEq name2 name3)) = true →
    R (.bool false) w) ∧
    (((used2 && (parent1 == parent2)) && (strEq name2 name3)) = false →
    InR .i64 (h + 1) ∧
    xInv1 [.int .i64 (h + 1)] ∧ mu1 [.int .i64 (h + 1)] < mu1 [.int .i64 h]))))))) ∧
    ((decide (h < g)) = false →
    InR .i64 (g + 1) ∧
    xInv [.int .i64 (g + 1)] ∧ mu [.int .i64 (g + 1)] < mu [.int .i64 g])))))))))) ∧
    ((decide (g < ((lL : Nat) : Int))) = false →
    R (.bool true) w))))))
theorem v_spec_TreeOk (lO : Option Addr) (lL : Nat) (lC : Nat) (w : World) (R : Value → World → Prop) : evFn c_spec_TreeOk s_spec_TreeOk [.slice lO lL lC] (bodyOf Tryz.f83) Tryz.f83.results.toList w R = V_spec_TreeOk lO lL lC w R := by kernel_rfl
theorem p_spec_TreeOk (lO : Option Addr) (lL : Nat) (lC : Nat) {w : World} {bs : List Nat} {ret : Value} (hvc : ∀ wr0, ExtX bs w wr0 → V_spec_TreeOk lO lL lC wr0 fun v0 _ => v0 = ret) : PureX bs Tryz.prog fn_spec_TreeOk #[.slice lO lL lC] w ret :=
  pure_of_ev (C := c_spec_TreeOk) (sps := s_spec_TreeOk) (body := bodyOf Tryz.f83) (env _ _ _ _) Tryz.func83 rfl rfl (of_decide_eq_true (by kernel_rfl)) (of_decide_eq_true (by kernel_rfl)) rfl fun wr0 hx0 => by rw [v_spec_TreeOk]; exact hvc wr0 hx0
noncomputable def c_spec_l8Ups : Cfg := { P := Tryz.prog, T := tblGet tbl, pf := pfT, ef := efT, tt := ttT, vis := [], n := 24, pm := true, wr := false }
noncomputable def s_spec_l8Ups : List (Nat × LSpec) := [(3, { chg := [(3, .int .i64), (4, .int .i64)], chgL := [], keep := [1] })]
def V_spec_l8Ups (w0 : Int) (w1O : Option Addr) (w1L : Nat) (w1C : Nat) (w2O : Option Addr) (w2L : Nat) (w2C : Nat) (w3O : Option Addr) (w3L : Nat) (w3C : Nat) (w : World) (R : Value → World → Prop) : Prop :=
    (∀ b, w.heap.size ≤ b →
    (∃ (xInv : List Value → Prop) (mu : List Value → Nat), xInv [.int .i64 0, .int .i64 0] ∧
    ∀ (m : Int) (c : Int), xInv [.int .i64 m, .int .i64 c] →
    ((decide (c < ((w1L : Nat) : Int))) = true →
    Ix w1O w1L c ∧
    (∃ (up : Bool),
    CellsX [] w w1O (Int.toNat c * 5 + 0) [.bool up] ∧
    (up = true →
    InR .u64 c ∧
    (0 ≤ c ∧ InR .i64 (1 * 2 ^ (min (Int.toNat c) 64))) ∧
    InR .i64 (m + (1 * 2 ^ (min (Int.toNat c) 64))) ∧
    InR .i64 (c + 1) ∧
    xInv [.int .i64 (m + (1 * 2 ^ (min (Int.toNat c) 64))), .int .i64 (c + 1)] ∧ mu [.int .i64 (m + (1 * 2 ^ (min (Int.toNat c) 64))), .int .i64 (c + 1)] < mu [.int .i64 m, .int .i64 c]) ∧
    (up = false →
    InR .i64 (c + 1) ∧
    xInv [.int .i64 m, .int .i64 (c + 1)] ∧ mu [.int .i64 m, .int .i64 (c + 1)] < mu [.int .i64 m, .int .i64 c]))) ∧
    ((decide (c < ((w1L : Nat) : Int))) = false →
    R (.int .i64 m) w)))
theorem v_spec_l8Ups (w0 : Int) (w1O : Option Addr) (w1L : Nat) (w1C : Nat) (w2O : Option Addr) (w2L : Nat) (w2C : Nat) (w3O : Option Addr) (w3L : Nat) (w3C : Nat) (w : World) (R : Value → World → Prop) : evFn c_spec_l8Ups s_spec_l8Ups [.agg #[.int .i64 w0, .slice w1O w1L w1C, .slice w2O w2L w2C, .slice w3O w3L w3C]] (bodyOf Tryz.f84) Tryz.f84.results.toList w R = V_spec_l8Ups w0 w1O w1L w1C w2O w2L w2C w3O w3L w3C w R := by kernel_rfl
theorem p_spec_l8Ups (w0 : Int) (w1O : Option Addr) (w1L : Nat) (w1C : Nat) (w2O : Option Addr) (w2L : Nat) (w2C : Nat) (w3O : Option Addr) (w3L : Nat) (w3C : Nat) {w : World} {bs : List Nat} {ret : Value} (hvc : ∀ wr0, ExtX bs w wr0 → V_spec_l8Ups w0 w1O w1L w1C w2O w2L w2C w3O w3L w3C wr0 fun v0 _ => v0 = ret) : PureX bs Tryz.prog fn_spec_l8Ups #[.agg #[.int .i64 w0, .slice w1O w1L w1C, .slice w2O w2L w2C, .slice w3O w3L w3C]] w ret :=
  pure_of_ev (C := c_spec_l8Ups) (sps := s_spec_l8Ups) (body := bodyOf Tryz.f84) (env _ _ _ _) Tryz.func84 rfl rfl (of_decide_eq_true (by kernel_rfl)) (of_decide_eq_true (by kernel_rfl)) rfl fun wr0 hx0 => by rw [v_spec_l8Ups]; exact hvc wr0 hx0
noncomputable def c_spec_l8NoBand : Cfg := { P := Tryz.prog, T := tblGet tbl, pf := pfT, ef := efT, tt := ttT, vis := [], n := 28, pm := true, wr := false }
noncomputable def s_spec_l8NoBand : List (Nat × LSpec) := []
def V_spec_l8NoBand (b0 : Int) (b1 : Int) (b2 : Int) (b3O : Option Addr) (b3L : Nat) (b3C : Nat) (b4O : Option Addr) (b4L : Nat) (b4C : Nat) (w : World) (R : Value → World → Prop) : Prop :=
    (∀ b, w.heap.size ≤ b →
    R (.bool (((((b0 == 0) && (b1 == 0)) && (b2 == 0)) && (((b3L : Nat) : Int) == 0)) && (((b4L : Nat) : Int) == 0))) w)
theorem v_spec_l8NoBand (b0 : Int) (b1 : Int) (b2 : Int) (b3O : Option Addr) (b3L : Nat) (b3C : Nat) (b4O : Option Addr) (b4L : Nat) (b4C : Nat) (w : World) (R : Value → World → Prop) : evFn c_spec_l8NoBand s_spec_l8NoBand [.agg #[.int .i64 b0, .int .i64 b1, .int .i64 b2, .slice b3O b3L b3C, .slice b4O b4L b4C]] (bodyOf Tryz.f134) Tryz.f134.results.toList w R = V_spec_l8NoBand b0 b1 b2 b3O b3L b3C b4O b4L b4C w R := by kernel_rfl
theorem p_spec_l8NoBand (b0 : Int) (b1 : Int) (b2 : Int) (b3O : Option Addr) (b3L : Nat) (b3C : Nat) (b4O : Option Addr) (b4L : Nat) (b4C : Nat) {w : World} {bs : List Nat} {ret : Value} (hvc : ∀ wr0, ExtX bs w wr0 → V_spec_l8NoBand b0 b1 b2 b3O b3L b3C b4O b4L b4C wr0 fun v0 _ => v0 = ret) : PureX bs Tryz.prog fn_spec_l8NoBand #[.agg #[.int .i64 b0, .int .i64 b1, .int .i64 b2, .slice b3O b3L b3C, .slice b4O b4L b4C]] w ret :=
  pure_of_ev (C := c_spec_l8NoBand) (sps := s_spec_l8NoBand) (body := bodyOf Tryz.f134) (env _ _ _ _) Tryz.func134 rfl rfl (of_decide_eq_true (by kernel_rfl)) (of_decide_eq_true (by kernel_rfl)) rfl fun wr0 hx0 => by rw [v_spec_l8NoBand]; exact hvc wr0 hx0
noncomputable def c_spec_l1Weight : Cfg := { P := Tryz.prog, T := tblGet tbl, pf := pfT, ef := efT, tt := ttT, vis := [], n := 5, pm := true, wr := false }
noncomputable def s_spec_l1Weight : List (Nat × LSpec) := []
def V_spec_l1Weight (wv : Int) (w : World) (R : Value → World → Prop) : Prop :=
    (∃ (l1In : Bool),
    PureX [] Tryz.prog fn_spec_l1In #[.int .i64 wv, .int .i64 1, .int .i64 20] w (.bool l1In) ∧
    R (.bool l1In) w)
theorem v_spec_l1Weight (wv : Int) (w : World) (R : Value → World → Prop) : evFn c_spec_l1Weight s_spec_l1Weight [.int .i64 wv] (bodyOf Tryz.f135) Tryz.f135.results.toList w R = V_spec_l1Weight wv w R := by kernel_rfl
theorem p_spec_l1Weight (wv : Int) {w : World} {bs : List Nat} {ret : Value} (hvc : ∀ wr0, ExtX bs w wr0 → V_spec_l1Weight wv wr0 fun v0 _ => v0 = ret) : PureX bs Tryz.prog fn_spec_l1Weight #[.int .i64 wv] w ret :=
  pure_of_ev (C := c_spec_l1Weight) (sps := s_spec_l1Weight) (body := bodyOf Tryz.f135) (env _ _ _ _) Tryz.func135 rfl rfl (of_decide_eq_true (by kernel_rfl)) (of_decide_eq_true (by kernel_rfl)) rfl fun wr0 hx0 => by rw [v_spec_l1Weight]; exact hvc wr0 hx0
noncomputable def c_spec_MaskOk : Cfg := { P := Tryz.prog, T := tblGet tbl, pf := pfT, ef := efT, tt := ttT, vis := [], n := 5, pm := true, wr := false }
noncomputable def s_spec_MaskOk : List (Nat × LSpec) := []
def V_spec_MaskOk (m : Int) (w : World) (R : Value → World → Prop) : Prop :=
    (∃ (l1In : Bool),
    PureX [] Tryz.prog fn_spec_l1In #[.int .i64 m, .int .i64 0, .int .i64 15] w (.bool l1In) ∧
    R (.bool l1In) w)
theorem v_spec_MaskOk (m : Int) (w : World) (R : Value → World → Prop) : evFn c_spec_MaskOk s_spec_MaskOk [.int .i64 m] (bodyOf Tryz.f136) Tryz.f136.results.toList w R = V_spec_MaskOk m w R := by kernel_rfl
theorem p_spec_MaskOk (m : Int) {w : World} {bs : List Nat} {ret : Value} (hvc : ∀ wr0, ExtX bs w wr0 → V_spec_MaskOk m wr0 fun v0 _ => v0 = ret) : PureX bs Tryz.prog fn_spec_MaskOk #[.int .i64 m] w ret :=
  pure_of_ev (C := c_spec_MaskOk) (sps := s_spec_MaskOk) (body := bodyOf Tryz.f136) (env _ _ _ _) Tryz.func136 rfl rfl (of_decide_eq_true (by kernel_rfl)) (of_decide_eq_true (by kernel_rfl)) rfl fun wr0 hx0 => by rw [v_spec_MaskOk]; exact hvc wr0 hx0
noncomputable def c_spec_l4Time : Cfg := { P := Tryz.prog, T := tblGet tbl, pf := pfT, ef := efT, tt := ttT, vis := [], n := 5, pm := true, wr := false }
noncomputable def s_spec_l4Time : List (Nat × LSpec) := []
def V_spec_l4Time (v : Int) (w : World) (R : Value → World → Prop) : Prop :=
    (∃ (l1In : Bool),
    PureX [] Tryz.prog fn_spec_l1In #[.int .i64 v, .int .i64 0, .int .i64 100000000000000000] w (.bool l1In) ∧
    R (.bool l1In) w)
theorem v_spec_l4Time (v : Int) (w : World) (R : Value → World → Prop) : evFn c_spec_l4Time s_spec_l4Time [.int .i64 v] (bodyOf Tryz.f137) Tryz.f137.results.toList w R = V_spec_l4Time v w R := by kernel_rfl
theorem p_spec_l4Time (v : Int) {w : World} {bs : List Nat} {ret : Value} (hvc : ∀ wr0, ExtX bs w wr0 → V_spec_l4Time v wr0 fun v0 _ => v0 = ret) : PureX bs Tryz.prog fn_spec_l4Time #[.int .i64 v] w ret :=
  pure_of_ev (C := c_spec_l4Time) (sps := s_spec_l4Time) (body := bodyOf Tryz.f137) (env _ _ _ _) Tryz.func137 rfl rfl (of_decide_eq_true (by kernel_rfl)) (of_decide_eq_true (by kernel_rfl)) rfl fun wr0 hx0 => by rw [v_spec_l4Time]; exact hvc wr0 hx0
noncomputable def c_spec_BandOk : Cfg := { P := Tryz.prog, T := tblGet tbl, pf := pfT, ef := efT, tt := ttT, vis := [], n := 93, pm := true, wr := false }
noncomputable def s_spec_BandOk : List (Nat × LSpec) := [(5, { chg := [(3, .int .i64), (4, .int .i64)], chgL := [], keep := [1] })]
def V_spec_BandOk (b0 : Int) (b1 : Int) (b2 : Int) (b3O : Option Addr) (b3L : Nat) (b3C : Nat) (b4O : Option Addr) (b4L : Nat) (b4C : Nat) (w : World) (R : Value → World → Prop) : Prop :=
    (∀ b, w.heap.size ≤ b →
    (∃ (l1In : Bool),
    PureX [] Tryz.prog fn_spec_l1In #[.int .i64 b0, .int .i64 1, .int .i64 10000] w (.bool l1In) ∧
    (∃ (l1In1 : Bool),
    ((!l1In) = false → PureX [] Tryz.prog fn_spec_l1In #[.int .i64 ((b3L : Nat) : Int), .int .i64 1, .int .i64 4] w (.bool l1In1)) ∧
    (∃ (l1In2 : Bool),
    ((((!l1In) || (!l1In1)) || (((b4L : Nat) : Int) != ((b3L : Nat) : Int))) = false → PureX [] Tryz.prog fn_spec_l1In #[.int .i64 b1, .int .i64 0, .int .i64 b0] w (.bool l1In2)) ∧
    (∃ (l1In3 : Bool),
    (((((!l1In) || (!l1In1)) || (((b4L : Nat) : Int) != ((b3L : Nat) : Int))) || (!l1In2)) = false → PureX [] Tryz.prog fn_spec_l1In #[.int .i64 b2, .int .i64 0, .int .i64 b0] w (.bool l1In3)) ∧
    ((((((!l1In) || (!l1In1)) || (((b4L : Nat) : Int) != ((b3L : Nat) : Int))) || (!l1In2)) || (!l1In3)) = true →
    R (.bool false) w) ∧
    ((((((!l1In) || (!l1In1)) || (((b4L : Nat) : Int) != ((b3L : Nat) : Int))) || (!l1In2)) || (!l1In3)) = false →
    InR .i64 (b1 + b2) ∧
    (∃ (xInv : List Value → Prop) (mu : List Value → Nat), xInv [.int .i64 (b1 + b2), .int .i64 0] ∧
    ∀ (sum : Int) (c : Int), xInv [.int .i64 sum, .int .i64 c] →
    ((decide (c < ((b3L : Nat) : Int))) = true →
    Ix b3O b3L c ∧
    (∃ (x : Int),
    CellsX [] w b3O (Int.toNat c * 1) [.int .i64 x] ∧
    (∃ (l1In4 : Bool),
    PureX [] Tryz.prog fn_spec_l1In #[.int .i64 x, .int .i64 0, .int .i64 b0] w (.bool l1In4) ∧
    ((!l1In4) = false → Ix b4O b4L c) ∧
    (∃ (x1 : Bool),
    ((!l1In4) = false → CellsX [] w b4O (Int.toNat c * 1) [.bool x1]) ∧
    (x1 = true → ((!l1In4) = false → Ix b3O b3L c)) ∧
    (∃ (x2 : Int),
    (x1 = true → ((!l1In4) = false → CellsX [] w b3O (Int.toNat c * 1) [.int .i64 x2])) ∧
    (((!l1In4) || (x1 && ((decide (x2 > 0)) || (decide (b1 > 0))))) = true →
    R (.bool false) w) ∧
    (((!l1In4) || (x1 && ((decide (x2 > 0)) || (decide (b1 > 0))))) = false →
    Ix b3O b3L c ∧
    (∃ (x3 : Int),
    CellsX [] w b3O (Int.toNat c * 1) [.int .i64 x3] ∧
    InR .i64 (sum + x3) ∧
    InR .i64 (c + 1) ∧
    xInv [.int .i64 (sum + x3), .int .i64 (c + 1)] ∧ mu [.int .i64 (sum + x3), .int .i64 (c + 1)] < mu [.int .i64 sum, .int .i64 c]))))))) ∧
    ((decide (c < ((b3L : Nat) : Int))) = false →
    R (.bool (sum == b0)) w))))))))
theorem v_spec_BandOk (b0 : Int) (b1 : Int) (b2 : Int) (b3O : Option Addr) (b3L : Nat) (b3C : Nat) (b4O : Option Addr) (b4L : Nat) (b4C : Nat) (w : World) (R : Value → World → Prop) : evFn c_spec_BandOk s_spec_BandOk [.agg #[.int .i64 b0, .int .i64 b1, .int .i64 b2, .slice b3O b3L b3C, .slice b4O b4L b4C]] (bodyOf Tryz.f138) Tryz.f138.results.toList w R = V_spec_BandOk b0 b1 b2 b3O b3L b3C b4O b4L b4C w R := by kernel_rfl
theorem p_spec_BandOk (b0 : Int) (b1 : Int) (b2 : Int) (b3O : Option Addr) (b3L : Nat) (b3C : Nat) (b4O : Option Addr) (b4L : Nat) (b4C : Nat) {w : World} {bs : List Nat} {ret : Value} (hvc : ∀ wr0, ExtX bs w wr0 → V_spec_BandOk b0 b1 b2 b3O b3L b3C b4O b4L b4C wr0 fun v0 _ => v0 = ret) : PureX bs Tryz.prog fn_spec_BandOk #[.agg #[.int .i64 b0, .int .i64 b1, .int .i64 b2, .slice b3O b3L b3C, .slice b4O b4L b4C]] w ret :=
  pure_of_ev (C := c_spec_BandOk) (sps := s_spec_BandOk) (body := bodyOf Tryz.f138) (env _ _ _ _) Tryz.func138 rfl rfl (of_decide_eq_true (by kernel_rfl)) (of_decide_eq_true (by kernel_rfl)) rfl fun wr0 hx0 => by rw [v_spec_BandOk]; exact hvc wr0 hx0
noncomputable def c_spec_l8GroupOk : Cfg := { P := Tryz.prog, T := tblGet tbl, pf := pfT, ef := efT, tt := ttT, vis := [], n := 158, pm := true, wr := false }
noncomputable def s_spec_l8GroupOk : List (Nat × LSpec) := []
def V_spec_l8GroupOk (w0 : Int) (w1O : Option Addr) (w1L : Nat) (w1C : Nat) (w2O : Option Addr) (w2L : Nat) (w2C : Nat) (w3O : Option Addr) (w3L : Nat) (w3C : Nat) (k : Int) (w : World) (R : Value → World → Prop) : Prop :=
    (∀ b, w.heap.size ≤ b →
    Ix w3O w3L k ∧
    (∃ (x0 : Bool) (x1 : Int) (x2 : ByteArray) (x3 : Int) (x4 : Int) (x5 : Int) (x6 : Int) (x7 : Int) (x8 : Int) (x9 : Int) (x10 : Int) (x11O : Option Addr) (x11L : Nat) (x11C : Nat) (x12O : Option Addr) (x12L : Nat) (x12C : Nat) (x13O : Option Addr) (x13L : Nat) (x13C : Nat),
    CellsX [] w w3O (Int.toNat k * 14) [.bool x0, .int .i64 x1, .string x2, .int .i64 x3, .int .i64 x4, .int .i64 x5, .int .i64 x6, .int .i64 x7, .int .i64 x8, .int .i64 x9, .int .i64 x10, .slice x11O x11L x11C, .slice x12O x12L x12C, .slice x13O x13L x13C] ∧
    (∀ b1, w.heap.size ≤ b1 →
    ((!x0) = true →
    (∃ (l8NoBa : Bool),
    (((((((((x1 == 0) && (strEq x2 (ByteArray.mk [].toArray))) && (x3 == 0)) && (x4 == 0)) && (x5 == 0)) && (x6 == 0)) && (x7 == 0)) && (((x13L : Nat) : Int) == 0)) = true → PureX [] Tryz.prog fn_spec_l8NoBand #[.agg #[.int .i64 x8, .int .i64 x9, .int .i64 x10, .slice x11O x11L x11C, .slice x12O x12L x12C]] w (.bool l8NoBa)) ∧
    R (.bool (((((((((x1 == 0) && (strEq x2 (ByteArray.mk [].toArray))) && (x3 == 0)) && (x4 == 0)) && (x5 == 0)) && (x6 == 0)) && (x7 == 0)) && (((x13L : Nat) : Int) == 0)) && l8NoBa)) w)) ∧
    ((!x0) = false →
    (∃ (l1Weig : Bool),
    PureX [] Tryz.prog fn_spec_l1Weight #[.int .i64 x3] w (.bool l1Weig) ∧
    (∃ (xMaskOk : Bool),
    ((!l1Weig) = false → PureX [] Tryz.prog fn_spec_MaskOk #[.int .i64 x4] w (.bool xMaskOk)) ∧
    (∃ (l4Time : Bool),
    ((((!l1Weig) || (!xMaskOk)) || (x4 == 0)) = false → PureX [] Tryz.prog fn_spec_l4Time #[.int .i64 x7] w (.bool l4Time)) ∧
    ((((((!l1Weig) || (!xMaskOk)) || (x4 == 0)) || (!l4Time)) || (((x13L : Nat) : Int) != ((w1L : Nat) : Int))) = true →
    R (.bool false) w) ∧
    ((((((!l1Weig) || (!xMaskOk)) || (x4 == 0)) || (!l4Time)) || (((x13L : Nat) : Int) != ((w1L : Nat) : Int))) = false →
    (((k == 0) && (((x3 != 10) || (x4 != 15)) || (x8 != 0))) = true →
    R (.bool false) w) ∧
    (((k == 0) && (((x3 != 10) || (x4 != 15)) || (x8 != 0))) = false →
    ((x8 == 0) = true →
    (∃ (l8NoBa1 : Bool),
    PureX [] Tryz.prog fn_spec_l8NoBand #[.agg #[.int .i64 x8, .int .i64 x9, .int .i64 x10, .slice x11O x11L x11C, .slice x12O x12L x12C]] w (.bool l8NoBa1) ∧
    R (.bool ((l8NoBa1 && (x5 == 0)) && (x6 == 0))) w)) ∧
    ((x8 == 0) = false →
    (∃ (xBandOk : Bool),
    PureX [] Tryz.prog fn_spec_BandOk #[.agg #[.int .i64 x8, .int .i64 x9, .int .i64 x10, .slice x11O x11L x11C, .slice x12O x12L x12C]] w (.bool xBandOk) ∧
    (∃ (l1In : Bool),
    ((xBandOk && (((x11L : Nat) : Int) == ((w1L : Nat) : Int))) = true → PureX [] Tryz.prog fn_spec_l1In #[.int .i64 x5, .int .i64 1, .int .i64 1000] w (.bool l1In)) ∧
    ((((xBandOk && (((x11L : Nat) : Int) == ((w1L : Nat) : Int))) && l1In) && (decide (x6 > w0))) = true → InR .i64 (x6 - w0)) ∧
    R (.bool ((((xBandOk && (((x11L : Nat) : Int) == ((w1L : Nat) : Int))) && l1In) && (decide (x6 > w0))) && (decide (x6 - w0 ≤ x5)))) w))))))))))))
theorem v_spec_l8GroupOk (w0 : Int) (w1O : Option Addr) (w1L : Nat) (w1C : Nat) (w2O : Option Addr) (w2L : Nat) (w2C : Nat) (w3O : Option Addr) (w3L : Nat) (w3C : Nat) (k : Int) (w : World) (R : Value → World → Prop) : evFn c_spec_l8GroupOk s_spec_l8GroupOk [.agg #[.int .i64 w0, .slice w1O w1L w1C, .slice w2O w2L w2C, .slice w3O w3L w3C], .int .i64 k] (bodyOf Tryz.f85) Tryz.f85.results.toList w R = V_spec_l8GroupOk w0 w1O w1L w1C w2O w2L w2C w3O w3L w3C k w R := by kernel_rfl
theorem p_spec_l8GroupOk (w0 : Int) (w1O : Option Addr) (w1L : Nat) (w1C : Nat) (w2O : Option Addr) (w2L : Nat) (w2C : Nat) (w3O : Option Addr) (w3L : Nat) (w3C : Nat) (k : Int) {w : World} {bs : List Nat} {ret : Value} (hvc : ∀ wr0, ExtX bs w wr0 → V_spec_l8GroupOk w0 w1O w1L w1C w2O w2L w2C w3O w3L w3C k wr0 fun v0 _ => v0 = ret) : PureX bs Tryz.prog fn_spec_l8GroupOk #[.agg #[.int .i64 w0, .slice w1O w1L w1C, .slice w2O w2L w2C, .slice w3O w3L w3C], .int .i64 k] w ret :=
  pure_of_ev (C := c_spec_l8GroupOk) (sps := s_spec_l8GroupOk) (body := bodyOf Tryz.f85) (env _ _ _ _) Tryz.func85 rfl rfl (of_decide_eq_true (by kernel_rfl)) (of_decide_eq_true (by kernel_rfl)) rfl fun wr0 hx0 => by rw [v_spec_l8GroupOk]; exact hvc wr0 hx0
noncomputable def c_spec_WeightOf : Cfg := { P := Tryz.prog, T := tblGet tbl, pf := pfT, ef := efT, tt := ttT, vis := [], n := 8, pm := true, wr := false }
noncomputable def s_spec_WeightOf : List (Nat × LSpec) := []
def V_spec_WeightOf (nice : Int) (w : World) (R : Value → World → Prop) : Prop :=
    (∃ (l1In : Bool),
    PureX [] Tryz.prog fn_spec_l1In #[.int .i64 nice, .int .i64 (-10), .int .i64 9] w (.bool l1In) ∧
    ((!l1In) = true →
    R (.int .i64 0) w) ∧
    ((!l1In) = false →
    InR .i64 (10 - nice) ∧
    R (.int .i64 (10 - nice)) w))
theorem v_spec_WeightOf (nice : Int) (w : World) (R : Value → World → Prop) : evFn c_spec_WeightOf s_spec_WeightOf [.int .i64 nice] (bodyOf Tryz.f102) Tryz.f102.results.toList w R = V_spec_WeightOf nice w R := by kernel_rfl
theorem p_spec_WeightOf (nice : Int) {w : World} {bs : List Nat} {ret : Value} (hvc : ∀ wr0, ExtX bs w wr0 → V_spec_WeightOf nice wr0 fun v0 _ => v0 = ret) : PureX bs Tryz.prog fn_spec_WeightOf #[.int .i64 nice] w ret :=
  pure_of_ev (C := c_spec_WeightOf) (sps := s_spec_WeightOf) (body := bodyOf Tryz.f102) (env _ _ _ _) Tryz.func102 rfl rfl (of_decide_eq_true (by kernel_rfl)) (of_decide_eq_true (by kernel_rfl)) rfl fun wr0 hx0 => by rw [v_spec_WeightOf]; exact hvc wr0 hx0
noncomputable def c_spec_MaskHas : Cfg := { P := Tryz.prog, T := tblGet tbl, pf := pfT, ef := efT, tt := ttT, vis := [], n := 19, pm := true, wr := false }
noncomputable def s_spec_MaskHas : List (Nat × LSpec) := []
def V_spec_MaskHas (m : Int) (cpu : Int) (w : World) (R : Value → World → Prop) : Prop :=
    (∃ (xMaskOk : Bool),
    PureX [] Tryz.prog fn_spec_MaskOk #[.int .i64 m] w (.bool xMaskOk) ∧
    (∃ (l1In : Bool),
    (xMaskOk = true → PureX [] Tryz.prog fn_spec_l1In #[.int .i64 cpu, .int .i64 0, .int .i64 3] w (.bool l1In)) ∧
    ((xMaskOk && l1In) = true → InR .u64 cpu) ∧
    ((xMaskOk && l1In) = true → 0 ≤ cpu) ∧
    ((xMaskOk && l1In) = true → (2 : Int) ≠ 0) ∧
    R (.bool ((xMaskOk && l1In) && ((Int.tmod (Int.fdiv m (2 ^ (min (Int.toNat cpu) 64))) 2) == 1))) w))
theorem v_spec_MaskHas (m : Int) (cpu : Int) (w : World) (R : Value → World → Prop) : evFn c_spec_MaskHas s_spec_MaskHas [.int .i64 m, .int .i64 cpu] (bodyOf Tryz.f113) Tryz.f113.results.toList w R = V_spec_MaskHas m cpu w R := by kernel_rfl
theorem p_spec_MaskHas (m : Int) (cpu : Int) {w : World} {bs : List Nat} {ret : Value} (hvc : ∀ wr0, ExtX bs w wr0 → V_spec_MaskHas m cpu wr0 fun v0 _ => v0 = ret) : PureX bs Tryz.prog fn_spec_MaskHas #[.int .i64 m, .int .i64 cpu] w ret :=
  pure_of_ev (C := c_spec_MaskHas) (sps := s_spec_MaskHas) (body := bodyOf Tryz.f113) (env _ _ _ _) Tryz.func113 rfl rfl (of_decide_eq_true (by kernel_rfl)) (of_decide_eq_true (by kernel_rfl)) rfl fun wr0 hx0 => by rw [v_spec_MaskHas]; exact hvc wr0 hx0
noncomputable def c_spec_MaskAnd : Cfg := { P := Tryz.prog, T := tblGet tbl, pf := pfT, ef := efT, tt := ttT, vis := [], n := 33, pm := true, wr := false }
noncomputable def s_spec_MaskAnd : List (Nat × LSpec) := [(5, { chg := [(5, .int .i64), (6, .int .i64)], chgL := [], keep := [0, 1] })]
def V_spec_MaskAnd (a : Int) (b : Int) (w : World) (R : Value → World → Prop) : Prop :=
    (∃ (xMaskOk : Bool),
    PureX [] Tryz.prog fn_spec_MaskOk #[.int .i64 a] w (.bool xMaskOk) ∧
    (∃ (xMaskOk1 : Bool),
    ((!xMaskOk) = false → PureX [] Tryz.prog fn_spec_MaskOk #[.int .i64 b] w (.bool xMaskOk1)) ∧
    (((!xMaskOk) || (!xMaskOk1)) = true →
    R (.int .i64 0) w) ∧
    (((!xMaskOk) || (!xMaskOk1)) = false →
    (∃ (xInv : List Value → Prop) (mu : List Value → Nat), xInv [.int .i64 0, .int .i64 0] ∧
    ∀ (m : Int) (c : Int), xInv [.int .i64 m, .int .i64 c] →
    ((decide (c < 4)) = true →
    (∃ (xMaskHa : Bool),
    PureX [] Tryz.prog fn_spec_MaskHas #[.int .i64 a, .int .i64 c] w (.bool xMaskHa) ∧
    (∃ (xMaskHa1 : Bool),
    (xMaskHa = true → PureX [] Tryz.prog fn_spec_MaskHas #[.int .i64 b, .int .i64 c] w (.bool xMaskHa1)) ∧
    ((xMaskHa && xMaskHa1) = true →
    InR .u64 c ∧
    (0 ≤ c ∧ InR .i64 (1 * 2 ^ (min (Int.toNat c) 64))) ∧
    InR .i64 (m + (1 * 2 ^ (min (Int.toNat c) 64))) ∧
    InR .i64 (c + 1) ∧
    xInv [.int .i64 (m + (1 * 2 ^ (min (Int.toNat c) 64))), .int .i64 (c + 1)] ∧ mu [.int .i64 (m + (1 * 2 ^ (min (Int.toNat c) 64))), .int .i64 (c + 1)] < mu [.int .i64 m, .int .i64 c]) ∧
    ((xMaskHa && xMaskHa1) = false →
    InR .i64 (c + 1) ∧
    xInv [.int .i64 m, .int .i64 (c + 1)] ∧ mu [.int .i64 m, .int .i64 (c + 1)] < mu [.int .i64 m, .int .i64 c])))) ∧
    ((decide (c < 4)) = false →
    R (.int .i64 m) w)))))
theorem v_spec_MaskAnd (a : Int) (b : Int) (w : World) (R : Value → World → Prop) : evFn c_spec_MaskAnd s_spec_MaskAnd [.int .i64 a, .int .i64 b] (bodyOf Tryz.f179) Tryz.f179.results.toList w R = V_spec_MaskAnd a b w R := by kernel_rfl
theorem p_spec_MaskAnd (a : Int) (b : Int) {w : World} {bs : List Nat} {ret : Value} (hvc : ∀ wr0, ExtX bs w wr0 → V_spec_MaskAnd a b wr0 fun v0 _ => v0 = ret) : PureX bs Tryz.prog fn_spec_MaskAnd #[.int .i64 a, .int .i64 b] w ret :=
  pure_of_ev (C := c_spec_MaskAnd) (sps := s_spec_MaskAnd) (body := bodyOf Tryz.f179) (env _ _ _ _) Tryz.func179 rfl rfl (of_decide_eq_true (by kernel_rfl)) (of_decide_eq_true (by kernel_rfl)) rfl fun wr0 hx0 => by rw [v_spec_MaskAnd]; exact hvc wr0 hx0
noncomputable def c_spec_l8Pins : Cfg := { P := Tryz.prog, T := tblGet tbl, pf := pfT, ef := efT, tt := ttT, vis := [], n := 29, pm := true, wr := false }
noncomputable def s_spec_l8Pins : List (Nat × LSpec) := [(2, { chg := [(1, .int .i64), (5, .int .i64)], chgL := [], keep := [2] })]
def V_spec_l8Pins (w0 : Int) (w1O : Option Addr) (w1L : Nat) (w1C : Nat) (w2O : Option Addr) (w2L : Nat) (w2C : Nat) (w3O : Option Addr) (w3L : Nat) (w3C : Nat) (g : Int) (w : World) (R : Value → World → Prop) : Prop :=
    (∀ b, w.heap.size ≤ b →
    Ix w3O w3L g ∧
    (∃ (cpus : Int),
    CellsX [] w w3O (Int.toNat g * 14 + 4) [.int .i64 cpus] ∧
    (∃ (xInv : List Value → Prop) (mu : List Value → Nat), xInv [.int .i64 g, .int .i64 cpus] ∧
    ∀ (g1 : Int) (m : Int), xInv [.int .i64 g1, .int .i64 m] →
    ((g1 != 0) = true →
    Ix w3O w3L g1 ∧
    (∃ (parent : Int),
    CellsX [] w w3O (Int.toNat g1 * 14 + 1) [.int .i64 parent] ∧
    Ix w3O w3L parent ∧
    (∃ (cpus1 : Int),
    CellsX [] w w3O (Int.toNat parent * 14 + 4) [.int .i64 cpus1] ∧
    (∃ (xMaskAn : Int),
    PureX [] Tryz.prog fn_spec_MaskAnd #[.int .i64 m, .int .i64 cpus1] w (.int .i64 xMaskAn) ∧
    xInv [.int .i64 parent, .int .i64 xMaskAn] ∧ mu [.int .i64 parent, .int .i64 xMaskAn] < mu [.int .i64 g1, .int .i64 m])))) ∧
    ((g1 != 0) = false →
    R (.int .i64 m) w))))
theorem v_spec_l8Pins (w0 : Int) (w1O : Option Addr) (w1L : Nat) (w1C : Nat) (w2O : Option Addr) (w2L : Nat) (w2C : Nat) (w3O : Option Addr) (w3L : Nat) (w3C : Nat) (g : Int) (w : World) (R : Value → World → Prop) : evFn c_spec_l8Pins s_spec_l8Pins [.agg #[.int .i64 w0, .slice w1O w1L w1C, .slice w2O w2L w2C, .slice w3O w3L w3C], .int .i64 g] (bodyOf Tryz.f180) Tryz.f180.results.toList w R = V_spec_l8Pins w0 w1O w1L w1C w2O w2L w2C w3O w3L w3C g w R := by kernel_rfl
theorem p_spec_l8Pins (w0 : Int) (w1O : Option Addr) (w1L : Nat) (w1C : Nat) (w2O : Option Addr) (w2L : Nat) (w2C : Nat) (w3O : Option Addr) (w3L : Nat) (w3C : Nat) (g : Int) {w : World} {bs : List Nat} {ret : Value} (hvc : ∀ wr0, ExtX bs w wr0 → V_spec_l8Pins w0 w1O w1L w1C w2O w2L w2C w3O w3L w3C g wr0 fun v0 _ => v0 = ret) : PureX bs Tryz.prog fn_spec_l8Pins #[.agg #[.int .i64 w0, .slice w1O w1L w1C, .slice w2O w2L w2C, .slice w3O w3L w3C], .int .i64 g] w ret :=
  pure_of_ev (C := c_spec_l8Pins) (sps := s_spec_l8Pins) (body := bodyOf Tryz.f180) (env _ _ _ _) Tryz.func180 rfl rfl (of_decide_eq_true (by kernel_rfl)) (of_decide_eq_true (by kernel_rfl)) rfl fun wr0 hx0 => by rw [v_spec_l8Pins]; exact hvc wr0 hx0
noncomputable def c_spec_l8Where : Cfg := { P := Tryz.prog, T := tblGet tbl, pf := pfT, ef := efT, tt := ttT, vis := [], n := 27, pm := true, wr := false }
noncomputable def s_spec_l8Where : List (Nat × LSpec) := []
def V_spec_l8Where (w0 : Int) (w1O : Option Addr) (w1L : Nat) (w1C : Nat) (w2O : Option Addr) (w2L : Nat) (w2C : Nat) (w3O : Option Addr) (w3L : Nat) (w3C : Nat) (g : Int) (mask : Int) (w : World) (R : Value → World → Prop) : Prop :=
    (∀ b, w.heap.size ≤ b →
    (∃ (l8Ups : Int),
    PureX [] Tryz.prog fn_spec_l8Ups #[.agg #[.int .i64 w0, .slice w1O w1L w1C, .slice w2O w2L w2C, .slice w3O w3L w3C]] w (.int .i64 l8Ups) ∧
    (∃ (l8Pins : Int),
    PureX [] Tryz.prog fn_spec_l8Pins #[.agg #[.int .i64 w0, .slice w1O w1L w1C, .slice w2O w2L w2C, .slice w3O w3L w3C], .int .i64 g] w (.int .i64 l8Pins) ∧
    (∃ (xMaskAn : Int),
    PureX [] Tryz.prog fn_spec_MaskAnd #[.int .i64 l8Pins, .int .i64 l8Ups] w (.int .i64 xMaskAn) ∧
    (∃ (xMaskAn1 : Int),
    PureX [] Tryz.prog fn_spec_MaskAnd #[.int .i64 mask, .int .i64 xMaskAn] w (.int .i64 xMaskAn1) ∧
    ((xMaskAn1 != 0) = true →
    R (.int .i64 xMaskAn1) w) ∧
    ((xMaskAn1 != 0) = false →
    ((xMaskAn != 0) = true →
    R (.int .i64 xMaskAn) w) ∧
    ((xMaskAn != 0) = false →
    R (.int .i64 l8Ups) w)))))))
theorem v_spec_l8Where (w0 : Int) (w1O : Option Addr) (w1L : Nat) (w1C : Nat) (w2O : Option Addr) (w2L : Nat) (w2C : Nat) (w3O : Option Addr) (w3L : Nat) (w3C : Nat) (g : Int) (mask : Int) (w : World) (R : Value → World → Prop) : evFn c_spec_l8Where s_spec_l8Where [.agg #[.int .i64 w0, .slice w1O w1L w1C, .slice w2O w2L w2C, .slice w3O w3L w3C], .int .i64 g, .int .i64 mask] (bodyOf Tryz.f139) Tryz.f139.results.toList w R = V_spec_l8Where w0 w1O w1L w1C w2O w2L w2C w3O w3L w3C g mask w R := by kernel_rfl
theorem p_spec_l8Where (w0 : Int) (w1O : Option Addr) (w1L : Nat) (w1C : Nat) (w2O : Option Addr) (w2L : Nat) (w2C : Nat) (w3O : Option Addr) (w3L : Nat) (w3C : Nat) (g : Int) (mask : Int) {w : World} {bs : List Nat} {ret : Value} (hvc : ∀ wr0, ExtX bs w wr0 → V_spec_l8Where w0 w1O w1L w1C w2O w2L w2C w3O w3L w3C g mask wr0 fun v0 _ => v0 = ret) : PureX bs Tryz.prog fn_spec_l8Where #[.agg #[.int .i64 w0, .slice w1O w1L w1C, .slice w2O w2L w2C, .slice w3O w3L w3C], .int .i64 g, .int .i64 mask] w ret :=
  pure_of_ev (C := c_spec_l8Where) (sps := s_spec_l8Where) (body := bodyOf Tryz.f139) (env _ _ _ _) Tryz.func139 rfl rfl (of_decide_eq_true (by kernel_rfl)) (of_decide_eq_true (by kernel_rfl)) rfl fun wr0 hx0 => by rw [v_spec_l8Where]; exact hvc wr0 hx0
noncomputable def c_spec_VirtualStep : Cfg := { P := Tryz.prog, T := tblGet tbl, pf := pfT, ef := efT, tt := ttT, vis := [], n := 17, pm := true, wr := false }
noncomputable def s_spec_VirtualStep : List (Nat × LSpec) := []
def V_spec_VirtualStep (units : Int) (weight : Int) (w : World) (R : Value → World → Prop) : Prop :=
    (∃ (l1Weig : Bool),
    PureX [] Tryz.prog fn_spec_l1Weight #[.int .i64 weight] w (.bool l1Weig) ∧
    (∃ (l1In : Bool),
    ((!l1Weig) = false → PureX [] Tryz.prog fn_spec_l1In #[.int .i64 units, .int .i64 0, .int .i64 100000000] w (.bool l1In)) ∧
    (((!l1Weig) || (!l1In)) = true →
    R (.int .i64 0) w) ∧
    (((!l1Weig) || (!l1In)) = false →
    (weight ≠ 0 ∧ InR .i64 (Int.tdiv 232792560 weight)) ∧
    InR .i64 (units * (Int.tdiv 232792560 weight)) ∧
    R (.int .i64 (units * (Int.tdiv 232792560 weight))) w)))
theorem v_spec_VirtualStep (units : Int) (weight : Int) (w : World) (R : Value → World → Prop) : evFn c_spec_VirtualStep s_spec_VirtualStep [.int .i64 units, .int .i64 weight] (bodyOf Tryz.f182) Tryz.f182.results.toList w R = V_spec_VirtualStep units weight w R := by kernel_rfl
theorem p_spec_VirtualStep (units : Int) (weight : Int) {w : World} {bs : List Nat} {ret : Value} (hvc : ∀ wr0, ExtX bs w wr0 → V_spec_VirtualStep units weight wr0 fun v0 _ => v0 = ret) : PureX bs Tryz.prog fn_spec_VirtualStep #[.int .i64 units, .int .i64 weight] w ret :=
  pure_of_ev (C := c_spec_VirtualStep) (sps := s_spec_VirtualStep) (body := bodyOf Tryz.f182) (env _ _ _ _) Tryz.func182 rfl rfl (of_decide_eq_true (by kernel_rfl)) (of_decide_eq_true (by kernel_rfl)) rfl fun wr0 hx0 => by rw [v_spec_VirtualStep]; exact hvc wr0 hx0
noncomputable def c_spec_LagMost : Cfg := { P := Tryz.prog, T := tblGet tbl, pf := pfT, ef := efT, tt := ttT, vis := [], n := 5, pm := true, wr := false }
noncomputable def s_spec_LagMost : List (Nat × LSpec) := []
def V_spec_LagMost (weight : Int) (w : World) (R : Value → World → Prop) : Prop :=
    (∃ (xVirtua : Int),
    PureX [] Tryz.prog fn_spec_VirtualStep #[.int .i64 149, .int .i64 weight] w (.int .i64 xVirtua) ∧
    R (.int .i64 xVirtua) w)
theorem v_spec_LagMost (weight : Int) (w : World) (R : Value → World → Prop) : evFn c_spec_LagMost s_spec_LagMost [.int .i64 weight] (bodyOf Tryz.f181) Tryz.f181.results.toList w R = V_spec_LagMost weight w R := by kernel_rfl
theorem p_spec_LagMost (weight : Int) {w : World} {bs : List Nat} {ret : Value} (hvc : ∀ wr0, ExtX bs w wr0 → V_spec_LagMost weight wr0 fun v0 _ => v0 = ret) : PureX bs Tryz.prog fn_spec_LagMost #[.int .i64 weight] w ret :=
  pure_of_ev (C := c_spec_LagMost) (sps := s_spec_LagMost) (body := bodyOf Tryz.f181) (env _ _ _ _) Tryz.func181 rfl rfl (of_decide_eq_true (by kernel_rfl)) (of_decide_eq_true (by kernel_rfl)) rfl fun wr0 hx0 => by rw [v_spec_LagMost]; exact hvc wr0 hx0
noncomputable def c_spec_l8Stand : Cfg := { P := Tryz.prog, T := tblGet tbl, pf := pfT, ef := efT, tt := ttT, vis := [], n := 18, pm := true, wr := true }
noncomputable def s_spec_l8Stand : List (Nat × LSpec) := []
def V_spec_l8Stand (v : Int) (floor : Int) (weight : Int) (w : World) (R : Value → World → Prop) : Prop :=
    (∃ (d : Int),
    ((decide (v ≥ floor)) = true → (∀ wq, ((do eqGuard .sub ty_int (.tmp 11) (.tmp 12) (.int .i64 v) (.int .i64 floor); binOp .sub ty_int (.int .i64 v) (.int .i64 floor)) : Sem Value).run Tryz.prog wq = .ok (.int .i64 d) wq)) ∧
    (∃ (xLagMos : Int),
    ((decide (v ≥ floor)) = true → PureX [] Tryz.prog fn_spec_LagMost #[.int .i64 weight] w (.int .i64 xLagMos)) ∧
    R (.bool ((decide (v ≥ floor)) && (decide (d ≤ xLagMos)))) w))
theorem v_spec_l8Stand (v : Int) (floor : Int) (weight : Int) (w : World) (R : Value → World → Prop) : evFn c_spec_l8Stand s_spec_l8Stand [.int .i64 v, .int .i64 floor, .int .i64 weight] (bodyOf Tryz.f140) Tryz.f140.results.toList w R = V_spec_l8Stand v floor weight w R := by kernel_rfl
theorem p_spec_l8Stand (v : Int) (floor : Int) (weight : Int) {w : World} {bs : List Nat} {ret : Value} (hvc : ∀ wr0, ExtX bs w wr0 → V_spec_l8Stand v floor weight wr0 fun v0 _ => v0 = ret) : PureX bs Tryz.prog fn_spec_l8Stand #[.int .i64 v, .int .i64 floor, .int .i64 weight] w ret :=
  pure_of_ev (C := c_spec_l8Stand) (sps := s_spec_l8Stand) (body := bodyOf Tryz.f140) (env _ _ _ _) Tryz.func140 rfl rfl (of_decide_eq_true (by kernel_rfl)) (of_decide_eq_true (by kernel_rfl)) rfl fun wr0 hx0 => by rw [v_spec_l8Stand]; exact hvc wr0 hx0
noncomputable def c_spec_l8TaskOk : Cfg := { P := Tryz.prog, T := tblGet tbl, pf := pfT, ef := efT, tt := ttT, vis := [], n := 107, pm := true, wr := false }
noncomputable def s_spec_l8TaskOk : List (Nat × LSpec) := []
def V_spec_l8TaskOk (w0 : Int) (w1O : Option Addr) (w1L : Nat) (w1C : Nat) (w2O : Option Addr) (w2L : Nat) (w2C : Nat) (w3O : Option Addr) (w3L : Nat) (w3C : Nat) (t : Int) (w : World) (R : Value → World → Prop) : Prop :=
    (∀ b, w.heap.size ≤ b →
    Ix w2O w2L t ∧
    (∃ (x0 : Int) (x1 : Int) (x2 : Int) (x3 : Int) (x4 : Int) (x5 : Int) (x6 : Int) (x7 : Int) (x8 : Int),
    CellsX [] w w2O (Int.toNat t * 9) [.int .i64 x0, .int .i64 x1, .int .i64 x2, .int .i64 x3, .int .i64 x4, .int .i64 x5, .int .i64 x6, .int .i64 x7, .int .i64 x8] ∧
    (∀ b1, w.heap.size ≤ b1 →
    ((x0 == 0) = true →
    (∃ (eq : Bool),
    (∀ wq, ((do eqGuard .eql ty_impl_Task (.tmp 14) (.tmp 15) (.agg #[.int .i64 x0, .int .i64 x1, .int .i64 x2, .int .i64 x3, .int .i64 x4, .int .i64 x5, .int .i64 x6, .int .i64 x7, .int .i64 x8]) (.agg #[.int .i64 0, .int .i64 0, .int .i64 0, .int .i64 0, .int .i64 0, .int .i64 0, .int .i64 0, .int .i64 0, .int .i64 0]); binOp .eql ty_impl_Task (.agg #[.int .i64 x0, .int .i64 x1, .int .i64 x2, .int .i64 x3, .int .i64 x4, .int .i64 x5, .int .i64 x6, .int .i64 x7, .int .i64 x8]) (.agg #[.int .i64 0, .int .i64 0, .int .i64 0, .int .i64 0, .int .i64 0, .int .i64 0, .int .i64 0, .int .i64 0, .int .i64 0])) : Sem Value).run Tryz.prog wq = .ok (.bool eq) wq) ∧
    R (.bool eq) w)) ∧
    ((x0 == 0) = false →
    (∃ (l6Used : Bool),
    (((x0 != 1) && (x0 != 2)) = false → PureX [] Tryz.prog fn_spec_l6Used #[.slice w3O w3L w3C, .int .i64 x1] w (.bool l6Used)) ∧
    (∃ (xWeight : Int),
    ((((x0 != 1) && (x0 != 2)) || (!l6Used)) = false → PureX [] Tryz.prog fn_spec_WeightOf #[.int .i64 x3] w (.int .i64 xWeight)) ∧
    (∃ (xMaskOk : Bool),
    (((((x0 != 1) && (x0 != 2)) || (!l6Used)) || (xWeight == 0)) = false → PureX [] Tryz.prog fn_spec_MaskOk #[.int .i64 x4] w (.bool xMaskOk)) ∧
    (((((((x0 != 1) && (x0 != 2)) || (!l6Used)) || (xWeight == 0)) || (!xMaskOk)) || (x4 == 0)) = true →
    R (.bool false) w) ∧
    (((((((x0 != 1) && (x0 != 2)) || (!l6Used)) || (xWeight == 0)) || (!xMaskOk)) || (x4 == 0)) = false →
    (∃ (l4Time : Bool),
    PureX [] Tryz.prog fn_spec_l4Time #[.int .i64 x5] w (.bool l4Time) ∧
    (∃ (l4Time1 : Bool),
    ((!l4Time) = false → PureX [] Tryz.prog fn_spec_l4Time #[.int .i64 x6] w (.bool l4Time1)) ∧
    (∃ (l4Time2 : Bool),
    (((!l4Time) || (!l4Time1)) = false → PureX [] Tryz.prog fn_spec_l4Time #[.int .i64 x7] w (.bool l4Time2)) ∧
    (∃ (l1In : Bool),
    ((((!l4Time) || (!l4Time1)) || (!l4Time2)) = false → PureX [] Tryz.prog fn_spec_l1In #[.int .i64 x8, .int .i64 0, .int .i64 8000000] w (.bool l1In)) ∧
    (∃ (l8Wher : Int),
    (((((!l4Time) || (!l4Time1)) || (!l4Time2)) || (!l1In)) = false → PureX [] Tryz.prog fn_spec_l8Where #[.agg #[.int .i64 w0, .slice w1O w1L w1C, .slice w2O w2L w2C, .slice w3O w3L w3C], .int .i64 x1, .int .i64 x4] w (.int .i64 l8Wher)) ∧
    (∃ (xMaskHa : Bool),
    (((((!l4Time) || (!l4Time1)) || (!l4Time2)) || (!l1In)) = false → PureX [] Tryz.prog fn_spec_MaskHas #[.int .i64 l8Wher, .int .i64 x2] w (.bool xMaskHa)) ∧
    ((((((!l4Time) || (!l4Time1)) || (!l4Time2)) || (!l1In)) || (!xMaskHa)) = true →
    R (.bool false) w) ∧
    ((((((!l4Time) || (!l4Time1)) || (!l4Time2)) || (!l1In)) || (!xMaskHa)) = false →
    ((x0 == 2) = false → Ix w3O w3L x1) ∧
    (∃ (shelvesO : Option Addr) (shelvesL : Nat) (shelvesC : Nat),
    ((x0 == 2) = false → CellsX [] w w3O (Int.toNat x1 * 14 + 13) [.slice shelvesO shelvesL shelvesC]) ∧
    ((x0 == 2) = false → Ix shelvesO shelvesL x2) ∧
    (∃ (floor : Int),
    ((x0 == 2) = false → CellsX [] w shelvesO (Int.toNat x2 * 5 + 0) [.int .i64 floor]) ∧
    (∃ (xWeight1 : Int),
    ((x0 == 2) = false → PureX [] Tryz.prog fn_spec_WeightOf #[.int .i64 x3] w (.int .i64 xWeight1)) ∧
    (∃ (l8Stan : Bool),
    ((x0 == 2) = false → PureX [] Tryz.prog fn_spec_l8Stand #[.int .i64 x5, .int .i64 floor, .int .i64 xWeight1] w (.bool l8Stan)) ∧
    R (.bool ((x0 == 2) || l8Stan)) w)))))))))))))))))))
theorem v_spec_l8TaskOk (w0 : Int) (w1O : Option Addr) (w1L : Nat) (w1C : Nat) (w2O : Option Addr) (w2L : Nat) (w2C : Nat) (w3O : Option Addr) (w3L : Nat) (w3C : Nat) (t : Int) (w : World) (R : Value → World → Prop) : evFn c_spec_l8TaskOk s_spec_l8TaskOk [.agg #[.int .i64 w0, .slice w1O w1L w1C, .slice w2O w2L w2C, .slice w3O w3L w3C], .int .i64 t] (bodyOf Tryz.f86) Tryz.f86.results.toList w R = V_spec_l8TaskOk w0 w1O w1L w1C w2O w2L w2C w3O w3L w3C t w R := by kernel_rfl
theorem p_spec_l8TaskOk (w0 : Int) (w1O : Option Addr) (w1L : Nat) (w1C : Nat) (w2O : Option Addr) (w2L : Nat) (w2C : Nat) (w3O : Option Addr) (w3L : Nat) (w3C : Nat) (t : Int) {w : World} {bs : List Nat} {ret : Value} (hvc : ∀ wr0, ExtX bs w wr0 → V_spec_l8TaskOk w0 w1O w1L w1C w2O w2L w2C w3O w3L w3C t wr0 fun v0 _ => v0 = ret) : PureX bs Tryz.prog fn_spec_l8TaskOk #[.agg #[.int .i64 w0, .slice w1O w1L w1C, .slice w2O w2L w2C, .slice w3O w3L w3C], .int .i64 t] w ret :=
  pure_of_ev (C := c_spec_l8TaskOk) (sps := s_spec_l8TaskOk) (body := bodyOf Tryz.f86) (env _ _ _ _) Tryz.func86 rfl rfl (of_decide_eq_true (by kernel_rfl)) (of_decide_eq_true (by kernel_rfl)) rfl fun wr0 hx0 => by rw [v_spec_l8TaskOk]; exact hvc wr0 hx0
noncomputable def c_spec_l8Queued : Cfg := { P := Tryz.prog, T := tblGet tbl, pf := pfT, ef := efT, tt := ttT, vis := [], n := 17, pm := true, wr := false }
noncomputable def s_spec_l8Queued : List (Nat × LSpec) := []
def V_spec_l8Queued (w0 : Int) (w1O : Option Addr) (w1L : Nat) (w1C : Nat) (w2O : Option Addr) (w2L : Nat) (w2C : Nat) (w3O : Option Addr) (w3L : Nat) (w3C : Nat) (g : Int) (c : Int) (w : World) (R : Value → World → Prop) : Prop :=
    (∀ b, w.heap.size ≤ b →
    Ix w3O w3L g ∧
    (∃ (shelvesO : Option Addr) (shelvesL : Nat) (shelvesC : Nat),
    CellsX [] w w3O (Int.toNat g * 14 + 13) [.slice shelvesO shelvesL shelvesC] ∧
    Ix shelvesO shelvesL c ∧
    (∃ (onv : Bool),
    CellsX [] w shelvesO (Int.toNat c * 5 + 1) [.bool onv] ∧
    R (.bool onv) w)))
theorem v_spec_l8Queued (w0 : Int) (w1O : Option Addr) (w1L : Nat) (w1C : Nat) (w2O : Option Addr) (w2L : Nat) (w2C : Nat) (w3O : Option Addr) (w3L : Nat) (w3C : Nat) (g : Int) (c : Int) (w : World) (R : Value → World → Prop) : evFn c_spec_l8Queued s_spec_l8Queued [.agg #[.int .i64 w0, .slice w1O w1L w1C, .slice w2O w2L w2C, .slice w3O w3L w3C], .int .i64 g, .int .i64 c] (bodyOf Tryz.f89) Tryz.f89.results.toList w R = V_spec_l8Queued w0 w1O w1L w1C w2O w2L w2C w3O w3L w3C g c w R := by kernel_rfl
theorem p_spec_l8Queued (w0 : Int) (w1O : Option Addr) (w1L : Nat) (w1C : Nat) (w2O : Option Addr) (w2L : Nat) (w2C : Nat) (w3O : Option Addr) (w3L : Nat) (w3C : Nat) (g : Int) (c : Int) {w : World} {bs : List Nat} {ret : Value} (hvc : ∀ wr0, ExtX bs w wr0 → V_spec_l8Queued w0 w1O w1L w1C w2O w2L w2C w3O w3L w3C g c wr0 fun v0 _ => v0 = ret) : PureX bs Tryz.prog fn_spec_l8Queued #[.agg #[.int .i64 w0, .slice w1O w1L w1C, .slice w2O w2L w2C, .slice w3O w3L w3C], .int .i64 g, .int .i64 c] w ret :=
  pure_of_ev (C := c_spec_l8Queued) (sps := s_spec_l8Queued) (body := bodyOf Tryz.f89) (env _ _ _ _) Tryz.func89 rfl rfl (of_decide_eq_true (by kernel_rfl)) (of_decide_eq_true (by kernel_rfl)) rfl fun wr0 hx0 => by rw [v_spec_l8Queued]; exact hvc wr0 hx0
noncomputable def c_spec_l8Active : Cfg := { P := Tryz.prog, T := tblGet tbl, pf := pfT, ef := efT, tt := ttT, vis := [], n := 72, pm := true, wr := false }
noncomputable def s_spec_l8Active : List (Nat × LSpec) := [(2, { chg := [(7, .int .i64)], chgL := [], keep := [1, 2, 3] }), (7, { chg := [(8, .int .i64)], chgL := [], keep := [1, 2, 3] })]
def V_spec_l8Active (w0 : Int) (w1O : Option Addr) (w1L : Nat) (w1C : Nat) (w2O : Option Addr) (w2L : Nat) (w2C : Nat) (w3O : Option Addr) (w3L : Nat) (w3C : Nat) (g : Int) (c : Int) (w : World) (R : Value → World → Prop) : Prop :=
    (∀ b, w.heap.size ≤ b →
    (∃ (xInv : List Value → Prop) (mu : List Value → Nat), xInv [.int .i64 0] ∧
    ∀ (t : Int), xInv [.int .i64 t] →
    ((decide (t < ((w2L : Nat) : Int))) = true →
    Ix w2O w2L t ∧
    (∃ (state : Int),
    CellsX [] w w2O (Int.toNat t * 9 + 0) [.int .i64 state] ∧
    ((state == 1) = true → Ix w2O w2L t) ∧
    (∃ (group : Int),
    ((state == 1) = true → CellsX [] w w2O (Int.toNat t * 9 + 1) [.int .i64 group]) ∧
    (((state == 1) && (group == g)) = true → Ix w2O w2L t) ∧
    (∃ (cpu : Int),
    (((state == 1) && (group == g)) = true → CellsX [] w w2O (Int.toNat t * 9 + 2) [.int .i64 cpu]) ∧
    ((((state == 1) && (group == g)) && (cpu == c)) = true →
    R (.bool true) w) ∧
    ((((state == 1) && (group == g)) && (cpu == c)) = false →
    InR .i64 (t + 1) ∧
    xInv [.int .i64 (t + 1)] ∧ mu [.int .i64 (t + 1)] < mu [.int .i64 t]))))) ∧
    ((decide (t < ((w2L : Nat) : Int))) = false →
    (∃ (xInv1 : List Value → Prop) (mu1 : List Value → Nat), xInv1 [.int .i64 1] ∧
    ∀ (h : Int), xInv1 [.int .i64 h] →
    ((decide (h < ((w3L : Nat) : Int))) = true →
    Ix w3O w3L h ∧
    (∃ (used : Bool),
    CellsX [] w w3O (Int.toNat h * 14 + 0) [.bool used] ∧
    (used = true → Ix w3O w3L h) ∧
    (∃ (parent : Int),
    (used = true → CellsX [] w w3O (Int.toNat h * 14 + 1) [.int .i64 parent]) ∧
    (∃ (l8Queu : Bool),
    ((used && (parent == g)) = true → PureX [] Tryz.prog fn_spec_l8Queued #[.agg #[.int .i64 w0, .slice w1O w1L w1C, .slice w2O w2L w2C, .slice w3O w3L w3C], .int .i64 h, .int .i64 c] w (.bool l8Queu)) ∧
    (((used && (parent == g)) && l8Queu) = true →
    R (.bool true) w) ∧
    (((used && (parent == g)) && l8Queu) = false →
    InR .i64 (h + 1) ∧
    xInv1 [.int .i64 (h + 1)] ∧ mu1 [.int .i64 (h + 1)] < mu1 [.int .i64 h]))))) ∧
    ((decide (h < ((w3L : Nat) : Int))) = false →
    R (.bool false) w)))))
theorem v_spec_l8Active (w0 : Int) (w1O : Option Addr) (w1L : Nat) (w1C : Nat) (w2O : Option Addr) (w2L : Nat) (w2C : Nat) (w3O : Option Addr) (w3L : Nat) (w3C : Nat) (g : Int) (c : Int) (w : World) (R : Value → World → Prop) : evFn c_spec_l8Active s_spec_l8Active [.agg #[.int .i64 w0, .slice w1O w1L w1C, .slice w2O w2L w2C, .slice w3O w3L w3C], .int .i64 g, .int .i64 c] (bodyOf Tryz.f141) Tryz.f141.results.toList w R = V_spec_l8Active w0 w1O w1L w1C w2O w2L w2C w3O w3L w3C g c w R := by kernel_rfl
theorem p_spec_l8Active (w0 : Int) (w1O : Option Addr) (w1L : Nat) (w1C : Nat) (w2O : Option Addr) (w2L : Nat) (w2C : Nat) (w3O : Option Addr) (w3L : Nat) (w3C : Nat) (g : Int) (c : Int) {w : World} {bs : List Nat} {ret : Value} (hvc : ∀ wr0, ExtX bs w wr0 → V_spec_l8Active w0 w1O w1L w1C w2O w2L w2C w3O w3L w3C g c wr0 fun v0 _ => v0 = ret) : PureX bs Tryz.prog fn_spec_l8Active #[.agg #[.int .i64 w0, .slice w1O w1L w1C, .slice w2O w2L w2C, .slice w3O w3L w3C], .int .i64 g, .int .i64 c] w ret :=
  pure_of_ev (C := c_spec_l8Active) (sps := s_spec_l8Active) (body := bodyOf Tryz.f141) (env _ _ _ _) Tryz.func141 rfl rfl (of_decide_eq_true (by kernel_rfl)) (of_decide_eq_true (by kernel_rfl)) rfl fun wr0 hx0 => by rw [v_spec_l8Active]; exact hvc wr0 hx0
noncomputable def c_spec_l8Dry : Cfg := { P := Tryz.prog, T := tblGet tbl, pf := pfT, ef := efT, tt := ttT, vis := [], n := 24, pm := true, wr := false }
noncomputable def s_spec_l8Dry : List (Nat × LSpec) := []
def V_spec_l8Dry (w0 : Int) (w1O : Option Addr) (w1L : Nat) (w1C : Nat) (w2O : Option Addr) (w2L : Nat) (w2C : Nat) (w3O : Option Addr) (w3L : Nat) (w3C : Nat) (g : Int) (c : Int) (w : World) (R : Value → World → Prop) : Prop :=
    (∀ b, w.heap.size ≤ b →
    Ix w3O w3L g ∧
    (∃ (band0 : Int) (band1 : Int) (band2 : Int) (band3O : Option Addr) (band3L : Nat) (band3C : Nat) (band4O : Option Addr) (band4L : Nat) (band4C : Nat),
    CellsX [] w w3O (Int.toNat g * 14 + 8) [.int .i64 band0, .int .i64 band1, .int .i64 band2, .slice band3O band3L band3C, .slice band4O band4L band4C] ∧
    (∀ b1, w.heap.size ≤ b1 →
    ((decide (band0 > 0)) = true → Ix band4O band4L c) ∧
    (∃ (x : Bool),
    ((decide (band0 > 0)) = true → CellsX [] w band4O (Int.toNat c * 1) [.bool x]) ∧
    R (.bool ((decide (band0 > 0)) && x)) w))))
theorem v_spec_l8Dry (w0 : Int) (w1O : Option Addr) (w1L : Nat) (w1C : Nat) (w2O : Option Addr) (w2L : Nat) (w2C : Nat) (w3O : Option Addr) (w3L : Nat) (w3C : Nat) (g : Int) (c : Int) (w : World) (R : Value → World → Prop) : evFn c_spec_l8Dry s_spec_l8Dry [.agg #[.int .i64 w0, .slice w1O w1L w1C, .slice w2O w2L w2C, .slice w3O w3L w3C], .int .i64 g, .int .i64 c] (bodyOf Tryz.f142) Tryz.f142.results.toList w R = V_spec_l8Dry w0 w1O w1L w1C w2O w2L w2C w3O w3L w3C g c w R := by kernel_rfl
theorem p_spec_l8Dry (w0 : Int) (w1O : Option Addr) (w1L : Nat) (w1C : Nat) (w2O : Option Addr) (w2L : Nat) (w2C : Nat) (w3O : Option Addr) (w3L : Nat) (w3C : Nat) (g : Int) (c : Int) {w : World} {bs : List Nat} {ret : Value} (hvc : ∀ wr0, ExtX bs w wr0 → V_spec_l8Dry w0 w1O w1L w1C w2O w2L w2C w3O w3L w3C g c wr0 fun v0 _ => v0 = ret) : PureX bs Tryz.prog fn_spec_l8Dry #[.agg #[.int .i64 w0, .slice w1O w1L w1C, .slice w2O w2L w2C, .slice w3O w3L w3C], .int .i64 g, .int .i64 c] w ret :=
  pure_of_ev (C := c_spec_l8Dry) (sps := s_spec_l8Dry) (body := bodyOf Tryz.f142) (env _ _ _ _) Tryz.func142 rfl rfl (of_decide_eq_true (by kernel_rfl)) (of_decide_eq_true (by kernel_rfl)) rfl fun wr0 hx0 => by rw [v_spec_l8Dry]; exact hvc wr0 hx0
noncomputable def c_spec_l8ShelfOk : Cfg := { P := Tryz.prog, T := tblGet tbl, pf := pfT, ef := efT, tt := ttT, vis := [], n := 91, pm := true, wr := false }
noncomputable def s_spec_l8ShelfOk : List (Nat × LSpec) := []
def V_spec_l8ShelfOk (w0 : Int) (w1O : Option Addr) (w1L : Nat) (w1C : Nat) (w2O : Option Addr) (w2L : Nat) (w2C : Nat) (w3O : Option Addr) (w3L : Nat) (w3C : Nat) (k : Int) (c : Int) (w : World) (R : Value → World → Prop) : Prop :=
    (∀ b, w.heap.size ≤ b →
    Ix w3O w3L k ∧
    (∃ (x0 : Bool) (x1 : Int) (x2 : ByteArray) (x3 : Int) (x4 : Int) (x5 : Int) (x6 : Int) (x7 : Int) (x8 : Int) (x9 : Int) (x10 : Int) (x11O : Option Addr) (x11L : Nat) (x11C : Nat) (x12O : Option Addr) (x12L : Nat) (x12C : Nat) (x13O : Option Addr) (x13L : Nat) (x13C : Nat),
    CellsX [] w w3O (Int.toNat k * 14) [.bool x0, .int .i64 x1, .string x2, .int .i64 x3, .int .i64 x4, .int .i64 x5, .int .i64 x6, .int .i64 x7, .int .i64 x8, .int .i64 x9, .int .i64 x10, .slice x11O x11L x11C, .slice x12O x12L x12C, .slice x13O x13L x13C] ∧
    (∀ b1, w.heap.size ≤ b1 →
    Ix x13O x13L c ∧
    (∃ (x01 : Int) (x14 : Bool) (x21 : Int) (x31 : Int) (x41 : Int),
    CellsX [] w x13O (Int.toNat c * 5) [.int .i64 x01, .bool x14, .int .i64 x21, .int .i64 x31, .int .i64 x41] ∧
    (∀ b2, w.heap.size ≤ b2 →
    (∃ (l4Time : Bool),
    PureX [] Tryz.prog fn_spec_l4Time #[.int .i64 x01] w (.bool l4Time) ∧
    (∃ (l4Time1 : Bool),
    ((!l4Time) = false → PureX [] Tryz.prog fn_spec_l4Time #[.int .i64 x21] w (.bool l4Time1)) ∧
    (∃ (l4Time2 : Bool),
    (((!l4Time) || (!l4Time1)) = false → PureX [] Tryz.prog fn_spec_l4Time #[.int .i64 x41] w (.bool l4Time2)) ∧
    (∃ (l1Weig : Bool),
    ((((!l4Time) || (!l4Time1)) || (!l4Time2)) = false → PureX [] Tryz.prog fn_spec_l1Weight #[.int .i64 x31] w (.bool l1Weig)) ∧
    (((((!l4Time) || (!l4Time1)) || (!l4Time2)) || (!l1Weig)) = true →
    R (.bool false) w) ∧
    (((((!l4Time) || (!l4Time1)) || (!l4Time2)) || (!l1Weig)) = false →
    ((k == 0) = true →
    R (.bool (((!x14) && (x21 == 0)) && (x31 == 10))) w) ∧
    ((k == 0) = false →
    (∃ (l8Acti : Bool),
    PureX [] Tryz.prog fn_spec_l8Active #[.agg #[.int .i64 w0, .slice w1O w1L w1C, .slice w2O w2L w2C, .slice w3O w3L w3C], .int .i64 k, .int .i64 c] w (.bool l8Acti) ∧
    (∃ (l8Dry : Bool),
    (l8Acti = true → PureX [] Tryz.prog fn_spec_l8Dry #[.agg #[.int .i64 w0, .slice w1O w1L w1C, .slice w2O w2L w2C, .slice w3O w3L w3C], .int .i64 k, .int .i64 c] w (.bool l8Dry)) ∧
    ((!(x14 == (l8Acti && (!l8Dry)))) = true →
    R (.bool false) w) ∧
    ((!(x14 == (l8Acti && (!l8Dry)))) = false →
    ((!x14) = false → Ix w3O w3L x1) ∧
    (∃ (shelvesO : Option Addr) (shelvesL : Nat) (shelvesC : Nat),
    ((!x14) = false → CellsX [] w w3O (Int.toNat x1 * 14 + 13) [.slice shelvesO shelvesL shelvesC]) ∧
    ((!x14) = false → Ix shelvesO shelvesL c) ∧
    (∃ (floor : Int),
    ((!x14) = false → CellsX [] w shelvesO (Int.toNat c * 5 + 0) [.int .i64 floor]) ∧
    (∃ (l8Stan : Bool),
    ((!x14) = false → PureX [] Tryz.prog fn_spec_l8Stand #[.int .i64 x21, .int .i64 floor, .int .i64 x31] w (.bool l8Stan)) ∧
    R (.bool ((!x14) || l8Stan)) w)))))))))))))))))
theorem v_spec_l8ShelfOk (w0 : Int) (w1O : Option Addr) (w1L : Nat) (w1C : Nat) (w2O : Option Addr) (w2L : Nat) (w2C : Nat) (w3O : Option Addr) (w3L : Nat) (w3C : Nat) (k : Int) (c : Int) (w : World) (R : Value → World → Prop) : evFn c_spec_l8ShelfOk s_spec_l8ShelfOk [.agg #[.int .i64 w0, .slice w1O w1L w1C, .slice w2O w2L w2C, .slice w3O w3L w3C], .int .i64 k, .int .i64 c] (bodyOf Tryz.f87) Tryz.f87.results.toList w R = V_spec_l8ShelfOk w0 w1O w1L w1C w2O w2L w2C w3O w3L w3C k c w R := by kernel_rfl
theorem p_spec_l8ShelfOk (w0 : Int) (w1O : Option Addr) (w1L : Nat) (w1C : Nat) (w2O : Option Addr) (w2L : Nat) (w2C : Nat) (w3O : Option Addr) (w3L : Nat) (w3C : Nat) (k : Int) (c : Int) {w : World} {bs : List Nat} {ret : Value} (hvc : ∀ wr0, ExtX bs w wr0 → V_spec_l8ShelfOk w0 w1O w1L w1C w2O w2L w2C w3O w3L w3C k c wr0 fun v0 _ => v0 = ret) : PureX bs Tryz.prog fn_spec_l8ShelfOk #[.agg #[.int .i64 w0, .slice w1O w1L w1C, .slice w2O w2L w2C, .slice w3O w3L w3C], .int .i64 k, .int .i64 c] w ret :=
  pure_of_ev (C := c_spec_l8ShelfOk) (sps := s_spec_l8ShelfOk) (body := bodyOf Tryz.f87) (env _ _ _ _) Tryz.func87 rfl rfl (of_decide_eq_true (by kernel_rfl)) (of_decide_eq_true (by kernel_rfl)) rfl fun wr0 hx0 => by rw [v_spec_l8ShelfOk]; exact hvc wr0 hx0
noncomputable def c_spec_l8InLine : Cfg := { P := Tryz.prog, T := tblGet tbl, pf := pfT, ef := efT, tt := ttT, vis := [], n := 31, pm := true, wr := false }
noncomputable def s_spec_l8InLine : List (Nat × LSpec) := [(5, { chg := [(6, .int .i64)], chgL := [], keep := [2, 5] })]
def V_spec_l8InLine (w0 : Int) (w1O : Option Addr) (w1L : Nat) (w1C : Nat) (w2O : Option Addr) (w2L : Nat) (w2C : Nat) (w3O : Option Addr) (w3L : Nat) (w3C : Nat) (t : Int) (w : World) (R : Value → World → Prop) : Prop :=
    (∀ b, w.heap.size ≤ b →
    Ix w2O w2L t ∧
    (∃ (x0 : Int) (x1 : Int) (x2 : Int) (x3 : Int) (x4 : Int) (x5 : Int) (x6 : Int) (x7 : Int) (x8 : Int),
    CellsX [] w w2O (Int.toNat t * 9) [.int .i64 x0, .int .i64 x1, .int .i64 x2, .int .i64 x3, .int .i64 x4, .int .i64 x5, .int .i64 x6, .int .i64 x7, .int .i64 x8] ∧
    (∀ b1, w.heap.size ≤ b1 →
    ((x0 != 1) = true →
    R (.bool false) w) ∧
    ((x0 != 1) = false →
    (∃ (xInv : List Value → Prop) (mu : List Value → Nat), xInv [.int .i64 x1] ∧
    ∀ (g : Int), xInv [.int .i64 g] →
    ((g != 0) = true →
    (∃ (l8Queu : Bool),
    PureX [] Tryz.prog fn_spec_l8Queued #[.agg #[.int .i64 w0, .slice w1O w1L w1C, .slice w2O w2L w2C, .slice w3O w3L w3C], .int .i64 g, .int .i64 x2] w (.bool l8Queu) ∧
    ((!l8Queu) = true →
    R (.bool false) w) ∧
    ((!l8Queu) = false →
    Ix w3O w3L g ∧
    (∃ (parent : Int),
    CellsX [] w w3O (Int.toNat g * 14 + 1) [.int .i64 parent] ∧
    xInv [.int .i64 parent] ∧ mu [.int .i64 parent] < mu [.int .i64 g])))) ∧
    ((g != 0) = false →
    R (.bool true) w))))))
theorem v_spec_l8InLine (w0 : Int) (w1O : Option Addr) (w1L : Nat) (w1C : Nat) (w2O : Option Addr) (w2L : Nat) (w2C : Nat) (w3O : Option Addr) (w3L : Nat) (w3C : Nat) (t : Int) (w : World) (R : Value → World → Prop) : evFn c_spec_l8InLine s_spec_l8InLine [.agg #[.int .i64 w0, .slice w1O w1L w1C, .slice w2O w2L w2C, .slice w3O w3L w3C], .int .i64 t] (bodyOf Tryz.f38) Tryz.f38.results.toList w R = V_spec_l8InLine w0 w1O w1L w1C w2O w2L w2C w3O w3L w3C t w R := by kernel_rfl
theorem p_spec_l8InLine (w0 : Int) (w1O : Option Addr) (w1L : Nat) (w1C : Nat) (w2O : Option Addr) (w2L : Nat) (w2C : Nat) (w3O : Option Addr) (w3L : Nat) (w3C : Nat) (t : Int) {w : World} {bs : List Nat} {ret : Value} (hvc : ∀ wr0, ExtX bs w wr0 → V_spec_l8InLine w0 w1O w1L w1C w2O w2L w2C w3O w3L w3C t wr0 fun v0 _ => v0 = ret) : PureX bs Tryz.prog fn_spec_l8InLine #[.agg #[.int .i64 w0, .slice w1O w1L w1C, .slice w2O w2L w2C, .slice w3O w3L w3C], .int .i64 t] w ret :=
  pure_of_ev (C := c_spec_l8InLine) (sps := s_spec_l8InLine) (body := bodyOf Tryz.f38) (env _ _ _ _) Tryz.func38 rfl rfl (of_decide_eq_true (by kernel_rfl)) (of_decide_eq_true (by kernel_rfl)) rfl fun wr0 hx0 => by rw [v_spec_l8InLine]; exact hvc wr0 hx0
noncomputable def c_spec_l8Stayed : Cfg := { P := Tryz.prog, T := tblGet tbl, pf := pfT, ef := efT, tt := ttT, vis := [], n := 84, pm := true, wr := false }
noncomputable def s_spec_l8Stayed : List (Nat × LSpec) := [(6, { chg := [(7, .int .i64)], chgL := [], keep := [1, 2, 5] })]
def V_spec_l8Stayed (w0 : Int) (w1O : Option Addr) (w1L : Nat) (w1C : Nat) (w2O : Option Addr) (w2L : Nat) (w2C : Nat) (w3O : Option Addr) (w3L : Nat) (w3C : Nat) (c : Int) (w : World) (R : Value → World → Prop) : Prop :=
    (∀ b, w.heap.size ≤ b →
    Ix w1O w1L c ∧
    (∃ (x0 : Bool) (x1 : Int) (x2 : Int) (x3 : Int) (x4 : Int),
    CellsX [] w w1O (Int.toNat c * 5) [.bool x0, .int .i64 x1, .int .i64 x2, .int .i64 x3, .int .i64 x4] ∧
    (∀ b1, w.heap.size ≤ b1 →
    Ix w2O w2L x1 ∧
    (∃ (x01 : Int) (x11 : Int) (x21 : Int) (x31 : Int) (x41 : Int) (x5 : Int) (x6 : Int) (x7 : Int) (x8 : Int),
    CellsX [] w w2O (Int.toNat x1 * 9) [.int .i64 x01, .int .i64 x11, .int .i64 x21, .int .i64 x31, .int .i64 x41, .int .i64 x5, .int .i64 x6, .int .i64 x7, .int .i64 x8] ∧
    (∀ b2, w.heap.size ≤ b2 →
    Ix w3O w3L x11 ∧
    (∃ (shelvesO : Option Addr) (shelvesL : Nat) (shelvesC : Nat),
    CellsX [] w w3O (Int.toNat x11 * 14 + 13) [.slice shelvesO shelvesL shelvesC] ∧
    Ix shelvesO shelvesL c ∧
    (∃ (floor : Int),
    CellsX [] w shelvesO (Int.toNat c * 5 + 0) [.int .i64 floor] ∧
    InR .i64 (x5 - floor) ∧
    (∃ (xWeight : Int),
    PureX [] Tryz.prog fn_spec_WeightOf #[.int .i64 x31] w (.int .i64 xWeight) ∧
    (∃ (xVirtua : Int),
    PureX [] Tryz.prog fn_spec_VirtualStep #[.int .i64 x2, .int .i64 xWeight] w (.int .i64 xVirtua) ∧
    ((decide (x5 - floor > xVirtua)) = true →
    R (.bool false) w) ∧
    ((decide (x5 - floor > xVirtua)) = false →
    (∃ (xInv : List Value → Prop) (mu : List Value → Nat), xInv [.int .i64 x11] ∧
    ∀ (g : Int), xInv [.int .i64 g] →
    ((g != 0) = true →
    Ix w3O w3L g ∧
    (∃ (shelves1O : Option Addr) (shelves1L : Nat) (shelves1C : Nat),
    CellsX [] w w3O (Int.toNat g * 14 + 13) [.slice shelves1O shelves1L shelves1C] ∧
    Ix shelves1O shelves1L c ∧
    (∃ (x02 : Int) (x12 : Bool) (x22 : Int) (x32 : Int) (x42 : Int),
    CellsX [] w shelves1O (Int.toNat c * 5) [.int .i64 x02, .bool x12, .int .i64 x22, .int .i64 x32, .int .i64 x42] ∧
    (∀ b3, w.heap.size ≤ b3 →
    Ix w3O w3L g ∧
    (∃ (parent : Int),
    CellsX [] w w3O (Int.toNat g * 14 + 1) [.int .i64 parent] ∧
    Ix w3O w3L parent ∧
    (∃ (shelves2O : Option Addr) (shelves2L : Nat) (shelves2C : Nat),
    CellsX [] w w3O (Int.toNat parent * 14 + 13) [.slice shelves2O shelves2L shelves2C] ∧
    Ix shelves2O shelves2L c ∧
    (∃ (floor1 : Int),
    CellsX [] w shelves2O (Int.toNat c * 5 + 0) [.int .i64 floor1] ∧
    InR .i64 (x22 - floor1) ∧
    (∃ (xVirtua1 : Int),
    PureX [] Tryz.prog fn_spec_VirtualStep #[.int .i64 x2, .int .i64 x32] w (.int .i64 xVirtua1) ∧
    ((decide (x22 - floor1 > xVirtua1)) = true →
    R (.bool false) w) ∧
    ((decide (x22 - floor1 > xVirtua1)) = false →
    Ix w3O w3L g ∧
    (∃ (parent1 : Int),
    CellsX [] w w3O (Int.toNat g * 14 + 1) [.int .i64 parent1] ∧
    xInv [.int .i64 parent1] ∧ mu [.int .i64 parent1] < mu [.int .i64 g])))))))))) ∧
    ((g != 0) = false →
    R (.bool true) w))))))))))))
theorem v_spec_l8Stayed (w0 : Int) (w1O : Option Addr) (w1L : Nat) (w1C : Nat) (w2O : Option Addr) (w2L : Nat) (w2C : Nat) (w3O : Option Addr) (w3L : Nat) (w3C : Nat) (c : Int) (w : World) (R : Value → World → Prop) : evFn c_spec_l8Stayed s_spec_l8Stayed [.agg #[.int .i64 w0, .slice w1O w1L w1C, .slice w2O w2L w2C, .slice w3O w3L w3C], .int .i64 c] (bodyOf Tryz.f143) Tryz.f143.results.toList w R = V_spec_l8Stayed w0 w1O w1L w1C w2O w2L w2C w3O w3L w3C c w R := by kernel_rfl
theorem p_spec_l8Stayed (w0 : Int) (w1O : Option Addr) (w1L : Nat) (w1C : Nat) (w2O : Option Addr) (w2L : Nat) (w2C : Nat) (w3O : Option Addr) (w3L : Nat) (w3C : Nat) (c : Int) {w : World} {bs : List Nat} {ret : Value} (hvc : ∀ wr0, ExtX bs w wr0 → V_spec_l8Stayed w0 w1O w1L w1C w2O w2L w2C w3O w3L w3C c wr0 fun v0 _ => v0 = ret) : PureX bs Tryz.prog fn_spec_l8Stayed #[.agg #[.int .i64 w0, .slice w1O w1L w1C, .slice w2O w2L w2C, .slice w3O w3L w3C], .int .i64 c] w ret :=
  pure_of_ev (C := c_spec_l8Stayed) (sps := s_spec_l8Stayed) (body := bodyOf Tryz.f143) (env _ _ _ _) Tryz.func143 rfl rfl (of_decide_eq_true (by kernel_rfl)) (of_decide_eq_true (by kernel_rfl)) rfl fun wr0 hx0 => by rw [v_spec_l8Stayed]; exact hvc wr0 hx0
noncomputable def c_spec_l8CpuOk : Cfg := { P := Tryz.prog, T := tblGet tbl, pf := pfT, ef := efT, tt := ttT, vis := [], n := 66, pm := true, wr := false }
noncomputable def s_spec_l8CpuOk : List (Nat × LSpec) := []
def V_spec_l8CpuOk (w0 : Int) (w1O : Option Addr) (w1L : Nat) (w1C : Nat) (w2O : Option Addr) (w2L : Nat) (w2C : Nat) (w3O : Option Addr) (w3L : Nat) (w3C : Nat) (c : Int) (w : World) (R : Value → World → Prop) : Prop :=
    (∀ b, w.heap.size ≤ b →
    Ix w1O w1L c ∧
    (∃ (x0 : Bool) (x1 : Int) (x2 : Int) (x3 : Int) (x4 : Int),
    CellsX [] w w1O (Int.toNat c * 5) [.bool x0, .int .i64 x1, .int .i64 x2, .int .i64 x3, .int .i64 x4] ∧
    (∀ b1, w.heap.size ≤ b1 →
    (∃ (l4Time : Bool),
    PureX [] Tryz.prog fn_spec_l4Time #[.int .i64 x3] w (.bool l4Time) ∧
    (∃ (l4Time1 : Bool),
    ((!l4Time) = false → PureX [] Tryz.prog fn_spec_l4Time #[.int .i64 x4] w (.bool l4Time1)) ∧
    (((!l4Time) || (!l4Time1)) = false → InR .i64 (((w2L : Nat) : Int) - 1)) ∧
    (∃ (l1In : Bool),
    (((!l4Time) || (!l4Time1)) = false → PureX [] Tryz.prog fn_spec_l1In #[.int .i64 x1, .int .i64 (-1), .int .i64 (((w2L : Nat) : Int) - 1)] w (.bool l1In)) ∧
    ((((!l4Time) || (!l4Time1)) || (!l1In)) = true →
    R (.bool false) w) ∧
    ((((!l4Time) || (!l4Time1)) || (!l1In)) = false →
    ((decide (x1 < 0)) = true →
    R (.bool (x2 == 0)) w) ∧
    ((decide (x1 < 0)) = false →
    (∃ (l1In1 : Bool),
    (x0 = true → PureX [] Tryz.prog fn_spec_l1In #[.int .i64 x2, .int .i64 1, .int .i64 149] w (.bool l1In1)) ∧
    ((x0 && l1In1) = true → Ix w2O w2L x1) ∧
    (∃ (cpu : Int),
    ((x0 && l1In1) = true → CellsX [] w w2O (Int.toNat x1 * 9 + 2) [.int .i64 cpu]) ∧
    (∃ (l8InLi : Bool),
    (((x0 && l1In1) && (cpu == c)) = true → PureX [] Tryz.prog fn_spec_l8InLine #[.agg #[.int .i64 w0, .slice w1O w1L w1C, .slice w2O w2L w2C, .slice w3O w3L w3C], .int .i64 x1] w (.bool l8InLi)) ∧
    (∃ (l8Stay : Bool),
    ((((x0 && l1In1) && (cpu == c)) && l8InLi) = true → PureX [] Tryz.prog fn_spec_l8Stayed #[.agg #[.int .i64 w0, .slice w1O w1L w1C, .slice w2O w2L w2C, .slice w3O w3L w3C], .int .i64 c] w (.bool l8Stay)) ∧
    R (.bool ((((x0 && l1In1) && (cpu == c)) && l8InLi) && l8Stay)) w))))))))))))
theorem v_spec_l8CpuOk (w0 : Int) (w1O : Option Addr) (w1L : Nat) (w1C : Nat) (w2O : Option Addr) (w2L : Nat) (w2C : Nat) (w3O : Option Addr) (w3L : Nat) (w3C : Nat) (c : Int) (w : World) (R : Value → World → Prop) : evFn c_spec_l8CpuOk s_spec_l8CpuOk [.agg #[.int .i64 w0, .slice w1O w1L w1C, .slice w2O w2L w2C, .slice w3O w3L w3C], .int .i64 c] (bodyOf Tryz.f88) Tryz.f88.results.toList w R = V_spec_l8CpuOk w0 w1O w1L w1C w2O w2L w2C w3O w3L w3C c w R := by kernel_rfl
theorem p_spec_l8CpuOk (w0 : Int) (w1O : Option Addr) (w1L : Nat) (w1C : Nat) (w2O : Option Addr) (w2L : Nat) (w2C : Nat) (w3O : Option Addr) (w3L : Nat) (w3C : Nat) (c : Int) {w : World} {bs : List Nat} {ret : Value} (hvc : ∀ wr0, ExtX bs w wr0 → V_spec_l8CpuOk w0 w1O w1L w1C w2O w2L w2C w3O w3L w3C c wr0 fun v0 _ => v0 = ret) : PureX bs Tryz.prog fn_spec_l8CpuOk #[.agg #[.int .i64 w0, .slice w1O w1L w1C, .slice w2O w2L w2C, .slice w3O w3L w3C], .int .i64 c] w ret :=
  pure_of_ev (C := c_spec_l8CpuOk) (sps := s_spec_l8CpuOk) (body := bodyOf Tryz.f88) (env _ _ _ _) Tryz.func88 rfl rfl (of_decide_eq_true (by kernel_rfl)) (of_decide_eq_true (by kernel_rfl)) rfl fun wr0 hx0 => by rw [v_spec_l8CpuOk]; exact hvc wr0 hx0
noncomputable def c_spec_WorldOk : Cfg := { P := Tryz.prog, T := tblGet tbl, pf := pfT, ef := efT, tt := ttT, vis := [], n := 92, pm := true, wr := false }
noncomputable def s_spec_WorldOk : List (Nat × LSpec) := [(4, { chg := [(3, .int .i64)], chgL := [], keep := [1] }), (9, { chg := [(4, .int .i64)], chgL := [], keep := [1] }), (14, { chg := [(5, .int .i64)], chgL := [], keep := [1] }), (17, { chg := [(6, .int .i64)], chgL := [], keep := [1, 5] }), (22, { chg := [(7, .int .i64)], chgL := [], keep := [1] })]
def V_spec_WorldOk (w0 : Int) (w1O : Option Addr) (w1L : Nat) (w1C : Nat) (w2O : Option Addr) (w2L : Nat) (w2C : Nat) (w3O : Option Addr) (w3L : Nat) (w3C : Nat) (w : World) (R : Value → World → Prop) : Prop :=
    (∀ b, w.heap.size ≤ b →
    (∃ (l1In : Bool),
    PureX [] Tryz.prog fn_spec_l1In #[.int .i64 w0, .int .i64 0, .int .i64 100000000000000000] w (.bool l1In) ∧
    (∃ (l1In1 : Bool),
    ((!l1In) = false → PureX [] Tryz.prog fn_spec_l1In #[.int .i64 ((w1L : Nat) : Int), .int .i64 1, .int .i64 4] w (.bool l1In1)) ∧
    (∃ (xTreeOk : Bool),
    ((((!l1In) || (!l1In1)) || (((w2L : Nat) : Int) != 12)) = false → PureX [] Tryz.prog fn_spec_TreeOk #[.slice w3O w3L w3C] w (.bool xTreeOk)) ∧
    (∃ (l8Ups : Int),
    (((((!l1In) || (!l1In1)) || (((w2L : Nat) : Int) != 12)) || (!xTreeOk)) = false → PureX [] Tryz.prog fn_spec_l8Ups #[.agg #[.int .i64 w0, .slice w1O w1L w1C, .slice w2O w2L w2C, .slice w3O w3L w3C]] w (.int .i64 l8Ups)) ∧
    ((((((!l1In) || (!l1In1)) || (((w2L : Nat) : Int) != 12)) || (!xTreeOk)) || (l8Ups == 0)) = true →
    R (.bool false) w) ∧
    ((((((!l1In) || (!l1In1)) || (((w2L : Nat) : Int) != 12)) || (!xTreeOk)) || (l8Ups == 0)) = false →
    (∃ (xInv : List Value → Prop) (mu : List Value → Nat), xInv [.int .i64 0] ∧
    ∀ (k : Int), xInv [.int .i64 k] →
    ((decide (k < ((w3L : Nat) : Int))) = true →
    (∃ (l8Grou : Bool),
    PureX [] Tryz.prog fn_spec_l8GroupOk #[.agg #[.int .i64 w0, .slice w1O w1L w1C, .slice w2O w2L w2C, .slice w3O w3L w3C], .int .i64 k] w (.bool l8Grou) ∧
    ((!l8Grou) = true →
    R (.bool false) w) ∧
    ((!l8Grou) = false →
    InR .i64 (k + 1) ∧
    xInv [.int .i64 (k + 1)] ∧ mu [.int .i64 (k + 1)] < mu [.int .i64 k]))) ∧
    ((decide (k < ((w3L : Nat) : Int))) = false →
    (∃ (xInv1 : List Value → Prop) (mu1 : List Value → Nat), xInv1 [.int .i64 0] ∧
    ∀ (t : Int), xInv1 [.int .i64 t] →
    ((decide (t < ((w2L : Nat) : Int))) = true →
    (∃ (l8Task : Bool),
    PureX [] Tryz.prog fn_spec_l8TaskOk #[.agg #[.int .i64 w0, .slice w1O w1L w1C, .slice w2O w2L w2C, .slice w3O w3L w3C], .int .i64 t] w (.bool l8Task) ∧
    ((!l8Task) = true →
    R (.bool false) w) ∧
    ((!l8Task) = false →
    InR .i64 (t + 1) ∧
    xInv1 [.int .i64 (t + 1)] ∧ mu1 [.int .i64 (t + 1)] < mu1 [.int .i64 t]))) ∧
    ((decide (t < ((w2L : Nat) : Int))) = false →
    (∃ (xInv2 : List Value → Prop) (mu2 : List Value → Nat), xInv2 [.int .i64 0] ∧
    ∀ (k1 : Int), xInv2 [.int .i64 k1] →
    ((decide (k1 < ((w3L : Nat) : Int))) = true →
    (∃ (xInv3 : List Value → Prop) (mu3 : List Value → Nat), xInv3 [.int .i64 0] ∧
    ∀ (c : Int), xInv3 [.int .i64 c] →
    Ix w3O w3L k1 ∧
    (∃ (shelvesO : Option Addr) (shelvesL : Nat) (shelvesC : Nat),
    CellsX [] w w3O (Int.toNat k1 * 14 + 13) [.slice shelvesO shelvesL shelvesC] ∧
    ((decide (c < ((shelvesL : Nat) : Int))) = true →
    (∃ (l8Shel : Bool),
    PureX [] Tryz.prog fn_spec_l8ShelfOk #[.agg #[.int .i64 w0, .slice w1O w1L w1C, .slice w2O w2L w2C, .slice w3O w3L w3C], .int .i64 k1, .int .i64 c] w (.bool l8Shel) ∧
    ((!l8Shel) = true →
    R (.bool false) w) ∧
    ((!l8Shel) = false →
    InR .i64 (c + 1) ∧
    xInv3 [.int .i64 (c + 1)] ∧ mu3 [.int .i64 (c + 1)] < mu3 [.int .i64 c]))) ∧
    ((decide (c < ((shelvesL : Nat) : Int))) = false →
    InR .i64 (k1 + 1) ∧
    xInv2 [.int .i64 (k1 + 1)] ∧ mu2 [.int .i64 (k1 + 1)] < mu2 [.int .i64 k1])))) ∧
    ((decide (k1 < ((w3L : Nat) : Int))) = false →
    (∃ (xInv4 : List Value → Prop) (mu4 : List Value → Nat), xInv4 [.int .i64 0] ∧
    ∀ (c1 : Int), xInv4 [.int .i64 c1] →
    ((decide (c1 < ((w1L : Nat) : Int))) = true →
    (∃ (l8CpuO : Bool),
    PureX [] Tryz.prog fn_spec_l8CpuOk #[.agg #[.int .i64 w0, .slice w1O w1L w1C, .slice w2O w2L w2C, .slice w3O w3L w3C], .int .i64 c1] w (.bool l8CpuO) ∧
    ((!l8CpuO) = true →
    R (.bool false) w) ∧
    ((!l8CpuO) = false →
    InR .i64 (c1 + 1) ∧
    xInv4 [.int .i64 (c1 + 1)] ∧ mu4 [.int .i64 (c1 + 1)] < mu4 [.int .i64 c1]))) ∧
    ((decide (c1 < ((w1L : Nat) : Int))) = false →
    R (.bool true) w))))))))))))))
theorem v_spec_WorldOk (w0 : Int) (w1O : Option Addr) (w1L : Nat) (w1C : Nat) (w2O : Option Addr) (w2L : Nat) (w2C : Nat) (w3O : Option Addr) (w3L : Nat) (w3C : Nat) (w : World) (R : Value → World → Prop) : evFn c_spec_WorldOk s_spec_WorldOk [.agg #[.int .i64 w0, .slice w1O w1L w1C, .slice w2O w2L w2C, .slice w3O w3L w3C]] (bodyOf Tryz.f36) Tryz.f36.results.toList w R = V_spec_WorldOk w0 w1O w1L w1C w2O w2L w2C w3O w3L w3C w R := by kernel_rfl
theorem p_spec_WorldOk (w0 : Int) (w1O : Option Addr) (w1L : Nat) (w1C : Nat) (w2O : Option Addr) (w2L : Nat) (w2C : Nat) (w3O : Option Addr) (w3L : Nat) (w3C : Nat) {w : World} {bs : List Nat} {ret : Value} (hvc : ∀ wr0, ExtX bs w wr0 → V_spec_WorldOk w0 w1O w1L w1C w2O w2L w2C w3O w3L w3C wr0 fun v0 _ => v0 = ret) : PureX bs Tryz.prog fn_spec_WorldOk #[.agg #[.int .i64 w0, .slice w1O w1L w1C, .slice w2O w2L w2C, .slice w3O w3L w3C]] w ret :=
  pure_of_ev (C := c_spec_WorldOk) (sps := s_spec_WorldOk) (body := bodyOf Tryz.f36) (env _ _ _ _) Tryz.func36 rfl rfl (of_decide_eq_true (by kernel_rfl)) (of_decide_eq_true (by kernel_rfl)) rfl fun wr0 hx0 => by rw [v_spec_WorldOk]; exact hvc wr0 hx0
noncomputable def c_spec_CpuWaiting : Cfg := { P := Tryz.prog, T := tblGet tbl, pf := pfT, ef := efT, tt := ttT, vis := [], n := 52, pm := true, wr := false }
noncomputable def s_spec_CpuWaiting : List (Nat × LSpec) := [(5, { chg := [(5, .int .i64), (6, .int .i64)], chgL := [], keep := [1, 2] })]
def V_spec_CpuWaiting (w0 : Int) (w1O : Option Addr) (w1L : Nat) (w1C : Nat) (w2O : Option Addr) (w2L : Nat) (w2C : Nat) (w3O : Option Addr) (w3L : Nat) (w3C : Nat) (cpu : Int) (w : World) (R : Value → World → Prop) : Prop :=
    (∀ b, w.heap.size ≤ b →
    (∃ (xWorldO : Bool),
    PureX [] Tryz.prog fn_spec_WorldOk #[.agg #[.int .i64 w0, .slice w1O w1L w1C, .slice w2O w2L w2C, .slice w3O w3L w3C]] w (.bool xWorldO) ∧
    ((!xWorldO) = false → InR .i64 (((w1L : Nat) : Int) - 1)) ∧
    (∃ (l1In : Bool),
    ((!xWorldO) = false → PureX [] Tryz.prog fn_spec_l1In #[.int .i64 cpu, .int .i64 0, .int .i64 (((w1L : Nat) : Int) - 1)] w (.bool l1In)) ∧
    (((!xWorldO) || (!l1In)) = true →
    R (.int .i64 0) w) ∧
    (((!xWorldO) || (!l1In)) = false →
    (∃ (xInv : List Value → Prop) (mu : List Value → Nat), xInv [.int .i64 0, .int .i64 0] ∧
    ∀ (n : Int) (t : Int), xInv [.int .i64 n, .int .i64 t] →
    ((decide (t < ((w2L : Nat) : Int))) = true →
    Ix w2O w2L t ∧
    (∃ (cpu1 : Int),
    CellsX [] w w2O (Int.toNat t * 9 + 2) [.int .i64 cpu1] ∧
    (∃ (l8InLi : Bool),
    ((cpu1 == cpu) = true → PureX [] Tryz.prog fn_spec_l8InLine #[.agg #[.int .i64 w0, .slice w1O w1L w1C, .slice w2O w2L w2C, .slice w3O w3L w3C], .int .i64 t] w (.bool l8InLi)) ∧
    (((cpu1 == cpu) && l8InLi) = true → Ix w1O w1L cpu) ∧
    (∃ (cur : Int),
    (((cpu1 == cpu) && l8InLi) = true → CellsX [] w w1O (Int.toNat cpu * 5 + 1) [.int .i64 cur]) ∧
    ((((cpu1 == cpu) && l8InLi) && (cur != t)) = true →
    InR .i64 (n + 1) ∧
    InR .i64 (t + 1) ∧
    xInv [.int .i64 (n + 1), .int .i64 (t + 1)] ∧ mu [.int .i64 (n + 1), .int .i64 (t + 1)] < mu [.int .i64 n, .int .i64 t]) ∧
    ((((cpu1 == cpu) && l8InLi) && (cur != t)) = false →
    InR .i64 (t + 1) ∧
    xInv [.int .i64 n, .int .i64 (t + 1)] ∧ mu [.int .i64 n, .int .i64 (t + 1)] < mu [.int .i64 n, .int .i64 t]))))) ∧
    ((decide (t < ((w2L : Nat) : Int))) = false →
    R (.int .i64 n) w))))))
theorem v_spec_CpuWaiting (w0 : Int) (w1O : Option Addr) (w1L : Nat) (w1C : Nat) (w2O : Option Addr) (w2L : Nat) (w2C : Nat) (w3O : Option Addr) (w3L : Nat) (w3C : Nat) (cpu : Int) (w : World) (R : Value → World → Prop) : evFn c_spec_CpuWaiting s_spec_CpuWaiting [.agg #[.int .i64 w0, .slice w1O w1L w1C, .slice w2O w2L w2C, .slice w3O w3L w3C], .int .i64 cpu] (bodyOf Tryz.f13) Tryz.f13.results.toList w R = V_spec_CpuWaiting w0 w1O w1L w1C w2O w2L w2C w3O w3L w3C cpu w R := by kernel_rfl
theorem p_spec_CpuWaiting (w0 : Int) (w1O : Option Addr) (w1L : Nat) (w1C : Nat) (w2O : Option Addr) (w2L : Nat) (w2C : Nat) (w3O : Option Addr) (w3L : Nat) (w3C : Nat) (cpu : Int) {w : World} {bs : List Nat} {ret : Value} (hvc : ∀ wr0, ExtX bs w wr0 → V_spec_CpuWaiting w0 w1O w1L w1C w2O w2L w2C w3O w3L w3C cpu wr0 fun v0 _ => v0 = ret) : PureX bs Tryz.prog fn_spec_CpuWaiting #[.agg #[.int .i64 w0, .slice w1O w1L w1C, .slice w2O w2L w2C, .slice w3O w3L w3C], .int .i64 cpu] w ret :=
  pure_of_ev (C := c_spec_CpuWaiting) (sps := s_spec_CpuWaiting) (body := bodyOf Tryz.f13) (env _ _ _ _) Tryz.func13 rfl rfl (of_decide_eq_true (by kernel_rfl)) (of_decide_eq_true (by kernel_rfl)) rfl fun wr0 hx0 => by rw [v_spec_CpuWaiting]; exact hvc wr0 hx0
noncomputable def c_laws_toCpu : Cfg := { P := Tryz.prog, T := tblGet tbl, pf := pfT, ef := efT, tt := ttT, vis := [], n := 20, pm := true, wr := false }
noncomputable def s_laws_toCpu : List (Nat × LSpec) := []
def V_laws_toCpu (a0 : Bool) (a1 : Int) (a2 : Int) (a3 : Int) (a4 : Int) (w : World) (R : Value → World → Prop) : Prop :=
    (∀ b, w.heap.size ≤ b →
    (∀ b1, w.heap.size ≤ b1 →
    (∀ b2, w.heap.size ≤ b2 →
    R (.agg #[.bool a0, .int .i64 a1, .int .i64 a2, .int .i64 a3, .int .i64 a4]) w)))
theorem v_laws_toCpu (a0 : Bool) (a1 : Int) (a2 : Int) (a3 : Int) (a4 : Int) (w : World) (R : Value → World → Prop) : evFn c_laws_toCpu s_laws_toCpu [.agg #[.bool a0, .int .i64 a1, .int .i64 a2, .int .i64 a3, .int .i64 a4]] (bodyOf Tryz.f90) Tryz.f90.results.toList w R = V_laws_toCpu a0 a1 a2 a3 a4 w R := by kernel_rfl
theorem p_laws_toCpu (a0 : Bool) (a1 : Int) (a2 : Int) (a3 : Int) (a4 : Int) {w : World} {bs : List Nat} {ret : Value} (hvc : ∀ wr0, ExtX bs w wr0 → V_laws_toCpu a0 a1 a2 a3 a4 wr0 fun v0 _ => v0 = ret) : PureX bs Tryz.prog fn_laws_toCpu #[.agg #[.bool a0, .int .i64 a1, .int .i64 a2, .int .i64 a3, .int .i64 a4]] w ret :=
  pure_of_ev (C := c_laws_toCpu) (sps := s_laws_toCpu) (body := bodyOf Tryz.f90) (env _ _ _ _) Tryz.func90 rfl rfl (of_decide_eq_true (by kernel_rfl)) (of_decide_eq_true (by kernel_rfl)) rfl fun wr0 hx0 => by rw [v_laws_toCpu]; exact hvc wr0 hx0
noncomputable def c_laws_toCpuS : Cfg := { P := Tryz.prog, T := tblGet tbl, pf := pfT, ef := efT, tt := ttT, vis := [], n := 23, pm := false, wr := false }
noncomputable def s_laws_toCpuS : List (Nat × LSpec) := [(3, { chg := [(4, .int .i64)], chgL := [], keep := [0, 3] })]
def V_laws_toCpuS (aO : Option Addr) (aL : Nat) (aC : Nat) (w : World) (R : Value → World → Prop) : Prop :=
    (∀ wr, ExtX [] w wr → (∀ bq ∈ ([] : List Nat), bq < wr.heap.size) →
    (∃ (mkO : Option Addr) (mkL : Nat) (mkC : Nat),
    ∃ wv, ((Instr.makeSlice ty_sl_impl_Cpu (.int .i64 ((aL : Nat) : Int)) (.int .i64 ((aL : Nat) : Int))) : Sem Value).run Tryz.prog wr = .ok (.slice mkO mkL mkC) wv ∧ Kept [] wr wv ∧
    (∃ (xInv : List Value → World → Prop) (mu : List Value → World → Nat), (∀ wr1, ExtX [] wv wr1 → (∀ bq ∈ ([] : List Nat), bq < wr1.heap.size) → xInv [.int .i64 0] wr1) ∧
    ∀ (i : Int) wv1, (∀ bq ∈ ([] : List Nat), bq < wv1.heap.size) → xInv [.int .i64 i] wv1 →
    ((decide (i < ((aL : Nat) : Int))) = true →
    Ix aO aL i ∧
    (∃ (x0 : Bool) (x1 : Int) (x2 : Int) (x3 : Int) (x4 : Int),
    CellsX [] wv1 aO (Int.toNat i * 5) [.bool x0, .int .i64 x1, .int .i64 x2, .int .i64 x3, .int .i64 x4] ∧
    (∃ (toCpu : Bool) (toCpu1 : Int) (toCpu2 : Int) (toCpu3 : Int) (toCpu4 : Int),
    PureX [] Tryz.prog fn_laws_toCpu #[.agg #[.bool x0, .int .i64 x1, .int .i64 x2, .int .i64 x3, .int .i64 x4]] wv1 (.agg #[.bool toCpu, .int .i64 toCpu1, .int .i64 toCpu2, .int .i64 toCpu3, .int .i64 toCpu4]) ∧
    Ix mkO mkL i ∧
    WrX [] wv1 mkO (Int.toNat i * 5) 5 ∧
    InR .i64 (i + 1) ∧
    (∀ wr2, ExtX [] (sto wv1 mkO (Int.toNat i * 5) [.bool toCpu, .int .i64 toCpu1, .int .i64 toCpu2, .int .i64 toCpu3, .int .i64 toCpu4]) wr2 → (∀ bq ∈ ([] : List Nat), bq < wr2.heap.size) → xInv [.int .i64 (i + 1)] wr2 ∧ mu [.int .i64 (i + 1)] wr2 < mu [.int .i64 i] wv1)))) ∧
    ((decide (i < ((aL : Nat) : Int))) = false →
    (∀ wr3, ExtX [] wv1 wr3 → R (.slice mkO mkL mkC) wr3)))))
theorem v_laws_toCpuS (aO : Option Addr) (aL : Nat) (aC : Nat) (w : World) (R : Value → World → Prop) : evFn c_laws_toCpuS s_laws_toCpuS [.slice aO aL aC] (bodyOf Tryz.f39) Tryz.f39.results.toList w R = V_laws_toCpuS aO aL aC w R := by kernel_rfl
theorem e_laws_toCpuS (aO : Option Addr) (aL : Nat) (aC : Nat) {w : World} {R : Value → World → Prop} (hvc : V_laws_toCpuS aO aL aC w R) : Calls Tryz.prog fn_laws_toCpuS #[.slice aO aL aC] w fun e0 wr0 => ∃ v0, e0 = .returned v0 ∧ R v0 wr0 :=
  eff_of_ev (C := c_laws_toCpuS) (sps := s_laws_toCpuS) (body := bodyOf Tryz.f39) (env _ _ _ _) Tryz.func39 rfl rfl (of_decide_eq_true (by kernel_rfl)) (of_decide_eq_true (by kernel_rfl)) rfl (by rw [v_laws_toCpuS]; exact hvc)
noncomputable def c_laws_toTask : Cfg := { P := Tryz.prog, T := tblGet tbl, pf := pfT, ef := efT, tt := ttT, vis := [], n := 32, pm := true, wr := false }
noncomputable def s_laws_toTask : List (Nat × LSpec) := []
def V_laws_toTask (a0 : Int) (a1 : Int) (a2 : Int) (a3 : Int) (a4 : Int) (a5 : Int) (a6 : Int) (a7 : Int) (a8 : Int) (w : World) (R : Value → World → Prop) : Prop :=
    (∀ b, w.heap.size ≤ b →
    (∀ b1, w.heap.size ≤ b1 →
    (∀ b2, w.heap.size ≤ b2 →
    R (.agg #[.int .i64 a0, .int .i64 a1, .int .i64 a2, .int .i64 a3, .int .i64 a4, .int .i64 a5, .int .i64 a6, .int .i64 a7, .int .i64 a8]) w)))
theorem v_laws_toTask (a0 : Int) (a1 : Int) (a2 : Int) (a3 : Int) (a4 : Int) (a5 : Int) (a6 : Int) (a7 : Int) (a8 : Int) (w : World) (R : Value → World → Prop) : evFn c_laws_toTask s_laws_toTask [.agg #[.int .i64 a0, .int .i64 a1, .int .i64 a2, .int .i64 a3, .int .i64 a4, .int .i64 a5, .int .i64 a6, .int .i64 a7, .int .i64 a8]] (bodyOf Tryz.f91) Tryz.f91.results.toList w R = V_laws_toTask a0 a1 a2 a3 a4 a5 a6 a7 a8 w R := by kernel_rfl
theorem p_laws_toTask (a0 : Int) (a1 : Int) (a2 : Int) (a3 : Int) (a4 : Int) (a5 : Int) (a6 : Int) (a7 : Int) (a8 : Int) {w : World} {bs : List Nat} {ret : Value} (hvc : ∀ wr0, ExtX bs w wr0 → V_laws_toTask a0 a1 a2 a3 a4 a5 a6 a7 a8 wr0 fun v0 _ => v0 = ret) : PureX bs Tryz.prog fn_laws_toTask #[.agg #[.int .i64 a0, .int .i64 a1, .int .i64 a2, .int .i64 a3, .int .i64 a4, .int .i64 a5, .int .i64 a6, .int .i64 a7, .int .i64 a8]] w ret :=
  pure_of_ev (C := c_laws_toTask) (sps := s_laws_toTask) (body := bodyOf Tryz.f91) (env _ _ _ _) Tryz.func91 rfl rfl (of_decide_eq_true (by kernel_rfl)) (of_decide_eq_true (by kernel_rfl)) rfl fun wr0 hx0 => by rw [v_laws_toTask]; exact hvc wr0 hx0
noncomputable def c_laws_toTaskS : Cfg := { P := Tryz.prog, T := tblGet tbl, pf := pfT, ef := efT, tt := ttT, vis := [], n := 23, pm := false, wr := false }
noncomputable def s_laws_toTaskS : List (Nat × LSpec) := [(3, { chg := [(4, .int .i64)], chgL := [], keep := [0, 3] })]
def V_laws_toTaskS (aO : Option Addr) (aL : Nat) (aC : Nat) (w : World) (R : Value → World → Prop) : Prop :=
    (∀ wr, ExtX [] w wr → (∀ bq ∈ ([] : List Nat), bq < wr.heap.size) →
    (∃ (mkO : Option Addr) (mkL : Nat) (mkC : Nat),
    ∃ wv, ((Instr.makeSlice ty_sl_impl_Task (.int .i64 ((aL : Nat) : Int)) (.int .i64 ((aL : Nat) : Int))) : Sem Value).run Tryz.prog wr = .ok (.slice mkO mkL mkC) wv ∧ Kept [] wr wv ∧
    (∃ (xInv : List Value → World → Prop) (mu : List Value → World → Nat), (∀ wr1, ExtX [] wv wr1 → (∀ bq ∈ ([] : List Nat), bq < wr1.heap.size) → xInv [.int .i64 0] wr1) ∧
    ∀ (i : Int) wv1, (∀ bq ∈ ([] : List Nat), bq < wv1.heap.size) → xInv [.int .i64 i] wv1 →
    ((decide (i < ((aL : Nat) : Int))) = true →
    Ix aO aL i ∧
    (∃ (x0 : Int) (x1 : Int) (x2 : Int) (x3 : Int) (x4 : Int) (x5 : Int) (x6 : Int) (x7 : Int) (x8 : Int),
    CellsX [] wv1 aO (Int.toNat i * 9) [.int .i64 x0, .int .i64 x1, .int .i64 x2, .int .i64 x3, .int .i64 x4, .int .i64 x5, .int .i64 x6, .int .i64 x7, .int .i64 x8] ∧
    (∃ (toTask : Int) (toTask1 : Int) (toTask2 : Int) (toTask3 : Int) (toTask4 : Int) (toTask5 : Int) (toTask6 : Int) (toTask7 : Int) (toTask8 : Int),
    PureX [] Tryz.prog fn_laws_toTask #[.agg #[.int .i64 x0, .int .i64 x1, .int .i64 x2, .int .i64 x3, .int .i64 x4, .int .i64 x5, .int .i64 x6, .int .i64 x7, .int .i64 x8]] wv1 (.agg #[.int .i64 toTask, .int .i64 toTask1, .int .i64 toTask2, .int .i64 toTask3, .int .i64 toTask4, .int .i64 toTask5, .int .i64 toTask6, .int .i64 toTask7, .int .i64 toTask8]) ∧
    Ix mkO mkL i ∧
    WrX [] wv1 mkO (Int.toNat i * 9) 9 ∧
    InR .i64 (i + 1) ∧
    (∀ wr2, ExtX [] (sto wv1 mkO (Int.toNat i * 9) [.int .i64 toTask, .int .i64 toTask1, .int .i64 toTask2, .int .i64 toTask3, .int .i64 toTask4, .int .i64 toTask5, .int .i64 toTask6, .int .i64 toTask7, .int .i64 toTask8]) wr2 → (∀ bq ∈ ([] : List Nat), bq < wr2.heap.size) → xInv [.int .i64 (i + 1)] wr2 ∧ mu [.int .i64 (i + 1)] wr2 < mu [.int .i64 i] wv1)))) ∧
    ((decide (i < ((aL : Nat) : Int))) = false →
    (∀ wr3, ExtX [] wv1 wr3 → R (.slice mkO mkL mkC) wr3)))))
theorem v_laws_toTaskS (aO : Option Addr) (aL : Nat) (aC : Nat) (w : World) (R : Value → World → Prop) : evFn c_laws_toTaskS s_laws_toTaskS [.slice aO aL aC] (bodyOf Tryz.f40) Tryz.f40.results.toList w R = V_laws_toTaskS aO aL aC w R := by kernel_rfl
theorem e_laws_toTaskS (aO : Option Addr) (aL : Nat) (aC : Nat) {w : World} {R : Value → World → Prop} (hvc : V_laws_toTaskS aO aL aC w R) : Calls Tryz.prog fn_laws_toTaskS #[.slice aO aL aC] w fun e0 wr0 => ∃ v0, e0 = .returned v0 ∧ R v0 wr0 :=
  eff_of_ev (C := c_laws_toTaskS) (sps := s_laws_toTaskS) (body := bodyOf Tryz.f40) (env _ _ _ _) Tryz.func40 rfl rfl (of_decide_eq_true (by kernel_rfl)) (of_decide_eq_true (by kernel_rfl)) rfl (by rw [v_laws_toTaskS]; exact hvc)
noncomputable def c_laws_toIntS : Cfg := { P := Tryz.prog, T := tblGet tbl, pf := pfT, ef := efT, tt := ttT, vis := [], n := 22, pm := false, wr := false }
noncomputable def s_laws_toIntS : List (Nat × LSpec) := [(3, { chg := [(4, .int .i64)], chgL := [], keep := [0, 3] })]
def V_laws_toIntS (aO : Option Addr) (aL : Nat) (aC : Nat) (w : World) (R : Value → World → Prop) : Prop :=
    (∀ wr, ExtX [] w wr → (∀ bq ∈ ([] : List Nat), bq < wr.heap.size) →
    (∃ (mkO : Option Addr) (mkL : Nat) (mkC : Nat),
    ∃ wv, ((Instr.makeSlice ty_sl_int (.int .i64 ((aL : Nat) : Int)) (.int .i64 ((aL : Nat) : Int))) : Sem Value).run Tryz.prog wr = .ok (.slice mkO mkL mkC) wv ∧ Kept [] wr wv ∧
    (∃ (xInv : List Value → World → Prop) (mu : List Value → World → Nat), (∀ wr1, ExtX [] wv wr1 → (∀ bq ∈ ([] : List Nat), bq < wr1.heap.size) → xInv [.int .i64 0] wr1) ∧
    ∀ (i : Int) wv1, (∀ bq ∈ ([] : List Nat), bq < wv1.heap.size) → xInv [.int .i64 i] wv1 →
    ((decide (i < ((aL : Nat) : Int))) = true →
    Ix aO aL i ∧
    (∃ (x : Int),
    CellsX [] wv1 aO (Int.toNat i * 1) [.int .i64 x] ∧
    Ix mkO mkL i ∧
    WrX [] wv1 mkO (Int.toNat i * 1) 1 ∧
    InR .i64 (i + 1) ∧
    (∀ wr2, ExtX [] (sto wv1 mkO (Int.toNat i * 1) [.int .i64 x]) wr2 → (∀ bq ∈ ([] : List Nat), bq < wr2.heap.size) → xInv [.int .i64 (i + 1)] wr2 ∧ mu [.int .i64 (i + 1)] wr2 < mu [.int .i64 i] wv1))) ∧
    ((decide (i < ((aL : Nat) : Int))) = false →
    (∀ wr3, ExtX [] wv1 wr3 → R (.slice mkO mkL mkC) wr3)))))
theorem v_laws_toIntS (aO : Option Addr) (aL : Nat) (aC : Nat) (w : World) (R : Value → World → Prop) : evFn c_laws_toIntS s_laws_toIntS [.slice aO aL aC] (bodyOf Tryz.f183) Tryz.f183.results.toList w R = V_laws_toIntS aO aL aC w R := by kernel_rfl
theorem e_laws_toIntS (aO : Option Addr) (aL : Nat) (aC : Nat) {w : World} {R : Value → World → Prop} (hvc : V_laws_toIntS aO aL aC w R) : Calls Tryz.prog fn_laws_toIntS #[.slice aO aL aC] w fun e0 wr0 => ∃ v0, e0 = .returned v0 ∧ R v0 wr0 :=
  eff_of_ev (C := c_laws_toIntS) (sps := s_laws_toIntS) (body := bodyOf Tryz.f183) (env _ _ _ _) Tryz.func183 rfl rfl (of_decide_eq_true (by kernel_rfl)) (of_decide_eq_true (by kernel_rfl)) rfl (by rw [v_laws_toIntS]; exact hvc)
noncomputable def c_laws_toBoolS : Cfg := { P := Tryz.prog, T := tblGet tbl, pf := pfT, ef := efT, tt := ttT, vis := [], n := 22, pm := false, wr := false }
noncomputable def s_laws_toBoolS : List (Nat × LSpec) := [(3, { chg := [(4, .int .i64)], chgL := [], keep := [0, 3] })]
def V_laws_toBoolS (aO : Option Addr) (aL : Nat) (aC : Nat) (w : World) (R : Value → World → Prop) : Prop :=
    (∀ wr, ExtX [] w wr → (∀ bq ∈ ([] : List Nat), bq < wr.heap.size) →
    (∃ (mkO : Option Addr) (mkL : Nat) (mkC : Nat),
    ∃ wv, ((Instr.makeSlice ty_sl_bool (.int .i64 ((aL : Nat) : Int)) (.int .i64 ((aL : Nat) : Int))) : Sem Value).run Tryz.prog wr = .ok (.slice mkO mkL mkC) wv ∧ Kept [] wr wv ∧
    (∃ (xInv : List Value → World → Prop) (mu : List Value → World → Nat), (∀ wr1, ExtX [] wv wr1 → (∀ bq ∈ ([] : List Nat), bq < wr1.heap.size) → xInv [.int .i64 0] wr1) ∧
    ∀ (i : Int) wv1, (∀ bq ∈ ([] : List Nat), bq < wv1.heap.size) → xInv [.int .i64 i] wv1 →
    ((decide (i < ((aL : Nat) : Int))) = true →
    Ix aO aL i ∧
    (∃ (x : Bool),
    CellsX [] wv1 aO (Int.toNat i * 1) [.bool x] ∧
    Ix mkO mkL i ∧
    WrX [] wv1 mkO (Int.toNat i * 1) 1 ∧
    InR .i64 (i + 1) ∧
    (∀ wr2, ExtX [] (sto wv1 mkO (Int.toNat i * 1) [.bool x]) wr2 → (∀ bq ∈ ([] : List Nat), bq < wr2.heap.size) → xInv [.int .i64 (i + 1)] wr2 ∧ mu [.int .i64 (i + 1)] wr2 < mu [.int .i64 i] wv1))) ∧
    ((decide (i < ((aL : Nat) : Int))) = false →
    (∀ wr3, ExtX [] wv1 wr3 → R (.slice mkO mkL mkC) wr3)))))
theorem v_laws_toBoolS (aO : Option Addr) (aL : Nat) (aC : Nat) (w : World) (R : Value → World → Prop) : evFn c_laws_toBoolS s_laws_toBoolS [.slice aO aL aC] (bodyOf Tryz.f184) Tryz.f184.results.toList w R = V_laws_toBoolS aO aL aC w R := by kernel_rfl
theorem e_laws_toBoolS (aO : Option Addr) (aL : Nat) (aC : Nat) {w : World} {R : Value → World → Prop} (hvc : V_laws_toBoolS aO aL aC w R) : Calls Tryz.prog fn_laws_toBoolS #[.slice aO aL aC] w fun e0 wr0 => ∃ v0, e0 = .returned v0 ∧ R v0 wr0 :=
  eff_of_ev (C := c_laws_toBoolS) (sps := s_laws_toBoolS) (body := bodyOf Tryz.f184) (env _ _ _ _) Tryz.func184 rfl rfl (of_decide_eq_true (by kernel_rfl)) (of_decide_eq_true (by kernel_rfl)) rfl (by rw [v_laws_toBoolS]; exact hvc)
noncomputable def c_laws_toBand : Cfg := { P := Tryz.prog, T := tblGet tbl, pf := pfT, ef := efT, tt := ttT, vis := [], n := 22, pm := false, wr := false }
noncomputable def s_laws_toBand : List (Nat × LSpec) := []
def V_laws_toBand (a0 : Int) (a1 : Int) (a2 : Int) (a3O : Option Addr) (a3L : Nat) (a3C : Nat) (a4O : Option Addr) (a4L : Nat) (a4C : Nat) (w : World) (R : Value → World → Prop) : Prop :=
    (∀ b, w.heap.size ≤ b →
    (∀ b1, w.heap.size ≤ b1 →
    (∀ b2, w.heap.size ≤ b2 →
    (∀ wr, ExtX [] w wr → (∀ bq ∈ ([b, b1, b2] : List Nat), bq < wr.heap.size) → 
    Calls Tryz.prog fn_laws_toIntS #[.slice a3O a3L a3C] wr fun e wv =>
    (∃ (toIntSO : Option Addr) (toIntSL : Nat) (toIntSC : Nat),
    e = .returned (.slice toIntSO toIntSL toIntSC) ∧ Kept [b, b1, b2] wr wv ∧
    (∀ wr1, ExtX [b, b1, b2] wv wr1 → (∀ bq ∈ ([b, b1, b2] : List Nat), bq < wr1.heap.size) → 
    Calls Tryz.prog fn_laws_toBoolS #[.slice a4O a4L a4C] wr1 fun e1 wv1 =>
    (∃ (toBoolO : Option Addr) (toBoolL : Nat) (toBoolC : Nat),
    e1 = .returned (.slice toBoolO toBoolL toBoolC) ∧ Kept [b, b1, b2] wr1 wv1 ∧
    (∀ wr2, ExtX [b, b1, b2] wv1 wr2 → R (.agg #[.int .i64 a0, .int .i64 a1, .int .i64 a2, .slice toIntSO toIntSL toIntSC, .slice toBoolO toBoolL toBoolC]) wr2))))))))
theorem v_laws_toBand (a0 : Int) (a1 : Int) (a2 : Int) (a3O : Option Addr) (a3L : Nat) (a3C : Nat) (a4O : Option Addr) (a4L : Nat) (a4C : Nat) (w : World) (R : Value → World → Prop) : evFn c_laws_toBand s_laws_toBand [.agg #[.int .i64 a0, .int .i64 a1, .int .i64 a2, .slice a3O a3L a3C, .slice a4O a4L a4C]] (bodyOf Tryz.f144) Tryz.f144.results.toList w R = V_laws_toBand a0 a1 a2 a3O a3L a3C a4O a4L a4C w R := by kernel_rfl
theorem e_laws_toBand (a0 : Int) (a1 : Int) (a2 : Int) (a3O : Option Addr) (a3L : Nat) (a3C : Nat) (a4O : Option Addr) (a4L : Nat) (a4C : Nat) {w : World} {R : Value → World → Prop} (hvc : V_laws_toBand a0 a1 a2 a3O a3L a3C a4O a4L a4C w R) : Calls Tryz.prog fn_laws_toBand #[.agg #[.int .i64 a0, .int .i64 a1, .int .i64 a2, .slice a3O a3L a3C, .slice a4O a4L a4C]] w fun e0 wr0 => ∃ v0, e0 = .returned v0 ∧ R v0 wr0 :=
  eff_of_ev (C := c_laws_toBand) (sps := s_laws_toBand) (body := bodyOf Tryz.f144) (env _ _ _ _) Tryz.func144 rfl rfl (of_decide_eq_true (by kernel_rfl)) (of_decide_eq_true (by kernel_rfl)) rfl (by rw [v_laws_toBand]; exact hvc)
noncomputable def c_laws_toShelf : Cfg := { P := Tryz.prog, T := tblGet tbl, pf := pfT, ef := efT, tt := ttT, vis := [], n := 20, pm := true, wr := false }
noncomputable def s_laws_toShelf : List (Nat × LSpec) := []
def V_laws_toShelf (a0 : Int) (a1 : Bool) (a2 : Int) (a3 : Int) (a4 : Int) (w : World) (R : Value → World → Prop) : Prop :=
    (∀ b, w.heap.size ≤ b →
    (∀ b1, w.heap.size ≤ b1 →
    (∀ b2, w.heap.size ≤ b2 →
    R (.agg #[.int .i64 a0, .bool a1, .int .i64 a2, .int .i64 a3, .int .i64 a4]) w)))
theorem v_laws_toShelf (a0 : Int) (a1 : Bool) (a2 : Int) (a3 : Int) (a4 : Int) (w : World) (R : Value → World → Prop) : evFn c_laws_toShelf s_laws_toShelf [.agg #[.int .i64 a0, .bool a1, .int .i64 a2, .int .i64 a3, .int .i64 a4]] (bodyOf Tryz.f185) Tryz.f185.results.toList w R = V_laws_toShelf a0 a1 a2 a3 a4 w R := by kernel_rfl
theorem p_laws_toShelf (a0 : Int) (a1 : Bool) (a2 : Int) (a3 : Int) (a4 : Int) {w : World} {bs : List Nat} {ret : Value} (hvc : ∀ wr0, ExtX bs w wr0 → V_laws_toShelf a0 a1 a2 a3 a4 wr0 fun v0 _ => v0 = ret) : PureX bs Tryz.prog fn_laws_toShelf #[.agg #[.int .i64 a0, .bool a1, .int .i64 a2, .int .i64 a3, .int .i64 a4]] w ret :=
  pure_of_ev (C := c_laws_toShelf) (sps := s_laws_toShelf) (body := bodyOf Tryz.f185) (env _ _ _ _) Tryz.func185 rfl rfl (of_decide_eq_true (by kernel_rfl)) (of_decide_eq_true (by kernel_rfl)) rfl fun wr0 hx0 => by rw [v_laws_toShelf]; exact hvc wr0 hx0
noncomputable def c_laws_toShelfS : Cfg := { P := Tryz.prog, T := tblGet tbl, pf := pfT, ef := efT, tt := ttT, vis := [], n := 23, pm := false, wr := false }
noncomputable def s_laws_toShelfS : List (Nat × LSpec) := [(3, { chg := [(4, .int .i64)], chgL := [], keep := [0, 3] })]
def V_laws_toShelfS (aO : Option Addr) (aL : Nat) (aC : Nat) (w : World) (R : Value → World → Prop) : Prop :=
    (∀ wr, ExtX [] w wr → (∀ bq ∈ ([] : List Nat), bq < wr.heap.size) →
    (∃ (mkO : Option Addr) (mkL : Nat) (mkC : Nat),
    ∃ wv, ((Instr.makeSlice ty_sl_impl_Shelf (.int .i64 ((aL : Nat) : Int)) (.int .i64 ((aL : Nat) : Int))) : Sem Value).run Tryz.prog wr = .ok (.slice mkO mkL mkC) wv ∧ Kept [] wr wv ∧
    (∃ (xInv : List Value → World → Prop) (mu : List Value → World → Nat), (∀ wr1, ExtX [] wv wr1 → (∀ bq ∈ ([] : List Nat), bq < wr1.heap.size) → xInv [.int .i64 0] wr1) ∧
    ∀ (i : Int) wv1, (∀ bq ∈ ([] : List Nat), bq < wv1.heap.size) → xInv [.int .i64 i] wv1 →
    ((decide (i < ((aL : Nat) : Int))) = true →
    Ix aO aL i ∧
    (∃ (x0 : Int) (x1 : Bool) (x2 : Int) (x3 : Int) (x4 : Int),
    CellsX [] wv1 aO (Int.toNat i * 5) [.int .i64 x0, .bool x1, .int .i64 x2, .int .i64 x3, .int .i64 x4] ∧
    (∃ (toShel : Int) (toShel1 : Bool) (toShel2 : Int) (toShel3 : Int) (toShel4 : Int),
    PureX [] Tryz.prog fn_laws_toShelf #[.agg #[.int .i64 x0, .bool x1, .int .i64 x2, .int .i64 x3, .int .i64 x4]] wv1 (.agg #[.int .i64 toShel, .bool toShel1, .int .i64 toShel2, .int .i64 toShel3, .int .i64 toShel4]) ∧
    Ix mkO mkL i ∧
    WrX [] wv1 mkO (Int.toNat i * 5) 5 ∧
    InR .i64 (i + 1) ∧
    (∀ wr2, ExtX [] (sto wv1 mkO (Int.toNat i * 5) [.int .i64 toShel, .bool toShel1, .int .i64 toShel2, .int .i64 toShel3, .int .i64 toShel4]) wr2 → (∀ bq ∈ ([] : List Nat), bq < wr2.heap.size) → xInv [.int .i64 (i + 1)] wr2 ∧ mu [.int .i64 (i + 1)] wr2 < mu [.int .i64 i] wv1)))) ∧
    ((decide (i < ((aL : Nat) : Int))) = false →
    (∀ wr3, ExtX [] wv1 wr3 → R (.slice mkO mkL mkC) wr3)))))
theorem v_laws_toShelfS (aO : Option Addr) (aL : Nat) (aC : Nat) (w : World) (R : Value → World → Prop) : evFn c_laws_toShelfS s_laws_toShelfS [.slice aO aL aC] (bodyOf Tryz.f145) Tryz.f145.results.toList w R = V_laws_toShelfS aO aL aC w R := by kernel_rfl
theorem e_laws_toShelfS (aO : Option Addr) (aL : Nat) (aC : Nat) {w : World} {R : Value → World → Prop} (hvc : V_laws_toShelfS aO aL aC w R) : Calls Tryz.prog fn_laws_toShelfS #[.slice aO aL aC] w fun e0 wr0 => ∃ v0, e0 = .returned v0 ∧ R v0 wr0 :=
  eff_of_ev (C := c_laws_toShelfS) (sps := s_laws_toShelfS) (body := bodyOf Tryz.f145) (env _ _ _ _) Tryz.func145 rfl rfl (of_decide_eq_true (by kernel_rfl)) (of_decide_eq_true (by kernel_rfl)) rfl (by rw [v_laws_toShelfS]; exact hvc)
noncomputable def c_laws_toGroup : Cfg := { P := Tryz.prog, T := tblGet tbl, pf := pfT, ef := efT, tt := ttT, vis := [], n := 37, pm := false, wr := false }
noncomputable def s_laws_toGroup : List (Nat × LSpec) := []
def V_laws_toGroup (a0 : Bool) (a1 : Int) (a2 : ByteArray) (a3 : Int) (a4 : Int) (a5 : Int) (a6 : Int) (a7 : Int) (a8 : Int) (a9 : Int) (a10 : Int) (a11O : Option Addr) (a11L : Nat) (a11C : Nat) (a12O : Option Addr) (a12L : Nat) (a12C : Nat) (a13O : Option Addr) (a13L : Nat) (a13C : Nat) (w : World) (R : Value → World → Prop) : Prop :=
    (∀ b, w.heap.size ≤ b →
    (∀ b1, w.heap.size ≤ b1 →
    (∀ b2, w.heap.size ≤ b2 →
    (∀ wr, ExtX [] w wr → (∀ bq ∈ ([b, b1, b2] : List Nat), bq < wr.heap.size) → 
    Calls Tryz.prog fn_laws_toBand #[.agg #[.int .i64 a8, .int .i64 a9, .int .i64 a10, .slice a11O a11L a11C, .slice a12O a12L a12C]] wr fun e wv =>
    (∃ (toBand : Int) (toBand1 : Int) (toBand2 : Int) (toBand3O : Option Addr) (toBand3L : Nat) (toBand3C : Nat) (toBand4O : Option Addr) (toBand4L : Nat) (toBand4C : Nat),
    e = .returned (.agg #[.int .i64 toBand, .int .i64 toBand1, .int .i64 toBand2, .slice toBand3O toBand3L toBand3C, .slice toBand4O toBand4L toBand4C]) ∧ Kept [b, b1, b2] wr wv ∧
    (∀ wr1, ExtX [b, b1, b2] wv wr1 → (∀ bq ∈ ([b, b1, b2] : List Nat), bq < wr1.heap.size) → 
    Calls Tryz.prog fn_laws_toShelfS #[.slice a13O a13L a13C] wr1 fun e1 wv1 =>
    (∃ (toShelO : Option Addr) (toShelL : Nat) (toShelC : Nat),
    e1 = .returned (.slice toShelO toShelL toShelC) ∧ Kept [b, b1, b2] wr1 wv1 ∧
    (∀ wr2, ExtX [b, b1, b2] wv1 wr2 → R (.agg #[.bool a0, .int .i64 a1, .string a2, .int .i64 a3, .int .i64 a4, .int .i64 a5, .int .i64 a6, .int .i64 a7, .int .i64 toBand, .int .i64 toBand1, .int .i64 toBand2, .slice toBand3O toBand3L toBand3C, .slice toBand4O toBand4L toBand4C, .slice toShelO toShelL toShelC]) wr2))))))))
theorem v_laws_toGroup (a0 : Bool) (a1 : Int) (a2 : ByteArray) (a3 : Int) (a4 : Int) (a5 : Int) (a6 : Int) (a7 : Int) (a8 : Int) (a9 : Int) (a10 : Int) (a11O : Option Addr) (a11L : Nat) (a11C : Nat) (a12O : Option Addr) (a12L : Nat) (a12C : Nat) (a13O : Option Addr) (a13L : Nat) (a13C : Nat) (w : World) (R : Value → World → Prop) : evFn c_laws_toGroup s_laws_toGroup [.agg #[.bool a0, .int .i64 a1, .string a2, .int .i64 a3, .int .i64 a4, .int .i64 a5, .int .i64 a6, .int .i64 a7, .int .i64 a8, .int .i64 a9, .int .i64 a10, .slice a11O a11L a11C, .slice a12O a12L a12C, .slice a13O a13L a13C]] (bodyOf Tryz.f92) Tryz.f92.results.toList w R = V_laws_toGroup a0 a1 a2 a3 a4 a5 a6 a7 a8 a9 a10 a11O a11L a11C a12O a12L a12C a13O a13L a13C w R := by kernel_rfl
theorem e_laws_toGroup (a0 : Bool) (a1 : Int) (a2 : ByteArray) (a3 : Int) (a4 : Int) (a5 : Int) (a6 : Int) (a7 : Int) (a8 : Int) (a9 : Int) (a10 : Int) (a11O : Option Addr) (a11L : Nat) (a11C : Nat) (a12O : Option Addr) (a12L : Nat) (a12C : Nat) (a13O : Option Addr) (a13L : Nat) (a13C : Nat) {w : World} {R : Value → World → Prop} (hvc : V_laws_toGroup a0 a1 a2 a3 a4 a5 a6 a7 a8 a9 a10 a11O a11L a11C a12O a12L a12C a13O a13L a13C w R) : Calls Tryz.prog fn_laws_toGroup #[.agg #[.bool a0, .int .i64 a1, .string a2, .int .i64 a3, .int .i64 a4, .int .i64 a5, .int .i64 a6, .int .i64 a7, .int .i64 a8, .int .i64 a9, .int .i64 a10, .slice a11O a11L a11C, .slice a12O a12L a12C, .slice a13O a13L a13C]] w fun e0 wr0 => ∃ v0, e0 = .returned v0 ∧ R v0 wr0 :=
  eff_of_ev (C := c_laws_toGroup) (sps := s_laws_toGroup) (body := bodyOf Tryz.f92) (env _ _ _ _) Tryz.func92 rfl rfl (of_decide_eq_true (by kernel_rfl)) (of_decide_eq_true (by kernel_rfl)) rfl (by rw [v_laws_toGroup]; exact hvc)
noncomputable def c_laws_toGroupS : Cfg := { P := Tryz.prog, T := tblGet tbl, pf := pfT, ef := efT, tt := ttT, vis := [], n := 23, pm := false, wr := false }
noncomputable def s_laws_toGroupS : List (Nat × LSpec) := [(3, { chg := [(4, .int .i64)], chgL := [], keep := [0, 3] })]
def V_laws_toGroupS (aO : Option Addr) (aL : Nat) (aC : Nat) (w : World) (R : Value → World → Prop) : Prop :=
    (∀ wr, ExtX [] w wr → (∀ bq ∈ ([] : List Nat), bq < wr.heap.size) →
    (∃ (mkO : Option Addr) (mkL : Nat) (mkC : Nat),
    ∃ wv, ((Instr.makeSlice ty_sl_impl_Group (.int .i64 ((aL : Nat) : Int)) (.int .i64 ((aL : Nat) : Int))) : Sem Value).run Tryz.prog wr = .ok (.slice mkO mkL mkC) wv ∧ Kept [] wr wv ∧
    (∃ (xInv : List Value → World → Prop) (mu : List Value → World → Nat), (∀ wr1, ExtX [] wv wr1 → (∀ bq ∈ ([] : List Nat), bq < wr1.heap.size) → xInv [.int .i64 0] wr1) ∧
    ∀ (i : Int) wv1, (∀ bq ∈ ([] : List Nat), bq < wv1.heap.size) → xInv [.int .i64 i] wv1 →
    ((decide (i < ((aL : Nat) : Int))) = true →
    Ix aO aL i ∧
    (∃ (x0 : Bool) (x1 : Int) (x2 : ByteArray) (x3 : Int) (x4 : Int) (x5 : Int) (x6 : Int) (x7 : Int) (x8 : Int) (x9 : Int) (x10 : Int) (x11O : Option Addr) (x11L : Nat) (x11C : Nat) (x12O : Option Addr) (x12L : Nat) (x12C : Nat) (x13O : Option Addr) (x13L : Nat) (x13C : Nat),
    CellsX [] wv1 aO (Int.toNat i * 14) [.bool x0, .int .i64 x1, .string x2, .int .i64 x3, .int .i64 x4, .int .i64 x5, .int .i64 x6, .int .i64 x7, .int .i64 x8, .int .i64 x9, .int .i64 x10, .slice x11O x11L x11C, .slice x12O x12L x12C, .slice x13O x13L x13C] ∧
    (∀ wr2, ExtX [] wv1 wr2 → (∀ bq ∈ ([] : List Nat), bq < wr2.heap.size) → 
    Calls Tryz.prog fn_laws_toGroup #[.agg #[.bool x0, .int .i64 x1, .string x2, .int .i64 x3, .int .i64 x4, .int .i64 x5, .int .i64 x6, .int .i64 x7, .int .i64 x8, .int .i64 x9, .int .i64 x10, .slice x11O x11L x11C, .slice x12O x12L x12C, .slice x13O x13L x13C]] wr2 fun e wv2 =>
    (∃ (toGrou : Bool) (toGrou1 : Int) (toGrou2 : ByteArray) (toGrou3 : Int) (toGrou4 : Int) (toGrou5 : Int) (toGrou6 : Int) (toGrou7 : Int) (toGrou8 : Int) (toGrou9 : Int) (toGrou10 : Int) (toGrou11O : Option Addr) (toGrou11L : Nat) (toGrou11C : Nat) (toGrou12O : Option Addr) (toGrou12L : Nat) (toGrou12C : Nat) (toGrou13O : Option Addr) (toGrou13L : Nat) (toGrou13C : Nat),
    e = .returned (.agg #[.bool toGrou, .int .i64 toGrou1, .string toGrou2, .int .i64 toGrou3, .int .i64 toGrou4, .int .i64 toGrou5, .int .i64 toGrou6, .int .i64 toGrou7, .int .i64 toGrou8, .int .i64 toGrou9, .int .i64 toGrou10, .slice toGrou11O toGrou11L toGrou11C, .slice toGrou12O toGrou12L toGrou12C, .slice toGrou13O toGrou13L toGrou13C]) ∧ Kept [] wr2 wv2 ∧
    Ix mkO mkL i ∧
    WrX [] wv2 mkO (Int.toNat i * 14) 14 ∧
    InR .i64 (i + 1) ∧
    (∀ wr3, ExtX [] (sto wv2 mkO (Int.toNat i * 14) [.bool toGrou, .int .i64 toGrou1, .string toGrou2, .int .i64 toGrou3, .int .i64 toGrou4, .int .i64 toGrou5, .int .i64 toGrou6, .int .i64 toGrou7, .int .i64 toGrou8, .int .i64 toGrou9, .int .i64 toGrou10, .slice toGrou11O toGrou11L toGrou11C, .slice toGrou12O toGrou12L toGrou12C, .slice toGrou13O toGrou13L toGrou13C]) wr3 → (∀ bq ∈ ([] : List Nat), bq < wr3.heap.size) → xInv [.int .i64 (i + 1)] wr3 ∧ mu [.int .i64 (i + 1)] wr3 < mu [.int .i64 i] wv1))))) ∧
    ((decide (i < ((aL : Nat) : Int))) = false →
    (∀ wr4, ExtX [] wv1 wr4 → R (.slice mkO mkL mkC) wr4)))))
theorem v_laws_toGroupS (aO : Option Addr) (aL : Nat) (aC : Nat) (w : World) (R : Value → World → Prop) : evFn c_laws_toGroupS s_laws_toGroupS [.slice aO aL aC] (bodyOf Tryz.f41) Tryz.f41.results.toList w R = V_laws_toGroupS aO aL aC w R := by kernel_rfl
theorem e_laws_toGroupS (aO : Option Addr) (aL : Nat) (aC : Nat) {w : World} {R : Value → World → Prop} (hvc : V_laws_toGroupS aO aL aC w R) : Calls Tryz.prog fn_laws_toGroupS #[.slice aO aL aC] w fun e0 wr0 => ∃ v0, e0 = .returned v0 ∧ R v0 wr0 :=
  eff_of_ev (C := c_laws_toGroupS) (sps := s_laws_toGroupS) (body := bodyOf Tryz.f41) (env _ _ _ _) Tryz.func41 rfl rfl (of_decide_eq_true (by kernel_rfl)) (of_decide_eq_true (by kernel_rfl)) rfl (by rw [v_laws_toGroupS]; exact hvc)
noncomputable def c_laws_toWorld : Cfg := { P := Tryz.prog, T := tblGet tbl, pf := pfT, ef := efT, tt := ttT, vis := [], n := 20, pm := false, wr := false }
noncomputable def s_laws_toWorld : List (Nat × LSpec) := []
def V_laws_toWorld (a0 : Int) (a1O : Option Addr) (a1L : Nat) (a1C : Nat) (a2O : Option Addr) (a2L : Nat) (a2C : Nat) (a3O : Option Addr) (a3L : Nat) (a3C : Nat) (w : World) (R : Value → World → Prop) : Prop :=
    (∀ b, w.heap.size ≤ b →
    (∀ b1, w.heap.size ≤ b1 →
    (∀ b2, w.heap.size ≤ b2 →
    (∀ wr, ExtX [] w wr → (∀ bq ∈ ([b, b1, b2] : List Nat), bq < wr.heap.size) → 
    Calls Tryz.prog fn_laws_toCpuS #[.slice a1O a1L a1C] wr fun e wv =>
    (∃ (toCpuSO : Option Addr) (toCpuSL : Nat) (toCpuSC : Nat),
    e = .returned (.slice toCpuSO toCpuSL toCpuSC) ∧ Kept [b, b1, b2] wr wv ∧
    (∀ wr1, ExtX [b, b1, b2] wv wr1 → (∀ bq ∈ ([b, b1, b2] : List Nat), bq < wr1.heap.size) → 
    Calls Tryz.prog fn_laws_toTaskS #[.slice a2O a2L a2C] wr1 fun e1 wv1 =>
    (∃ (toTaskO : Option Addr) (toTaskL : Nat) (toTaskC : Nat),
    e1 = .returned (.slice toTaskO toTaskL toTaskC) ∧ Kept [b, b1, b2] wr1 wv1 ∧
    (∀ wr2, ExtX [b, b1, b2] wv1 wr2 → (∀ bq ∈ ([b, b1, b2] : List Nat), bq < wr2.heap.size) → 
    Calls Tryz.prog fn_laws_toGroupS #[.slice a3O a3L a3C] wr2 fun e2 wv2 =>
    (∃ (toGrouO : Option Addr) (toGrouL : Nat) (toGrouC : Nat),
    e2 = .returned (.slice toGrouO toGrouL toGrouC) ∧ Kept [b, b1, b2] wr2 wv2 ∧
    (∀ wr3, ExtX [b, b1, b2] wv2 wr3 → R (.agg #[.int .i64 a0, .slice toCpuSO toCpuSL toCpuSC, .slice toTaskO toTaskL toTaskC, .slice toGrouO toGrouL toGrouC]) wr3))))))))))
theorem v_laws_toWorld (a0 : Int) (a1O : Option Addr) (a1L : Nat) (a1C : Nat) (a2O : Option Addr) (a2L : Nat) (a2C : Nat) (a3O : Option Addr) (a3L : Nat) (a3C : Nat) (w : World) (R : Value → World → Prop) : evFn c_laws_toWorld s_laws_toWorld [.agg #[.int .i64 a0, .slice a1O a1L a1C, .slice a2O a2L a2C, .slice a3O a3L a3C]] (bodyOf Tryz.f14) Tryz.f14.results.toList w R = V_laws_toWorld a0 a1O a1L a1C a2O a2L a2C a3O a3L a3C w R := by kernel_rfl
theorem e_laws_toWorld (a0 : Int) (a1O : Option Addr) (a1L : Nat) (a1C : Nat) (a2O : Option Addr) (a2L : Nat) (a2C : Nat) (a3O : Option Addr) (a3L : Nat) (a3C : Nat) {w : World} {R : Value → World → Prop} (hvc : V_laws_toWorld a0 a1O a1L a1C a2O a2L a2C a3O a3L a3C w R) : Calls Tryz.prog fn_laws_toWorld #[.agg #[.int .i64 a0, .slice a1O a1L a1C, .slice a2O a2L a2C, .slice a3O a3L a3C]] w fun e0 wr0 => ∃ v0, e0 = .returned v0 ∧ R v0 wr0 :=
  eff_of_ev (C := c_laws_toWorld) (sps := s_laws_toWorld) (body := bodyOf Tryz.f14) (env _ _ _ _) Tryz.func14 rfl rfl (of_decide_eq_true (by kernel_rfl)) (of_decide_eq_true (by kernel_rfl)) rfl (by rw [v_laws_toWorld]; exact hvc)
noncomputable def c_impl_inRange : Cfg := { P := Tryz.prog, T := tblGet tbl, pf := pfT, ef := efT, tt := ttT, vis := [], n := 15, pm := true, wr := false }
noncomputable def s_impl_inRange : List (Nat × LSpec) := []
def V_impl_inRange (n : Int) (least : Int) (most : Int) (w : World) (R : Value → World → Prop) : Prop :=
    R (.bool ((decide (n ≥ least)) && (decide (n ≤ most)))) w
theorem v_impl_inRange (n : Int) (least : Int) (most : Int) (w : World) (R : Value → World → Prop) : evFn c_impl_inRange s_impl_inRange [.int .i64 n, .int .i64 least, .int .i64 most] (bodyOf Tryz.f70) Tryz.f70.results.toList w R = V_impl_inRange n least most w R := by kernel_rfl
theorem p_impl_inRange (n : Int) (least : Int) (most : Int) {w : World} {bs : List Nat} {ret : Value} (hvc : ∀ wr0, ExtX bs w wr0 → V_impl_inRange n least most wr0 fun v0 _ => v0 = ret) : PureX bs Tryz.prog fn_impl_inRange #[.int .i64 n, .int .i64 least, .int .i64 most] w ret :=
  pure_of_ev (C := c_impl_inRange) (sps := s_impl_inRange) (body := bodyOf Tryz.f70) (env _ _ _ _) Tryz.func70 rfl rfl (of_decide_eq_true (by kernel_rfl)) (of_decide_eq_true (by kernel_rfl)) rfl fun wr0 hx0 => by rw [v_impl_inRange]; exact hvc wr0 hx0
noncomputable def c_impl_groupUsed : Cfg := { P := Tryz.prog, T := tblGet tbl, pf := pfT, ef := efT, tt := ttT, vis := [], n := 17, pm := true, wr := false }
noncomputable def s_impl_groupUsed : List (Nat × LSpec) := []
def V_impl_groupUsed (lO : Option Addr) (lL : Nat) (lC : Nat) (g : Int) (w : World) (R : Value → World → Prop) : Prop :=
    InR .i64 (((lL : Nat) : Int) - 1) ∧
    (∃ (inRang : Bool),
    PureX [] Tryz.prog fn_impl_inRange #[.int .i64 g, .int .i64 0, .int .i64 (((lL : Nat) : Int) - 1)] w (.bool inRang) ∧
    (inRang = true → Ix lO lL g) ∧
    (∃ (used : Bool),
    (inRang = true → CellsX [] w lO (Int.toNat g * 14 + 0) [.bool used]) ∧
    R (.bool (inRang && used)) w))
theorem v_impl_groupUsed (lO : Option Addr) (lL : Nat) (lC : Nat) (g : Int) (w : World) (R : Value → World → Prop) : evFn c_impl_groupUsed s_impl_groupUsed [.slice lO lL lC, .int .i64 g] (bodyOf Tryz.f54) Tryz.f54.results.toList w R = V_impl_groupUsed lO lL lC g w R := by kernel_rfl
theorem p_impl_groupUsed (lO : Option Addr) (lL : Nat) (lC : Nat) (g : Int) {w : World} {bs : List Nat} {ret : Value} (hvc : ∀ wr0, ExtX bs w wr0 → V_impl_groupUsed lO lL lC g wr0 fun v0 _ => v0 = ret) : PureX bs Tryz.prog fn_impl_groupUsed #[.slice lO lL lC, .int .i64 g] w ret :=
  pure_of_ev (C := c_impl_groupUsed) (sps := s_impl_groupUsed) (body := bodyOf Tryz.f54) (env _ _ _ _) Tryz.func54 rfl rfl (of_decide_eq_true (by kernel_rfl)) (of_decide_eq_true (by kernel_rfl)) rfl fun wr0 hx0 => by rw [v_impl_groupUsed]; exact hvc wr0 hx0
noncomputable def c_impl_NameOk : Cfg := { P := Tryz.prog, T := tblGet tbl, pf := pfT, ef := efT, tt := ttT, vis := [], n := 36, pm := false, wr := false }
noncomputable def s_impl_NameOk : List (Nat × LSpec) := [(11, { chg := [], chgL := [], keep := [17] })]
def V_impl_NameOk (s : ByteArray) (w : World) (R : Value → World → Prop) : Prop :=
    ((strEq s (ByteArray.mk [119, 101, 105, 103, 104, 116].toArray)) = true →
    (∀ wr, ExtX [] w wr → R (.bool false) wr)) ∧
    ((strEq s (ByteArray.mk [119, 101, 105, 103, 104, 116].toArray)) = false →
    ((strEq s (ByteArray.mk [109, 97, 120].toArray)) = true →
    (∀ wr1, ExtX [] w wr1 → R (.bool false) wr1)) ∧
    ((strEq s (ByteArray.mk [109, 97, 120].toArray)) = false →
    ((strEq s (ByteArray.mk [99, 112, 117, 115].toArray)) = true →
    (∀ wr2, ExtX [] w wr2 → R (.bool false) wr2)) ∧
    ((strEq s (ByteArray.mk [99, 112, 117, 115].toArray)) = false →
    ((strEq s (ByteArray.mk [112, 114, 111, 99, 115].toArray)) = true →
    (∀ wr3, ExtX [] w wr3 → R (.bool false) wr3)) ∧
    ((strEq s (ByteArray.mk [112, 114, 111, 99, 115].toArray)) = false →
    ((strEq s (ByteArray.mk [115, 116, 97, 116].toArray)) = true →
    (∀ wr4, ExtX [] w wr4 → R (.bool false) wr4)) ∧
    ((strEq s (ByteArray.mk [115, 116, 97, 116].toArray)) = false →
    (∃ (inRang : Bool),
    PureX [] Tryz.prog fn_impl_inRange #[.int .i64 (s.size : Int), .int .i64 1, .int .i64 8] w (.bool inRang) ∧
    ((!inRang) = true →
    (∀ wr5, ExtX [] w wr5 → R (.bool false) wr5)) ∧
    ((!inRang) = false →
    (∀ wr6, ExtX [] w wr6 → (∀ bq ∈ ([] : List Nat), bq < wr6.heap.size) →
    (∃ (it : Option Addr),
    ∃ wv, ((Instr.range ty_string (.string s)) : Sem Value).run Tryz.prog wr6 = .ok (.pointer it) wv ∧ Kept [] wr6 wv ∧
    (∃ (xInv : List Value → World → Prop) (mu : List Value → World → Nat), (∀ wr7, ExtX [] wv wr7 → (∀ bq ∈ ([] : List Nat), bq < wr7.heap.size) → xInv [] wr7) ∧
    ∀  wv1, (∀ bq ∈ ([] : List Nat), bq < wv1.heap.size) → xInv [] wv1 →
    (∀ wr8, ExtX [] wv1 wr8 → (∀ bq ∈ ([] : List Nat), bq < wr8.heap.size) →
    (∃ (b : Nat) (str : ByteArray) (pos : Nat), it = some (Addr.mk b 0 none) ∧ b ∉ ([] : List Nat) ∧ wr8.heap[b]? = some (.stringIter str pos) ∧
    (str.size ≤ pos →
    (false = true →
    False) ∧
    (false = false →
    (∀ wr9, ExtX [] wr8 wr9 → R (.bool true) wr9))) ∧
    (pos < str.size →
    (true = true →
    ((!(((decide (((Utf8.decode str pos).1 : Int) ≥ 97)) && (decide (((Utf8.decode str pos).1 : Int) ≤ 122))) || ((decide (((Utf8.decode str pos).1 : Int) ≥ 48)) && (decide (((Utf8.decode str pos).1 : Int) ≤ 57))))) = true →
    (∀ wr10, ExtX [] (iterW wr8 b str (pos + (Utf8.decode str pos).2)) wr10 → R (.bool false) wr10)) ∧
    ((!(((decide (((Utf8.decode str pos).1 : Int) ≥ 97)) && (decide (((Utf8.decode str pos).1 : Int) ≤ 122))) || ((decide (((Utf8.decode str pos).1 : Int) ≥ 48)) && (decide (((Utf8.decode str pos).1 : Int) ≤ 57))))) = false →
    (∀ wr11, ExtX [] (iterW wr8 b str (pos + (Utf8.decode str pos).2)) wr11 → (∀ bq ∈ ([] : List Nat), bq < wr11.heap.size) → xInv [] wr11 ∧ mu [] wr11 < mu [] wv1))) ∧
    (true = false →
    (∀ wr12, ExtX [] (iterW wr8 b str (pos + (Utf8.decode str pos).2)) wr12 → R (.bool true) wr12)))))))))))))))
theorem v_impl_NameOk (s : ByteArray) (w : World) (R : Value → World → Prop) : evFn c_impl_NameOk s_impl_NameOk [.string s] (bodyOf Tryz.f196) Tryz.f196.results.toList w R = V_impl_NameOk s w R := by kernel_rfl
theorem e_impl_NameOk (s : ByteArray) {w : World} {R : Value → World → Prop} (hvc : V_impl_NameOk s w R) : Calls Tryz.prog fn_impl_NameOk #[.string s] w fun e0 wr0 => ∃ v0, e0 = .returned v0 ∧ R v0 wr0 :=
  eff_of_ev (C := c_impl_NameOk) (sps := s_impl_NameOk) (body := bodyOf Tryz.f196) (env _ _ _ _) Tryz.func196 rfl rfl (of_decide_eq_true (by kernel_rfl)) (of_decide_eq_true (by kernel_rfl)) rfl (by rw [v_impl_NameOk]; exact hvc)
noncomputable def c_impl_node_depth : Cfg := { P := Tryz.prog, T := tblGet tbl, pf := pfT, ef := efT, tt := ttT, vis := [], n := 22, pm := true, wr := false }
noncomputable def s_impl_node_depth : List (Nat × LSpec) := [(2, { chg := [(0, .ptr), (3, .int .i64)], chgL := [], keep := [] })]
def V_impl_node_depth (n : Option Addr) (w : World) (R : Value → World → Prop) : Prop :=
    (∃ (xInv : List Value → Prop) (mu : List Value → Nat), xInv [.pointer n, .int .i64 0] ∧
    ∀ (n1 : Option Addr) (steps : Int), xInv [.pointer n1, .int .i64 steps] →
    (((!n1.isNone) && (decide (steps ≤ 3))) = true →
    n1.isSome = true ∧
    (∃ (slot : Int),
    CellsX [] w n1 (0 + 0) [.int .i64 slot] ∧
    ((slot == 0) = true →
    R (.int .i64 steps) w) ∧
    ((slot == 0) = false →
    InR .i64 (steps + 1) ∧
    n1.isSome = true ∧
    (∃ (up : Option Addr),
    CellsX [] w n1 (0 + 2) [.pointer up] ∧
    xInv [.pointer up, .int .i64 (steps + 1)] ∧ mu [.pointer up, .int .i64 (steps + 1)] < mu [.pointer n1, .int .i64 steps])))) ∧
    (((!n1.isNone) && (decide (steps ≤ 3))) = false →
    R (.int .i64 (-1)) w))
theorem v_impl_node_depth (n : Option Addr) (w : World) (R : Value → World → Prop) : evFn c_impl_node_depth s_impl_node_depth [.pointer n] (bodyOf Tryz.f197) Tryz.f197.results.toList w R = V_impl_node_depth n w R := by kernel_rfl
theorem p_impl_node_depth (n : Option Addr) {w : World} {bs : List Nat} {ret : Value} (hvc : ∀ wr0, ExtX bs w wr0 → V_impl_node_depth n wr0 fun v0 _ => v0 = ret) : PureX bs Tryz.prog fn_impl_node_depth #[.pointer n] w ret :=
  pure_of_ev (C := c_impl_node_depth) (sps := s_impl_node_depth) (body := bodyOf Tryz.f197) (env _ _ _ _) Tryz.func197 rfl rfl (of_decide_eq_true (by kernel_rfl)) (of_decide_eq_true (by kernel_rfl)) rfl fun wr0 hx0 => by rw [v_impl_node_depth]; exact hvc wr0 hx0
end Go.Proofs.YthojnihahmlboaaGreat
