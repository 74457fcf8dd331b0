/- Printed by wip/tools/vc.py: what a function's text asks for. -/
import Derived.Test.YthihcdljmddgfaaTab
namespace Go.Proofs.Ythihcdljmddgfaa
open Go.RowKit
set_option linter.unusedVariables false
set_option maxRecDepth 100000
set_option maxHeartbeats 1600000
noncomputable def c_laws_szIntS : Cfg := { P := Try.prog, T := tblGet tbl, pf := pfT, ef := efT, tt := ttT, vis := [], n := 12, pm := true }
noncomputable def s_laws_szIntS : List (Nat × LSpec) := []
def V_laws_szIntS (aO : Option Addr) (aL : Nat) (aC : Nat) (leftv : Int) (w : World) (R : Value → World → Prop) : Prop :=
    InR .i64 (leftv - ((aL : Nat) : Int)) ∧
    ((decide (leftv - ((aL : Nat) : Int) < 0)) = true →
    R (.int .i64 (-1)) w) ∧
    ((decide (leftv - ((aL : Nat) : Int) < 0)) = false →
    R (.int .i64 (leftv - ((aL : Nat) : Int))) w)
theorem v_laws_szIntS (aO : Option Addr) (aL : Nat) (aC : Nat) (leftv : Int) (w : World) (R : Value → World → Prop) : evFn c_laws_szIntS s_laws_szIntS [.slice aO aL aC, .int .i64 leftv] (bodyOf Try.f109) Try.f109.results.toList w R = V_laws_szIntS aO aL aC leftv w R := by kernel_rfl
theorem p_laws_szIntS (aO : Option Addr) (aL : Nat) (aC : Nat) (leftv : Int) {w : World} {bs : List Nat} {ret : Value} (hvc : ∀ wr0, ExtX bs w wr0 → V_laws_szIntS aO aL aC leftv wr0 fun v0 _ => v0 = ret) : PureX bs Try.prog fn_laws_szIntS #[.slice aO aL aC, .int .i64 leftv] w ret :=
  pure_of_ev (C := c_laws_szIntS) (sps := s_laws_szIntS) (body := bodyOf Try.f109) (env _ _ _) Try.func109 rfl rfl (of_decide_eq_true (by kernel_rfl)) (of_decide_eq_true (by kernel_rfl)) rfl fun wr0 hx0 => by rw [v_laws_szIntS]; exact hvc wr0 hx0
noncomputable def c_laws_szBoolS : Cfg := { P := Try.prog, T := tblGet tbl, pf := pfT, ef := efT, tt := ttT, vis := [], n := 12, pm := true }
noncomputable def s_laws_szBoolS : List (Nat × LSpec) := []
def V_laws_szBoolS (aO : Option Addr) (aL : Nat) (aC : Nat) (leftv : Int) (w : World) (R : Value → World → Prop) : Prop :=
    InR .i64 (leftv - ((aL : Nat) : Int)) ∧
    ((decide (leftv - ((aL : Nat) : Int) < 0)) = true →
    R (.int .i64 (-1)) w) ∧
    ((decide (leftv - ((aL : Nat) : Int) < 0)) = false →
    R (.int .i64 (leftv - ((aL : Nat) : Int))) w)
theorem v_laws_szBoolS (aO : Option Addr) (aL : Nat) (aC : Nat) (leftv : Int) (w : World) (R : Value → World → Prop) : evFn c_laws_szBoolS s_laws_szBoolS [.slice aO aL aC, .int .i64 leftv] (bodyOf Try.f110) Try.f110.results.toList w R = V_laws_szBoolS aO aL aC leftv w R := by kernel_rfl
theorem p_laws_szBoolS (aO : Option Addr) (aL : Nat) (aC : Nat) (leftv : Int) {w : World} {bs : List Nat} {ret : Value} (hvc : ∀ wr0, ExtX bs w wr0 → V_laws_szBoolS aO aL aC leftv wr0 fun v0 _ => v0 = ret) : PureX bs Try.prog fn_laws_szBoolS #[.slice aO aL aC, .int .i64 leftv] w ret :=
  pure_of_ev (C := c_laws_szBoolS) (sps := s_laws_szBoolS) (body := bodyOf Try.f110) (env _ _ _) Try.func110 rfl rfl (of_decide_eq_true (by kernel_rfl)) (of_decide_eq_true (by kernel_rfl)) rfl fun wr0 hx0 => by rw [v_laws_szBoolS]; exact hvc wr0 hx0
noncomputable def c_laws_szBand : Cfg := { P := Try.prog, T := tblGet tbl, pf := pfT, ef := efT, tt := ttT, vis := [], n := 18, pm := true }
noncomputable def s_laws_szBand : List (Nat × LSpec) := []
def V_laws_szBand (a0 : Int) (a1 : Int) (a2 : Int) (a3O : Option Addr) (a3L : Nat) (a3C : Nat) (a4O : Option Addr) (a4L : Nat) (a4C : Nat) (leftv : Int) (w : World) (R : Value → World → Prop) : Prop :=
    (∀ b, w.heap.size ≤ b →
    (∃ (szIntS : Int),
    PureX [] Try.prog fn_laws_szIntS #[.slice a3O a3L a3C, .int .i64 leftv] w (.int .i64 szIntS) ∧
    ((decide (szIntS < 0)) = true →
    R (.int .i64 (-1)) w) ∧
    ((decide (szIntS < 0)) = false →
    (∃ (szBool : Int),
    PureX [] Try.prog fn_laws_szBoolS #[.slice a4O a4L a4C, .int .i64 szIntS] w (.int .i64 szBool) ∧
    ((decide (szBool < 0)) = true →
    R (.int .i64 (-1)) w) ∧
    ((decide (szBool < 0)) = false →
    R (.int .i64 szBool) w)))))
theorem v_laws_szBand (a0 : Int) (a1 : Int) (a2 : Int) (a3O : Option Addr) (a3L : Nat) (a3C : Nat) (a4O : Option Addr) (a4L : Nat) (a4C : Nat) (leftv : Int) (w : World) (R : Value → World → Prop) : evFn c_laws_szBand s_laws_szBand [.agg #[.int .i64 a0, .int .i64 a1, .int .i64 a2, .slice a3O a3L a3C, .slice a4O a4L a4C], .int .i64 leftv] (bodyOf Try.f82) Try.f82.results.toList w R = V_laws_szBand a0 a1 a2 a3O a3L a3C a4O a4L a4C leftv w R := by kernel_rfl
theorem p_laws_szBand (a0 : Int) (a1 : Int) (a2 : Int) (a3O : Option Addr) (a3L : Nat) (a3C : Nat) (a4O : Option Addr) (a4L : Nat) (a4C : Nat) (leftv : Int) {w : World} {bs : List Nat} {ret : Value} (hvc : ∀ wr0, ExtX bs w wr0 → V_laws_szBand a0 a1 a2 a3O a3L a3C a4O a4L a4C leftv wr0 fun v0 _ => v0 = ret) : PureX bs Try.prog fn_laws_szBand #[.agg #[.int .i64 a0, .int .i64 a1, .int .i64 a2, .slice a3O a3L a3C, .slice a4O a4L a4C], .int .i64 leftv] w ret :=
  pure_of_ev (C := c_laws_szBand) (sps := s_laws_szBand) (body := bodyOf Try.f82) (env _ _ _) Try.func82 rfl rfl (of_decide_eq_true (by kernel_rfl)) (of_decide_eq_true (by kernel_rfl)) rfl fun wr0 hx0 => by rw [v_laws_szBand]; exact hvc wr0 hx0
noncomputable def c_laws_szShelfS : Cfg := { P := Try.prog, T := tblGet tbl, pf := pfT, ef := efT, tt := ttT, vis := [], n := 12, pm := true }
noncomputable def s_laws_szShelfS : List (Nat × LSpec) := []
def V_laws_szShelfS (aO : Option Addr) (aL : Nat) (aC : Nat) (leftv : Int) (w : World) (R : Value → World → Prop) : Prop :=
    InR .i64 (leftv - ((aL : Nat) : Int)) ∧
    ((decide (leftv - ((aL : Nat) : Int) < 0)) = true →
    R (.int .i64 (-1)) w) ∧
    ((decide (leftv - ((aL : Nat) : Int) < 0)) = false →
    R (.int .i64 (leftv - ((aL : Nat) : Int))) w)
theorem v_laws_szShelfS (aO : Option Addr) (aL : Nat) (aC : Nat) (leftv : Int) (w : World) (R : Value → World → Prop) : evFn c_laws_szShelfS s_laws_szShelfS [.slice aO aL aC, .int .i64 leftv] (bodyOf Try.f83) Try.f83.results.toList w R = V_laws_szShelfS aO aL aC leftv w R := by kernel_rfl
theorem p_laws_szShelfS (aO : Option Addr) (aL : Nat) (aC : Nat) (leftv : Int) {w : World} {bs : List Nat} {ret : Value} (hvc : ∀ wr0, ExtX bs w wr0 → V_laws_szShelfS aO aL aC leftv wr0 fun v0 _ => v0 = ret) : PureX bs Try.prog fn_laws_szShelfS #[.slice aO aL aC, .int .i64 leftv] w ret :=
  pure_of_ev (C := c_laws_szShelfS) (sps := s_laws_szShelfS) (body := bodyOf Try.f83) (env _ _ _) Try.func83 rfl rfl (of_decide_eq_true (by kernel_rfl)) (of_decide_eq_true (by kernel_rfl)) rfl fun wr0 hx0 => by rw [v_laws_szShelfS]; exact hvc wr0 hx0
noncomputable def c_laws_szGroup : Cfg := { P := Try.prog, T := tblGet tbl, pf := pfT, ef := efT, tt := ttT, vis := [], n := 25, pm := true }
noncomputable def s_laws_szGroup : List (Nat × LSpec) := []
def V_laws_szGroup (a0 : Bool) (a1 : Int) (a2 : ByteArray) (a3 : Int) (a4 : Int) (a5 : Int) (a6 : Int) (a7 : Int) (a8 : Int) (a9 : Int) (a10 : Int) (a11O : Option Addr) (a11L : Nat) (a11C : Nat) (a12O : Option Addr) (a12L : Nat) (a12C : Nat) (a13O : Option Addr) (a13L : Nat) (a13C : Nat) (leftv : Int) (w : World) (R : Value → World → Prop) : Prop :=
    (∀ b, w.heap.size ≤ b →
    InR .i64 (leftv - (a2.size : Int)) ∧
    ((decide (leftv - (a2.size : Int) < 0)) = true →
    R (.int .i64 (-1)) w) ∧
    ((decide (leftv - (a2.size : Int) < 0)) = false →
    (∃ (szBand : Int),
    PureX [] Try.prog fn_laws_szBand #[.agg #[.int .i64 a8, .int .i64 a9, .int .i64 a10, .slice a11O a11L a11C, .slice a12O a12L a12C], .int .i64 (leftv - (a2.size : Int))] w (.int .i64 szBand) ∧
    ((decide (szBand < 0)) = true →
    R (.int .i64 (-1)) w) ∧
    ((decide (szBand < 0)) = false →
    (∃ (szShel : Int),
    PureX [] Try.prog fn_laws_szShelfS #[.slice a13O a13L a13C, .int .i64 szBand] w (.int .i64 szShel) ∧
    ((decide (szShel < 0)) = true →
    R (.int .i64 (-1)) w) ∧
    ((decide (szShel < 0)) = false →
    R (.int .i64 szShel) w))))))
theorem v_laws_szGroup (a0 : Bool) (a1 : Int) (a2 : ByteArray) (a3 : Int) (a4 : Int) (a5 : Int) (a6 : Int) (a7 : Int) (a8 : Int) (a9 : Int) (a10 : Int) (a11O : Option Addr) (a11L : Nat) (a11C : Nat) (a12O : Option Addr) (a12L : Nat) (a12C : Nat) (a13O : Option Addr) (a13L : Nat) (a13C : Nat) (leftv : Int) (w : World) (R : Value → World → Prop) : evFn c_laws_szGroup s_laws_szGroup [.agg #[.bool a0, .int .i64 a1, .string a2, .int .i64 a3, .int .i64 a4, .int .i64 a5, .int .i64 a6, .int .i64 a7, .int .i64 a8, .int .i64 a9, .int .i64 a10, .slice a11O a11L a11C, .slice a12O a12L a12C, .slice a13O a13L a13C], .int .i64 leftv] (bodyOf Try.f37) Try.f37.results.toList w R = V_laws_szGroup a0 a1 a2 a3 a4 a5 a6 a7 a8 a9 a10 a11O a11L a11C a12O a12L a12C a13O a13L a13C leftv w R := by kernel_rfl
theorem p_laws_szGroup (a0 : Bool) (a1 : Int) (a2 : ByteArray) (a3 : Int) (a4 : Int) (a5 : Int) (a6 : Int) (a7 : Int) (a8 : Int) (a9 : Int) (a10 : Int) (a11O : Option Addr) (a11L : Nat) (a11C : Nat) (a12O : Option Addr) (a12L : Nat) (a12C : Nat) (a13O : Option Addr) (a13L : Nat) (a13C : Nat) (leftv : Int) {w : World} {bs : List Nat} {ret : Value} (hvc : ∀ wr0, ExtX bs w wr0 → V_laws_szGroup a0 a1 a2 a3 a4 a5 a6 a7 a8 a9 a10 a11O a11L a11C a12O a12L a12C a13O a13L a13C leftv wr0 fun v0 _ => v0 = ret) : PureX bs Try.prog fn_laws_szGroup #[.agg #[.bool a0, .int .i64 a1, .string a2, .int .i64 a3, .int .i64 a4, .int .i64 a5, .int .i64 a6, .int .i64 a7, .int .i64 a8, .int .i64 a9, .int .i64 a10, .slice a11O a11L a11C, .slice a12O a12L a12C, .slice a13O a13L a13C], .int .i64 leftv] w ret :=
  pure_of_ev (C := c_laws_szGroup) (sps := s_laws_szGroup) (body := bodyOf Try.f37) (env _ _ _) Try.func37 rfl rfl (of_decide_eq_true (by kernel_rfl)) (of_decide_eq_true (by kernel_rfl)) rfl fun wr0 hx0 => by rw [v_laws_szGroup]; exact hvc wr0 hx0
noncomputable def c_laws_szGroupS : Cfg := { P := Try.prog, T := tblGet tbl, pf := pfT, ef := efT, tt := ttT, vis := [], n := 27, pm := true }
noncomputable def s_laws_szGroupS : List (Nat × LSpec) := [(5, { chg := [(1, .int .i64), (5, .int .i64)], chgL := [], keep := [0] })]
def V_laws_szGroupS (aO : Option Addr) (aL : Nat) (aC : Nat) (leftv : Int) (w : World) (R : Value → World → Prop) : Prop :=
    InR .i64 (leftv - ((aL : Nat) : Int)) ∧
    ((decide (leftv - ((aL : Nat) : Int) < 0)) = true →
    R (.int .i64 (-1)) w) ∧
    ((decide (leftv - ((aL : Nat) : Int) < 0)) = false →
    (∃ (xInv : List Value → Prop) (mu : List Value → Nat), xInv [.int .i64 (leftv - ((aL : Nat) : Int)), .int .i64 0] ∧
    ∀ (leftv1 : Int) (i : Int), xInv [.int .i64 leftv1, .int .i64 i] →
    ((decide (i < ((aL : Nat) : Int))) = true →
    Ix aO aL i ∧
    (∃ (x0 : Bool) (x1 : Int) (x2 : ByteArray) (x3 : Int) (x4 : Int) (x5 : Int) (x6 : Int) (x7 : Int) (x8 : Int) (x9 : Int) (x10 : Int) (x11O : Option Addr) (x11L : Nat) (x11C : Nat) (x12O : Option Addr) (x12L : Nat) (x12C : Nat) (x13O : Option Addr) (x13L : Nat) (x13C : Nat),
    CellsX [] w aO (Int.toNat i * 14) [.bool x0, .int .i64 x1, .string x2, .int .i64 x3, .int .i64 x4, .int .i64 x5, .int .i64 x6, .int .i64 x7, .int .i64 x8, .int .i64 x9, .int .i64 x10, .slice x11O x11L x11C, .slice x12O x12L x12C, .slice x13O x13L x13C] ∧
    (∃ (szGrou : Int),
    PureX [] Try.prog fn_laws_szGroup #[.agg #[.bool x0, .int .i64 x1, .string x2, .int .i64 x3, .int .i64 x4, .int .i64 x5, .int .i64 x6, .int .i64 x7, .int .i64 x8, .int .i64 x9, .int .i64 x10, .slice x11O x11L x11C, .slice x12O x12L x12C, .slice x13O x13L x13C], .int .i64 leftv1] w (.int .i64 szGrou) ∧
    ((decide (szGrou < 0)) = true →
    R (.int .i64 (-1)) w) ∧
    ((decide (szGrou < 0)) = false →
    InR .i64 (i + 1) ∧
    xInv [.int .i64 szGrou, .int .i64 (i + 1)] ∧ mu [.int .i64 szGrou, .int .i64 (i + 1)] < mu [.int .i64 leftv1, .int .i64 i])))) ∧
    ((decide (i < ((aL : Nat) : Int))) = false →
    R (.int .i64 leftv1) w)))
theorem v_laws_szGroupS (aO : Option Addr) (aL : Nat) (aC : Nat) (leftv : Int) (w : World) (R : Value → World → Prop) : evFn c_laws_szGroupS s_laws_szGroupS [.slice aO aL aC, .int .i64 leftv] (bodyOf Try.f9) Try.f9.results.toList w R = V_laws_szGroupS aO aL aC leftv w R := by kernel_rfl
theorem p_laws_szGroupS (aO : Option Addr) (aL : Nat) (aC : Nat) (leftv : Int) {w : World} {bs : List Nat} {ret : Value} (hvc : ∀ wr0, ExtX bs w wr0 → V_laws_szGroupS aO aL aC leftv wr0 fun v0 _ => v0 = ret) : PureX bs Try.prog fn_laws_szGroupS #[.slice aO aL aC, .int .i64 leftv] w ret :=
  pure_of_ev (C := c_laws_szGroupS) (sps := s_laws_szGroupS) (body := bodyOf Try.f9) (env _ _ _) Try.func9 rfl rfl (of_decide_eq_true (by kernel_rfl)) (of_decide_eq_true (by kernel_rfl)) rfl fun wr0 hx0 => by rw [v_laws_szGroupS]; exact hvc wr0 hx0
noncomputable def c_spec_l1In : Cfg := { P := Try.prog, T := tblGet tbl, pf := pfT, ef := efT, tt := ttT, vis := [], n := 15, pm := true }
noncomputable def s_spec_l1In : List (Nat × LSpec) := []
def V_spec_l1In (n : Int) (low : Int) (high : Int) (w : World) (R : Value → World → Prop) : Prop :=
    R (.bool ((decide (n ≥ low)) && (decide (n ≤ high)))) w
theorem v_spec_l1In (n : Int) (low : Int) (high : Int) (w : World) (R : Value → World → Prop) : evFn c_spec_l1In s_spec_l1In [.int .i64 n, .int .i64 low, .int .i64 high] (bodyOf Try.f58) Try.f58.results.toList w R = V_spec_l1In n low high w R := by kernel_rfl
theorem p_spec_l1In (n : Int) (low : Int) (high : Int) {w : World} {bs : List Nat} {ret : Value} (hvc : ∀ wr0, ExtX bs w wr0 → V_spec_l1In n low high wr0 fun v0 _ => v0 = ret) : PureX bs Try.prog fn_spec_l1In #[.int .i64 n, .int .i64 low, .int .i64 high] w ret :=
  pure_of_ev (C := c_spec_l1In) (sps := s_spec_l1In) (body := bodyOf Try.f58) (env _ _ _) Try.func58 rfl rfl (of_decide_eq_true (by kernel_rfl)) (of_decide_eq_true (by kernel_rfl)) rfl fun wr0 hx0 => by rw [v_spec_l1In]; exact hvc wr0 hx0
noncomputable def c_spec_l6File : Cfg := { P := Try.prog, T := tblGet tbl, pf := pfT, ef := efT, tt := ttT, vis := [], n := 21, pm := true }
noncomputable def s_spec_l6File : List (Nat × LSpec) := []
def V_spec_l6File (s : ByteArray) (w : World) (R : Value → World → Prop) : Prop :=
    R (.bool (((((strEq s (ByteArray.mk [119, 101, 105, 103, 104, 116].toArray)) || (strEq s (ByteArray.mk [109, 97, 120].toArray))) || (strEq s (ByteArray.mk [99, 112, 117, 115].toArray))) || (strEq s (ByteArray.mk [112, 114, 111, 99, 115].toArray))) || (strEq s (ByteArray.mk [115, 116, 97, 116].toArray)))) w
theorem v_spec_l6File (s : ByteArray) (w : World) (R : Value → World → Prop) : evFn c_spec_l6File s_spec_l6File [.string s] (bodyOf Try.f111) Try.f111.results.toList w R = V_spec_l6File s w R := by kernel_rfl
theorem p_spec_l6File (s : ByteArray) {w : World} {bs : List Nat} {ret : Value} (hvc : ∀ wr0, ExtX bs w wr0 → V_spec_l6File s wr0 fun v0 _ => v0 = ret) : PureX bs Try.prog fn_spec_l6File #[.string s] w ret :=
  pure_of_ev (C := c_spec_l6File) (sps := s_spec_l6File) (body := bodyOf Try.f111) (env _ _ _) Try.func111 rfl rfl (of_decide_eq_true (by kernel_rfl)) (of_decide_eq_true (by kernel_rfl)) rfl fun wr0 hx0 => by rw [v_spec_l6File]; exact hvc wr0 hx0
noncomputable def c_spec_NameOk : Cfg := { P := Try.prog, T := tblGet tbl, pf := pfT, ef := efT, tt := ttT, vis := [], n := 41, pm := true }
noncomputable def s_spec_NameOk : List (Nat × LSpec) := [(4, { chg := [(3, .int .i64)], chgL := [], keep := [0] })]
def V_spec_NameOk (s : ByteArray) (w : World) (R : Value → World → Prop) : Prop :=
    (∃ (l1In : Bool),
    PureX [] Try.prog fn_spec_l1In #[.int .i64 (s.size : Int), .int .i64 1, .int .i64 8] w (.bool l1In) ∧
    (∃ (l6File : Bool),
    ((!l1In) = false → PureX [] Try.prog fn_spec_l6File #[.string s] w (.bool l6File)) ∧
    (((!l1In) || l6File) = true →
    R (.bool false) w) ∧
    (((!l1In) || l6File) = false →
    (∃ (xInv : List Value → Prop) (mu : List Value → Nat), xInv [.int .i64 0] ∧
    ∀ (i : Int), xInv [.int .i64 i] →
    ((decide (i < (s.size : Int))) = true →
    (0 ≤ i ∧ i < (s.size : Int)) ∧
    ((decide (strAt s i ≥ 97)) = true → (0 ≤ i ∧ i < (s.size : Int))) ∧
    (((decide (strAt s i ≥ 97)) && (decide (strAt s i ≤ 122))) = false → (0 ≤ i ∧ i < (s.size : Int))) ∧
    ((decide (strAt s i ≥ 48)) = true → (((decide (strAt s i ≥ 97)) && (decide (strAt s i ≤ 122))) = false → (0 ≤ i ∧ i < (s.size : Int)))) ∧
    ((!(((decide (strAt s i ≥ 97)) && (decide (strAt s i ≤ 122))) || ((decide (strAt s i ≥ 48)) && (decide (strAt s i ≤ 57))))) = true →
    R (.bool false) w) ∧
    ((!(((decide (strAt s i ≥ 97)) && (decide (strAt s i ≤ 122))) || ((decide (strAt s i ≥ 48)) && (decide (strAt s i ≤ 57))))) = false →
    InR .i64 (i + 1) ∧
    xInv [.int .i64 (i + 1)] ∧ mu [.int .i64 (i + 1)] < mu [.int .i64 i])) ∧
    ((decide (i < (s.size : Int))) = false →
    R (.bool true) w)))))
theorem v_spec_NameOk (s : ByteArray) (w : World) (R : Value → World → Prop) : evFn c_spec_NameOk s_spec_NameOk [.string s] (bodyOf Try.f84) Try.f84.results.toList w R = V_spec_NameOk s w R := by kernel_rfl
theorem p_spec_NameOk (s : ByteArray) {w : World} {bs : List Nat} {ret : Value} (hvc : ∀ wr0, ExtX bs w wr0 → V_spec_NameOk s wr0 fun v0 _ => v0 = ret) : PureX bs Try.prog fn_spec_NameOk #[.string s] w ret :=
  pure_of_ev (C := c_spec_NameOk) (sps := s_spec_NameOk) (body := bodyOf Try.f84) (env _ _ _) Try.func84 rfl rfl (of_decide_eq_true (by kernel_rfl)) (of_decide_eq_true (by kernel_rfl)) rfl fun wr0 hx0 => by rw [v_spec_NameOk]; exact hvc wr0 hx0
noncomputable def c_spec_l6Used : Cfg := { P := Try.prog, T := tblGet tbl, pf := pfT, ef := efT, tt := ttT, vis := [], n := 20, pm := true }
noncomputable def s_spec_l6Used : List (Nat × LSpec) := []
def V_spec_l6Used (lO : Option Addr) (lL : Nat) (lC : Nat) (g : Int) (w : World) (R : Value → World → Prop) : Prop :=
    (((decide (g ≥ 0)) && (decide (g < ((lL : Nat) : Int)))) = true → Ix lO lL g) ∧
    (∃ (used : Bool),
    (((decide (g ≥ 0)) && (decide (g < ((lL : Nat) : Int)))) = true → CellsX [] w lO (Int.toNat g * 14 + 0) [.bool used]) ∧
    R (.bool (((decide (g ≥ 0)) && (decide (g < ((lL : Nat) : Int)))) && used)) w)
theorem v_spec_l6Used (lO : Option Addr) (lL : Nat) (lC : Nat) (g : Int) (w : World) (R : Value → World → Prop) : evFn c_spec_l6Used s_spec_l6Used [.slice lO lL lC, .int .i64 g] (bodyOf Try.f39) Try.f39.results.toList w R = V_spec_l6Used lO lL lC g w R := by kernel_rfl
theorem p_spec_l6Used (lO : Option Addr) (lL : Nat) (lC : Nat) (g : Int) {w : World} {bs : List Nat} {ret : Value} (hvc : ∀ wr0, ExtX bs w wr0 → V_spec_l6Used lO lL lC g wr0 fun v0 _ => v0 = ret) : PureX bs Try.prog fn_spec_l6Used #[.slice lO lL lC, .int .i64 g] w ret :=
  pure_of_ev (C := c_spec_l6Used) (sps := s_spec_l6Used) (body := bodyOf Try.f39) (env _ _ _) Try.func39 rfl rfl (of_decide_eq_true (by kernel_rfl)) (of_decide_eq_true (by kernel_rfl)) rfl fun wr0 hx0 => by rw [v_spec_l6Used]; exact hvc wr0 hx0
noncomputable def c_spec_l6Depth : Cfg := { P := Try.prog, T := tblGet tbl, pf := pfT, ef := efT, tt := ttT, vis := [], n := 24, pm := true }
noncomputable def s_spec_l6Depth : List (Nat × LSpec) := [(2, { chg := [(1, .int .i64), (5, .int .i64)], chgL := [], keep := [0] })]
def V_spec_l6Depth (lO : Option Addr) (lL : Nat) (lC : Nat) (g : Int) (w : World) (R : Value → World → Prop) : Prop :=
    (∃ (xInv : List Value → Prop) (mu : List Value → Nat), xInv [.int .i64 g, .int .i64 0] ∧
    ∀ (g1 : Int) (n : Int), xInv [.int .i64 g1, .int .i64 n] →
    ((decide (n ≤ ((lL : Nat) : Int))) = true →
    (∃ (l6Used : Bool),
    PureX [] Try.prog fn_spec_l6Used #[.slice lO lL lC, .int .i64 g1] w (.bool l6Used) ∧
    ((!l6Used) = true →
    R (.int .i64 (-1)) w) ∧
    ((!l6Used) = false →
    ((g1 == 0) = true →
    R (.int .i64 n) w) ∧
    ((g1 == 0) = false →
    Ix lO lL g1 ∧
    (∃ (parent : Int),
    CellsX [] w lO (Int.toNat g1 * 14 + 1) [.int .i64 parent] ∧
    InR .i64 (n + 1) ∧
    xInv [.int .i64 parent, .int .i64 (n + 1)] ∧ mu [.int .i64 parent, .int .i64 (n + 1)] < mu [.int .i64 g1, .int .i64 n]))))) ∧
    ((decide (n ≤ ((lL : Nat) : Int))) = false →
    R (.int .i64 (-1)) w))
theorem v_spec_l6Depth (lO : Option Addr) (lL : Nat) (lC : Nat) (g : Int) (w : World) (R : Value → World → Prop) : evFn c_spec_l6Depth s_spec_l6Depth [.slice lO lL lC, .int .i64 g] (bodyOf Try.f85) Try.f85.results.toList w R = V_spec_l6Depth lO lL lC g w R := by kernel_rfl
theorem p_spec_l6Depth (lO : Option Addr) (lL : Nat) (lC : Nat) (g : Int) {w : World} {bs : List Nat} {ret : Value} (hvc : ∀ wr0, ExtX bs w wr0 → V_spec_l6Depth lO lL lC g wr0 fun v0 _ => v0 = ret) : PureX bs Try.prog fn_spec_l6Depth #[.slice lO lL lC, .int .i64 g] w ret :=
  pure_of_ev (C := c_spec_l6Depth) (sps := s_spec_l6Depth) (body := bodyOf Try.f85) (env _ _ _) Try.func85 rfl rfl (of_decide_eq_true (by kernel_rfl)) (of_decide_eq_true (by kernel_rfl)) rfl fun wr0 hx0 => by rw [v_spec_l6Depth]; exact hvc wr0 hx0
noncomputable def c_spec_TreeOk : Cfg := { P := Try.prog, T := tblGet tbl, pf := pfT, ef := efT, tt := ttT, vis := [], n := 91, pm := true }
noncomputable def s_spec_TreeOk : List (Nat × LSpec) := [(4, { chg := [(3, .int .i64)], chgL := [], keep := [0] }), (10, { chg := [(4, .int .i64)], chgL := [], keep := [0, 3] })]
def V_spec_TreeOk (lO : Option Addr) (lL : Nat) (lC : Nat) (w : World) (R : Value → World → Prop) : Prop :=
    ((((lL : Nat) : Int) != 8) = false → Ix lO lL 0) ∧
    (∃ (used : Bool),
    ((((lL : Nat) : Int) != 8) = false → CellsX [] w lO (Int.toNat 0 * 14 + 0) [.bool used]) ∧
    (((((lL : Nat) : Int) != 8) || (!used)) = false → Ix lO lL 0) ∧
    (∃ (parent : Int),
    (((((lL : Nat) : Int) != 8) || (!used)) = false → CellsX [] w lO (Int.toNat 0 * 14 + 1) [.int .i64 parent]) ∧
    ((((((lL : Nat) : Int) != 8) || (!used)) || (parent != (-1))) = false → Ix lO lL 0) ∧
    (∃ (name : ByteArray),
    ((((((lL : Nat) : Int) != 8) || (!used)) || (parent != (-1))) = false → CellsX [] w lO (Int.toNat 0 * 14 + 2) [.string name]) ∧
    (((((((lL : Nat) : Int) != 8) || (!used)) || (parent != (-1))) || (!strEq name (ByteArray.mk [].toArray))) = true →
    R (.bool false) w) ∧
    (((((((lL : Nat) : Int) != 8) || (!used)) || (parent != (-1))) || (!strEq name (ByteArray.mk [].toArray))) = false →
    (∃ (xInv : List Value → Prop) (mu : List Value → Nat), xInv [.int .i64 1] ∧
    ∀ (g : Int), xInv [.int .i64 g] →
    ((decide (g < ((lL : Nat) : Int))) = true →
    Ix lO lL g ∧
    (∃ (used1 : Bool),
    CellsX [] w lO (Int.toNat g * 14 + 0) [.bool used1] ∧
    ((!used1) = true →
    InR .i64 (g + 1) ∧
    xInv [.int .i64 (g + 1)] ∧ mu [.int .i64 (g + 1)] < mu [.int .i64 g]) ∧
    ((!used1) = false →
    Ix lO lL g ∧
    (∃ (name1 : ByteArray),
    CellsX [] w lO (Int.toNat g * 14 + 2) [.string name1] ∧
    (∃ (xNameOk : Bool),
    PureX [] Try.prog fn_spec_NameOk #[.string name1] w (.bool xNameOk) ∧
    (∃ (l6Dept : Int),
    ((!xNameOk) = false → PureX [] Try.prog fn_spec_l6Depth #[.slice lO lL lC, .int .i64 g] w (.int .i64 l6Dept)) ∧
    (∃ (l1In : Bool),
    ((!xNameOk) = false → PureX [] Try.prog fn_spec_l1In #[.int .i64 l6Dept, .int .i64 1, .int .i64 3] w (.bool l1In)) ∧
    (((!xNameOk) || (!l1In)) = true →
    R (.bool false) w) ∧
    (((!xNameOk) || (!l1In)) = false →
    (∃ (xInv1 : List Value → Prop) (mu1 : List Value → Nat), xInv1 [.int .i64 1] ∧
    ∀ (h : Int), xInv1 [.int .i64 h] →
    ((decide (h < g)) = true →
    Ix lO lL h ∧
    (∃ (used2 : Bool),
    CellsX [] w lO (Int.toNat h * 14 + 0) [.bool used2] ∧
    (used2 = true → Ix lO lL h) ∧
    (∃ (parent1 : Int),
    (used2 = true → CellsX [] w lO (Int.toNat h * 14 + 1) [.int .i64 parent1]) ∧
    (used2 = true → Ix lO lL g) ∧
    (∃ (parent2 : Int),
    (used2 = true → CellsX [] w lO (Int.toNat g * 14 + 1) [.int .i64 parent2]) ∧
    ((used2 && (parent1 == parent2)) = true → Ix lO lL h) ∧
    (∃ (name2 : ByteArray),
    ((used2 && (parent1 == parent2)) = true → CellsX [] w lO (Int.toNat h * 14 + 2) [.string name2]) ∧
    ((used2 && (parent1 == parent2)) = true → Ix lO lL g) ∧
    (∃ (name3 : ByteArray),
    ((used2 && (parent1 == parent2)) = true → CellsX [] w lO (Int.toNat g * 14 + 2) [.string name3]) ∧
    (((used2 && (parent1 == parent2)) && (strEq name2 name3)) = true →
    R (.bool false) w) ∧
    (((used2 && (parent1 == parent2)) && (strEq name2 name3)) = false →
    InR .i64 (h + 1) ∧
    xInv1 [.int .i64 (h + 1)] ∧ mu1 [.int .i64 (h + 1)] < mu1 [.int .i64 h]))))))) ∧
    ((decide (h < g)) = false →
    InR .i64 (g + 1) ∧
    xInv [.int .i64 (g + 1)] ∧ mu [.int .i64 (g + 1)] < mu [.int .i64 g])))))))))) ∧
    ((decide (g < ((lL : Nat) : Int))) = false →
    R (.bool true) w))))))
theorem v_spec_TreeOk (lO : Option Addr) (lL : Nat) (lC : Nat) (w : World) (R : Value → World → Prop) : evFn c_spec_TreeOk s_spec_TreeOk [.slice lO lL lC] (bodyOf Try.f38) Try.f38.results.toList w R = V_spec_TreeOk lO lL lC w R := by kernel_rfl
theorem p_spec_TreeOk (lO : Option Addr) (lL : Nat) (lC : Nat) {w : World} {bs : List Nat} {ret : Value} (hvc : ∀ wr0, ExtX bs w wr0 → V_spec_TreeOk lO lL lC wr0 fun v0 _ => v0 = ret) : PureX bs Try.prog fn_spec_TreeOk #[.slice lO lL lC] w ret :=
  pure_of_ev (C := c_spec_TreeOk) (sps := s_spec_TreeOk) (body := bodyOf Try.f38) (env _ _ _) Try.func38 rfl rfl (of_decide_eq_true (by kernel_rfl)) (of_decide_eq_true (by kernel_rfl)) rfl fun wr0 hx0 => by rw [v_spec_TreeOk]; exact hvc wr0 hx0
noncomputable def c_spec_TreeUnder : Cfg := { P := Try.prog, T := tblGet tbl, pf := pfT, ef := efT, tt := ttT, vis := [], n := 32, pm := true }
noncomputable def s_spec_TreeUnder : List (Nat × LSpec) := [(3, { chg := [(2, .int .i64)], chgL := [], keep := [0, 1] })]
def V_spec_TreeUnder (lO : Option Addr) (lL : Nat) (lC : Nat) (g : Int) (h : Int) (w : World) (R : Value → World → Prop) : Prop :=
    (∃ (xTreeOk : Bool),
    PureX [] Try.prog fn_spec_TreeOk #[.slice lO lL lC] w (.bool xTreeOk) ∧
    (∃ (l6Used : Bool),
    ((!xTreeOk) = false → PureX [] Try.prog fn_spec_l6Used #[.slice lO lL lC, .int .i64 g] w (.bool l6Used)) ∧
    (∃ (l6Used1 : Bool),
    (((!xTreeOk) || (!l6Used)) = false → PureX [] Try.prog fn_spec_l6Used #[.slice lO lL lC, .int .i64 h] w (.bool l6Used1)) ∧
    ((((!xTreeOk) || (!l6Used)) || (!l6Used1)) = true →
    R (.bool false) w) ∧
    ((((!xTreeOk) || (!l6Used)) || (!l6Used1)) = false →
    (∃ (xInv : List Value → Prop) (mu : List Value → Nat), xInv [.int .i64 h] ∧
    ∀ (h1 : Int), xInv [.int .i64 h1] →
    ((h1 != g) = true →
    ((h1 == 0) = true →
    R (.bool false) w) ∧
    ((h1 == 0) = false →
    Ix lO lL h1 ∧
    (∃ (parent : Int),
    CellsX [] w lO (Int.toNat h1 * 14 + 1) [.int .i64 parent] ∧
    xInv [.int .i64 parent] ∧ mu [.int .i64 parent] < mu [.int .i64 h1]))) ∧
    ((h1 != g) = false →
    R (.bool true) w))))))
theorem v_spec_TreeUnder (lO : Option Addr) (lL : Nat) (lC : Nat) (g : Int) (h : Int) (w : World) (R : Value → World → Prop) : evFn c_spec_TreeUnder s_spec_TreeUnder [.slice lO lL lC, .int .i64 g, .int .i64 h] (bodyOf Try.f10) Try.f10.results.toList w R = V_spec_TreeUnder lO lL lC g h w R := by kernel_rfl
theorem p_spec_TreeUnder (lO : Option Addr) (lL : Nat) (lC : Nat) (g : Int) (h : Int) {w : World} {bs : List Nat} {ret : Value} (hvc : ∀ wr0, ExtX bs w wr0 → V_spec_TreeUnder lO lL lC g h wr0 fun v0 _ => v0 = ret) : PureX bs Try.prog fn_spec_TreeUnder #[.slice lO lL lC, .int .i64 g, .int .i64 h] w ret :=
  pure_of_ev (C := c_spec_TreeUnder) (sps := s_spec_TreeUnder) (body := bodyOf Try.f10) (env _ _ _) Try.func10 rfl rfl (of_decide_eq_true (by kernel_rfl)) (of_decide_eq_true (by kernel_rfl)) rfl fun wr0 hx0 => by rw [v_spec_TreeUnder]; exact hvc wr0 hx0
noncomputable def c_laws_toIntS : Cfg := { P := Try.prog, T := tblGet tbl, pf := pfT, ef := efT, tt := ttT, vis := [], n := 22, pm := false }
noncomputable def s_laws_toIntS : List (Nat × LSpec) := [(3, { chg := [(4, .int .i64)], chgL := [], keep := [0, 3] })]
def V_laws_toIntS (aO : Option Addr) (aL : Nat) (aC : Nat) (w : World) (R : Value → World → Prop) : Prop :=
    (∀ wr, ExtX [] w wr → (∀ bq ∈ ([] : List Nat), bq < wr.heap.size) →
    (∃ (mkO : Option Addr) (mkL : Nat) (mkC : Nat),
    ∃ wv, ((Instr.makeSlice ty_sl_int (.int .i64 ((aL : Nat) : Int)) (.int .i64 ((aL : Nat) : Int))) : Sem Value).run Try.prog wr = .ok (.slice mkO mkL mkC) wv ∧ Kept [] wr wv ∧
    (∃ (xInv : List Value → World → Prop) (mu : List Value → World → Nat), (∀ wr1, ExtX [] wv wr1 → (∀ bq ∈ ([] : List Nat), bq < wr1.heap.size) → xInv [.int .i64 0] wr1) ∧
    ∀ (i : Int) wv1, (∀ bq ∈ ([] : List Nat), bq < wv1.heap.size) → xInv [.int .i64 i] wv1 →
    ((decide (i < ((aL : Nat) : Int))) = true →
    Ix aO aL i ∧
    (∃ (x : Int),
    CellsX [] wv1 aO (Int.toNat i * 1) [.int .i64 x] ∧
    Ix mkO mkL i ∧
    WrX [] wv1 mkO (Int.toNat i * 1) 1 ∧
    InR .i64 (i + 1) ∧
    (∀ wr2, ExtX [] (sto wv1 mkO (Int.toNat i * 1) [.int .i64 x]) wr2 → (∀ bq ∈ ([] : List Nat), bq < wr2.heap.size) → xInv [.int .i64 (i + 1)] wr2 ∧ mu [.int .i64 (i + 1)] wr2 < mu [.int .i64 i] wv1))) ∧
    ((decide (i < ((aL : Nat) : Int))) = false →
    (∀ wr3, ExtX [] wv1 wr3 → R (.slice mkO mkL mkC) wr3)))))
theorem v_laws_toIntS (aO : Option Addr) (aL : Nat) (aC : Nat) (w : World) (R : Value → World → Prop) : evFn c_laws_toIntS s_laws_toIntS [.slice aO aL aC] (bodyOf Try.f112) Try.f112.results.toList w R = V_laws_toIntS aO aL aC w R := by kernel_rfl
theorem e_laws_toIntS (aO : Option Addr) (aL : Nat) (aC : Nat) {w : World} {R : Value → World → Prop} (hvc : V_laws_toIntS aO aL aC w R) : Calls Try.prog fn_laws_toIntS #[.slice aO aL aC] w fun e0 wr0 => ∃ v0, e0 = .returned v0 ∧ R v0 wr0 :=
  eff_of_ev (C := c_laws_toIntS) (sps := s_laws_toIntS) (body := bodyOf Try.f112) (env _ _ _) Try.func112 rfl rfl (of_decide_eq_true (by kernel_rfl)) (of_decide_eq_true (by kernel_rfl)) rfl (by rw [v_laws_toIntS]; exact hvc)
noncomputable def c_laws_toBoolS : Cfg := { P := Try.prog, T := tblGet tbl, pf := pfT, ef := efT, tt := ttT, vis := [], n := 22, pm := false }
noncomputable def s_laws_toBoolS : List (Nat × LSpec) := [(3, { chg := [(4, .int .i64)], chgL := [], keep := [0, 3] })]
def V_laws_toBoolS (aO : Option Addr) (aL : Nat) (aC : Nat) (w : World) (R : Value → World → Prop) : Prop :=
    (∀ wr, ExtX [] w wr → (∀ bq ∈ ([] : List Nat), bq < wr.heap.size) →
    (∃ (mkO : Option Addr) (mkL : Nat) (mkC : Nat),
    ∃ wv, ((Instr.makeSlice ty_sl_bool (.int .i64 ((aL : Nat) : Int)) (.int .i64 ((aL : Nat) : Int))) : Sem Value).run Try.prog wr = .ok (.slice mkO mkL mkC) wv ∧ Kept [] wr wv ∧
    (∃ (xInv : List Value → World → Prop) (mu : List Value → World → Nat), (∀ wr1, ExtX [] wv wr1 → (∀ bq ∈ ([] : List Nat), bq < wr1.heap.size) → xInv [.int .i64 0] wr1) ∧
    ∀ (i : Int) wv1, (∀ bq ∈ ([] : List Nat), bq < wv1.heap.size) → xInv [.int .i64 i] wv1 →
    ((decide (i < ((aL : Nat) : Int))) = true →
    Ix aO aL i ∧
    (∃ (x : Bool),
    CellsX [] wv1 aO (Int.toNat i * 1) [.bool x] ∧
    Ix mkO mkL i ∧
    WrX [] wv1 mkO (Int.toNat i * 1) 1 ∧
    InR .i64 (i + 1) ∧
    (∀ wr2, ExtX [] (sto wv1 mkO (Int.toNat i * 1) [.bool x]) wr2 → (∀ bq ∈ ([] : List Nat), bq < wr2.heap.size) → xInv [.int .i64 (i + 1)] wr2 ∧ mu [.int .i64 (i + 1)] wr2 < mu [.int .i64 i] wv1))) ∧
    ((decide (i < ((aL : Nat) : Int))) = false →
    (∀ wr3, ExtX [] wv1 wr3 → R (.slice mkO mkL mkC) wr3)))))
theorem v_laws_toBoolS (aO : Option Addr) (aL : Nat) (aC : Nat) (w : World) (R : Value → World → Prop) : evFn c_laws_toBoolS s_laws_toBoolS [.slice aO aL aC] (bodyOf Try.f113) Try.f113.results.toList w R = V_laws_toBoolS aO aL aC w R := by kernel_rfl
theorem e_laws_toBoolS (aO : Option Addr) (aL : Nat) (aC : Nat) {w : World} {R : Value → World → Prop} (hvc : V_laws_toBoolS aO aL aC w R) : Calls Try.prog fn_laws_toBoolS #[.slice aO aL aC] w fun e0 wr0 => ∃ v0, e0 = .returned v0 ∧ R v0 wr0 :=
  eff_of_ev (C := c_laws_toBoolS) (sps := s_laws_toBoolS) (body := bodyOf Try.f113) (env _ _ _) Try.func113 rfl rfl (of_decide_eq_true (by kernel_rfl)) (of_decide_eq_true (by kernel_rfl)) rfl (by rw [v_laws_toBoolS]; exact hvc)
noncomputable def c_laws_toBand : Cfg := { P := Try.prog, T := tblGet tbl, pf := pfT, ef := efT, tt := ttT, vis := [], n := 22, pm := false }
noncomputable def s_laws_toBand : List (Nat × LSpec) := []
def V_laws_toBand (a0 : Int) (a1 : Int) (a2 : Int) (a3O : Option Addr) (a3L : Nat) (a3C : Nat) (a4O : Option Addr) (a4L : Nat) (a4C : Nat) (w : World) (R : Value → World → Prop) : Prop :=
    (∀ b, w.heap.size ≤ b →
    (∀ b1, w.heap.size ≤ b1 →
    (∀ b2, w.heap.size ≤ b2 →
    (∀ wr, ExtX [] w wr → (∀ bq ∈ ([b, b1, b2] : List Nat), bq < wr.heap.size) → 
    Calls Try.prog fn_laws_toIntS #[.slice a3O a3L a3C] wr fun e wv =>
    (∃ (toIntSO : Option Addr) (toIntSL : Nat) (toIntSC : Nat),
    e = .returned (.slice toIntSO toIntSL toIntSC) ∧ Kept [b, b1, b2] wr wv ∧
    (∀ wr1, ExtX [b, b1, b2] wv wr1 → (∀ bq ∈ ([b, b1, b2] : List Nat), bq < wr1.heap.size) → 
    Calls Try.prog fn_laws_toBoolS #[.slice a4O a4L a4C] wr1 fun e1 wv1 =>
    (∃ (toBoolO : Option Addr) (toBoolL : Nat) (toBoolC : Nat),
    e1 = .returned (.slice toBoolO toBoolL toBoolC) ∧ Kept [b, b1, b2] wr1 wv1 ∧
    (∀ wr2, ExtX [b, b1, b2] wv1 wr2 → R (.agg #[.int .i64 a0, .int .i64 a1, .int .i64 a2, .slice toIntSO toIntSL toIntSC, .slice toBoolO toBoolL toBoolC]) wr2))))))))
theorem v_laws_toBand (a0 : Int) (a1 : Int) (a2 : Int) (a3O : Option Addr) (a3L : Nat) (a3C : Nat) (a4O : Option Addr) (a4L : Nat) (a4C : Nat) (w : World) (R : Value → World → Prop) : evFn c_laws_toBand s_laws_toBand [.agg #[.int .i64 a0, .int .i64 a1, .int .i64 a2, .slice a3O a3L a3C, .slice a4O a4L a4C]] (bodyOf Try.f86) Try.f86.results.toList w R = V_laws_toBand a0 a1 a2 a3O a3L a3C a4O a4L a4C w R := by kernel_rfl
theorem e_laws_toBand (a0 : Int) (a1 : Int) (a2 : Int) (a3O : Option Addr) (a3L : Nat) (a3C : Nat) (a4O : Option Addr) (a4L : Nat) (a4C : Nat) {w : World} {R : Value → World → Prop} (hvc : V_laws_toBand a0 a1 a2 a3O a3L a3C a4O a4L a4C w R) : Calls Try.prog fn_laws_toBand #[.agg #[.int .i64 a0, .int .i64 a1, .int .i64 a2, .slice a3O a3L a3C, .slice a4O a4L a4C]] w fun e0 wr0 => ∃ v0, e0 = .returned v0 ∧ R v0 wr0 :=
  eff_of_ev (C := c_laws_toBand) (sps := s_laws_toBand) (body := bodyOf Try.f86) (env _ _ _) Try.func86 rfl rfl (of_decide_eq_true (by kernel_rfl)) (of_decide_eq_true (by kernel_rfl)) rfl (by rw [v_laws_toBand]; exact hvc)
noncomputable def c_laws_toShelf : Cfg := { P := Try.prog, T := tblGet tbl, pf := pfT, ef := efT, tt := ttT, vis := [], n := 20, pm := true }
noncomputable def s_laws_toShelf : List (Nat × LSpec) := []
def V_laws_toShelf (a0 : Int) (a1 : Bool) (a2 : Int) (a3 : Int) (a4 : Int) (w : World) (R : Value → World → Prop) : Prop :=
    (∀ b, w.heap.size ≤ b →
    (∀ b1, w.heap.size ≤ b1 →
    (∀ b2, w.heap.size ≤ b2 →
    R (.agg #[.int .i64 a0, .bool a1, .int .i64 a2, .int .i64 a3, .int .i64 a4]) w)))
theorem v_laws_toShelf (a0 : Int) (a1 : Bool) (a2 : Int) (a3 : Int) (a4 : Int) (w : World) (R : Value → World → Prop) : evFn c_laws_toShelf s_laws_toShelf [.agg #[.int .i64 a0, .bool a1, .int .i64 a2, .int .i64 a3, .int .i64 a4]] (bodyOf Try.f114) Try.f114.results.toList w R = V_laws_toShelf a0 a1 a2 a3 a4 w R := by kernel_rfl
theorem p_laws_toShelf (a0 : Int) (a1 : Bool) (a2 : Int) (a3 : Int) (a4 : Int) {w : World} {bs : List Nat} {ret : Value} (hvc : ∀ wr0, ExtX bs w wr0 → V_laws_toShelf a0 a1 a2 a3 a4 wr0 fun v0 _ => v0 = ret) : PureX bs Try.prog fn_laws_toShelf #[.agg #[.int .i64 a0, .bool a1, .int .i64 a2, .int .i64 a3, .int .i64 a4]] w ret :=
  pure_of_ev (C := c_laws_toShelf) (sps := s_laws_toShelf) (body := bodyOf Try.f114) (env _ _ _) Try.func114 rfl rfl (of_decide_eq_true (by kernel_rfl)) (of_decide_eq_true (by kernel_rfl)) rfl fun wr0 hx0 => by rw [v_laws_toShelf]; exact hvc wr0 hx0
noncomputable def c_laws_toShelfS : Cfg := { P := Try.prog, T := tblGet tbl, pf := pfT, ef := efT, tt := ttT, vis := [], n := 23, pm := false }
noncomputable def s_laws_toShelfS : List (Nat × LSpec) := [(3, { chg := [(4, .int .i64)], chgL := [], keep := [0, 3] })]
def V_laws_toShelfS (aO : Option Addr) (aL : Nat) (aC : Nat) (w : World) (R : Value → World → Prop) : Prop :=
    (∀ wr, ExtX [] w wr → (∀ bq ∈ ([] : List Nat), bq < wr.heap.size) →
    (∃ (mkO : Option Addr) (mkL : Nat) (mkC : Nat),
    ∃ wv, ((Instr.makeSlice ty_sl_impl_Shelf (.int .i64 ((aL : Nat) : Int)) (.int .i64 ((aL : Nat) : Int))) : Sem Value).run Try.prog wr = .ok (.slice mkO mkL mkC) wv ∧ Kept [] wr wv ∧
    (∃ (xInv : List Value → World → Prop) (mu : List Value → World → Nat), (∀ wr1, ExtX [] wv wr1 → (∀ bq ∈ ([] : List Nat), bq < wr1.heap.size) → xInv [.int .i64 0] wr1) ∧
    ∀ (i : Int) wv1, (∀ bq ∈ ([] : List Nat), bq < wv1.heap.size) → xInv [.int .i64 i] wv1 →
    ((decide (i < ((aL : Nat) : Int))) = true →
    Ix aO aL i ∧
    (∃ (x0 : Int) (x1 : Bool) (x2 : Int) (x3 : Int) (x4 : Int),
    CellsX [] wv1 aO (Int.toNat i * 5) [.int .i64 x0, .bool x1, .int .i64 x2, .int .i64 x3, .int .i64 x4] ∧
    (∃ (toShel : Int) (toShel1 : Bool) (toShel2 : Int) (toShel3 : Int) (toShel4 : Int),
    PureX [] Try.prog fn_laws_toShelf #[.agg #[.int .i64 x0, .bool x1, .int .i64 x2, .int .i64 x3, .int .i64 x4]] wv1 (.agg #[.int .i64 toShel, .bool toShel1, .int .i64 toShel2, .int .i64 toShel3, .int .i64 toShel4]) ∧
    Ix mkO mkL i ∧
    WrX [] wv1 mkO (Int.toNat i * 5) 5 ∧
    InR .i64 (i + 1) ∧
    (∀ wr2, ExtX [] (sto wv1 mkO (Int.toNat i * 5) [.int .i64 toShel, .bool toShel1, .int .i64 toShel2, .int .i64 toShel3, .int .i64 toShel4]) wr2 → (∀ bq ∈ ([] : List Nat), bq < wr2.heap.size) → xInv [.int .i64 (i + 1)] wr2 ∧ mu [.int .i64 (i + 1)] wr2 < mu [.int .i64 i] wv1)))) ∧
    ((decide (i < ((aL : Nat) : Int))) = false →
    (∀ wr3, ExtX [] wv1 wr3 → R (.slice mkO mkL mkC) wr3)))))
theorem v_laws_toShelfS (aO : Option Addr) (aL : Nat) (aC : Nat) (w : World) (R : Value → World → Prop) : evFn c_laws_toShelfS s_laws_toShelfS [.slice aO aL aC] (bodyOf Try.f87) Try.f87.results.toList w R = V_laws_toShelfS aO aL aC w R := by kernel_rfl
theorem e_laws_toShelfS (aO : Option Addr) (aL : Nat) (aC : Nat) {w : World} {R : Value → World → Prop} (hvc : V_laws_toShelfS aO aL aC w R) : Calls Try.prog fn_laws_toShelfS #[.slice aO aL aC] w fun e0 wr0 => ∃ v0, e0 = .returned v0 ∧ R v0 wr0 :=
  eff_of_ev (C := c_laws_toShelfS) (sps := s_laws_toShelfS) (body := bodyOf Try.f87) (env _ _ _) Try.func87 rfl rfl (of_decide_eq_true (by kernel_rfl)) (of_decide_eq_true (by kernel_rfl)) rfl (by rw [v_laws_toShelfS]; exact hvc)
noncomputable def c_laws_toGroup : Cfg := { P := Try.prog, T := tblGet tbl, pf := pfT, ef := efT, tt := ttT, vis := [], n := 37, pm := false }
noncomputable def s_laws_toGroup : List (Nat × LSpec) := []
def V_laws_toGroup (a0 : Bool) (a1 : Int) (a2 : ByteArray) (a3 : Int) (a4 : Int) (a5 : Int) (a6 : Int) (a7 : Int) (a8 : Int) (a9 : Int) (a10 : Int) (a11O : Option Addr) (a11L : Nat) (a11C : Nat) (a12O : Option Addr) (a12L : Nat) (a12C : Nat) (a13O : Option Addr) (a13L : Nat) (a13C : Nat) (w : World) (R : Value → World → Prop) : Prop :=
    (∀ b, w.heap.size ≤ b →
    (∀ b1, w.heap.size ≤ b1 →
    (∀ b2, w.heap.size ≤ b2 →
    (∀ wr, ExtX [] w wr → (∀ bq ∈ ([b, b1, b2] : List Nat), bq < wr.heap.size) → 
    Calls Try.prog fn_laws_toBand #[.agg #[.int .i64 a8, .int .i64 a9, .int .i64 a10, .slice a11O a11L a11C, .slice a12O a12L a12C]] wr fun e wv =>
    (∃ (toBand : Int) (toBand1 : Int) (toBand2 : Int) (toBand3O : Option Addr) (toBand3L : Nat) (toBand3C : Nat) (toBand4O : Option Addr) (toBand4L : Nat) (toBand4C : Nat),
    e = .returned (.agg #[.int .i64 toBand, .int .i64 toBand1, .int .i64 toBand2, .slice toBand3O toBand3L toBand3C, .slice toBand4O toBand4L toBand4C]) ∧ Kept [b, b1, b2] wr wv ∧
    (∀ wr1, ExtX [b, b1, b2] wv wr1 → (∀ bq ∈ ([b, b1, b2] : List Nat), bq < wr1.heap.size) → 
    Calls Try.prog fn_laws_toShelfS #[.slice a13O a13L a13C] wr1 fun e1 wv1 =>
    (∃ (toShelO : Option Addr) (toShelL : Nat) (toShelC : Nat),
    e1 = .returned (.slice toShelO toShelL toShelC) ∧ Kept [b, b1, b2] wr1 wv1 ∧
    (∀ wr2, ExtX [b, b1, b2] wv1 wr2 → R (.agg #[.bool a0, .int .i64 a1, .string a2, .int .i64 a3, .int .i64 a4, .int .i64 a5, .int .i64 a6, .int .i64 a7, .int .i64 toBand, .int .i64 toBand1, .int .i64 toBand2, .slice toBand3O toBand3L toBand3C, .slice toBand4O toBand4L toBand4C, .slice toShelO toShelL toShelC]) wr2))))))))
theorem v_laws_toGroup (a0 : Bool) (a1 : Int) (a2 : ByteArray) (a3 : Int) (a4 : Int) (a5 : Int) (a6 : Int) (a7 : Int) (a8 : Int) (a9 : Int) (a10 : Int) (a11O : Option Addr) (a11L : Nat) (a11C : Nat) (a12O : Option Addr) (a12L : Nat) (a12C : Nat) (a13O : Option Addr) (a13L : Nat) (a13C : Nat) (w : World) (R : Value → World → Prop) : evFn c_laws_toGroup s_laws_toGroup [.agg #[.bool a0, .int .i64 a1, .string a2, .int .i64 a3, .int .i64 a4, .int .i64 a5, .int .i64 a6, .int .i64 a7, .int .i64 a8, .int .i64 a9, .int .i64 a10, .slice a11O a11L a11C, .slice a12O a12L a12C, .slice a13O a13L a13C]] (bodyOf Try.f40) Try.f40.results.toList w R = V_laws_toGroup a0 a1 a2 a3 a4 a5 a6 a7 a8 a9 a10 a11O a11L a11C a12O a12L a12C a13O a13L a13C w R := by kernel_rfl
theorem e_laws_toGroup (a0 : Bool) (a1 : Int) (a2 : ByteArray) (a3 : Int) (a4 : Int) (a5 : Int) (a6 : Int) (a7 : Int) (a8 : Int) (a9 : Int) (a10 : Int) (a11O : Option Addr) (a11L : Nat) (a11C : Nat) (a12O : Option Addr) (a12L : Nat) (a12C : Nat) (a13O : Option Addr) (a13L : Nat) (a13C : Nat) {w : World} {R : Value → World → Prop} (hvc : V_laws_toGroup a0 a1 a2 a3 a4 a5 a6 a7 a8 a9 a10 a11O a11L a11C a12O a12L a12C a13O a13L a13C w R) : Calls Try.prog fn_laws_toGroup #[.agg #[.bool a0, .int .i64 a1, .string a2, .int .i64 a3, .int .i64 a4, .int .i64 a5, .int .i64 a6, .int .i64 a7, .int .i64 a8, .int .i64 a9, .int .i64 a10, .slice a11O a11L a11C, .slice a12O a12L a12C, .slice a13O a13L a13C]] w fun e0 wr0 => ∃ v0, e0 = .returned v0 ∧ R v0 wr0 :=
  eff_of_ev (C := c_laws_toGroup) (sps := s_laws_toGroup) (body := bodyOf Try.f40) (env _ _ _) Try.func40 rfl rfl (of_decide_eq_true (by kernel_rfl)) (of_decide_eq_true (by kernel_rfl)) rfl (by rw [v_laws_toGroup]; exact hvc)
noncomputable def c_laws_toGroupS : Cfg := { P := Try.prog, T := tblGet tbl, pf := pfT, ef := efT, tt := ttT, vis := [], n := 23, pm := false }
noncomputable def s_laws_toGroupS : List (Nat × LSpec) := [(3, { chg := [(4, .int .i64)], chgL := [], keep := [0, 3] })]
def V_laws_toGroupS (aO : Option Addr) (aL : Nat) (aC : Nat) (w : World) (R : Value → World → Prop) : Prop :=
    (∀ wr, ExtX [] w wr → (∀ bq ∈ ([] : List Nat), bq < wr.heap.size) →
    (∃ (mkO : Option Addr) (mkL : Nat) (mkC : Nat),
    ∃ wv, ((Instr.makeSlice ty_sl_impl_Group (.int .i64 ((aL : Nat) : Int)) (.int .i64 ((aL : Nat) : Int))) : Sem Value).run Try.prog wr = .ok (.slice mkO mkL mkC) wv ∧ Kept [] wr wv ∧
    (∃ (xInv : List Value → World → Prop) (mu : List Value → World → Nat), (∀ wr1, ExtX [] wv wr1 → (∀ bq ∈ ([] : List Nat), bq < wr1.heap.size) → xInv [.int .i64 0] wr1) ∧
    ∀ (i : Int) wv1, (∀ bq ∈ ([] : List Nat), bq < wv1.heap.size) → xInv [.int .i64 i] wv1 →
    ((decide (i < ((aL : Nat) : Int))) = true →
    Ix aO aL i ∧
    (∃ (x0 : Bool) (x1 : Int) (x2 : ByteArray) (x3 : Int) (x4 : Int) (x5 : Int) (x6 : Int) (x7 : Int) (x8 : Int) (x9 : Int) (x10 : Int) (x11O : Option Addr) (x11L : Nat) (x11C : Nat) (x12O : Option Addr) (x12L : Nat) (x12C : Nat) (x13O : Option Addr) (x13L : Nat) (x13C : Nat),
    CellsX [] wv1 aO (Int.toNat i * 14) [.bool x0, .int .i64 x1, .string x2, .int .i64 x3, .int .i64 x4, .int .i64 x5, .int .i64 x6, .int .i64 x7, .int .i64 x8, .int .i64 x9, .int .i64 x10, .slice x11O x11L x11C, .slice x12O x12L x12C, .slice x13O x13L x13C] ∧
    (∀ wr2, ExtX [] wv1 wr2 → (∀ bq ∈ ([] : List Nat), bq < wr2.heap.size) → 
    Calls Try.prog fn_laws_toGroup #[.agg #[.bool x0, .int .i64 x1, .string x2, .int .i64 x3, .int .i64 x4, .int .i64 x5, .int .i64 x6, .int .i64 x7, .int .i64 x8, .int .i64 x9, .int .i64 x10, .slice x11O x11L x11C, .slice x12O x12L x12C, .slice x13O x13L x13C]] wr2 fun e wv2 =>
    (∃ (toGrou : Bool) (toGrou1 : Int) (toGrou2 : ByteArray) (toGrou3 : Int) (toGrou4 : Int) (toGrou5 : Int) (toGrou6 : Int) (toGrou7 : Int) (toGrou8 : Int) (toGrou9 : Int) (toGrou10 : Int) (toGrou11O : Option Addr) (toGrou11L : Nat) (toGrou11C : Nat) (toGrou12O : Option Addr) (toGrou12L : Nat) (toGrou12C : Nat) (toGrou13O : Option Addr) (toGrou13L : Nat) (toGrou13C : Nat),
    e = .returned (.agg #[.bool toGrou, .int .i64 toGrou1, .string toGrou2, .int .i64 toGrou3, .int .i64 toGrou4, .int .i64 toGrou5, .int .i64 toGrou6, .int .i64 toGrou7, .int .i64 toGrou8, .int .i64 toGrou9, .int .i64 toGrou10, .slice toGrou11O toGrou11L toGrou11C, .slice toGrou12O toGrou12L toGrou12C, .slice toGrou13O toGrou13L toGrou13C]) ∧ Kept [] wr2 wv2 ∧
    Ix mkO mkL i ∧
    WrX [] wv2 mkO (Int.toNat i * 14) 14 ∧
    InR .i64 (i + 1) ∧
    (∀ wr3, ExtX [] (sto wv2 mkO (Int.toNat i * 14) [.bool toGrou, .int .i64 toGrou1, .string toGrou2, .int .i64 toGrou3, .int .i64 toGrou4, .int .i64 toGrou5, .int .i64 toGrou6, .int .i64 toGrou7, .int .i64 toGrou8, .int .i64 toGrou9, .int .i64 toGrou10, .slice toGrou11O toGrou11L toGrou11C, .slice toGrou12O toGrou12L toGrou12C, .slice toGrou13O toGrou13L toGrou13C]) wr3 → (∀ bq ∈ ([] : List Nat), bq < wr3.heap.size) → xInv [.int .i64 (i + 1)] wr3 ∧ mu [.int .i64 (i + 1)] wr3 < mu [.int .i64 i] wv1))))) ∧
    ((decide (i < ((aL : Nat) : Int))) = false →
    (∀ wr4, ExtX [] wv1 wr4 → R (.slice mkO mkL mkC) wr4)))))
theorem v_laws_toGroupS (aO : Option Addr) (aL : Nat) (aC : Nat) (w : World) (R : Value → World → Prop) : evFn c_laws_toGroupS s_laws_toGroupS [.slice aO aL aC] (bodyOf Try.f11) Try.f11.results.toList w R = V_laws_toGroupS aO aL aC w R := by kernel_rfl
theorem e_laws_toGroupS (aO : Option Addr) (aL : Nat) (aC : Nat) {w : World} {R : Value → World → Prop} (hvc : V_laws_toGroupS aO aL aC w R) : Calls Try.prog fn_laws_toGroupS #[.slice aO aL aC] w fun e0 wr0 => ∃ v0, e0 = .returned v0 ∧ R v0 wr0 :=
  eff_of_ev (C := c_laws_toGroupS) (sps := s_laws_toGroupS) (body := bodyOf Try.f11) (env _ _ _) Try.func11 rfl rfl (of_decide_eq_true (by kernel_rfl)) (of_decide_eq_true (by kernel_rfl)) rfl (by rw [v_laws_toGroupS]; exact hvc)
noncomputable def c_impl_inRange : Cfg := { P := Try.prog, T := tblGet tbl, pf := pfT, ef := efT, tt := ttT, vis := [], n := 15, pm := true }
noncomputable def s_impl_inRange : List (Nat × LSpec) := []
def V_impl_inRange (n : Int) (least : Int) (most : Int) (w : World) (R : Value → World → Prop) : Prop :=
    R (.bool ((decide (n ≥ least)) && (decide (n ≤ most)))) w
theorem v_impl_inRange (n : Int) (least : Int) (most : Int) (w : World) (R : Value → World → Prop) : evFn c_impl_inRange s_impl_inRange [.int .i64 n, .int .i64 least, .int .i64 most] (bodyOf Try.f55) Try.f55.results.toList w R = V_impl_inRange n least most w R := by kernel_rfl
theorem p_impl_inRange (n : Int) (least : Int) (most : Int) {w : World} {bs : List Nat} {ret : Value} (hvc : ∀ wr0, ExtX bs w wr0 → V_impl_inRange n least most wr0 fun v0 _ => v0 = ret) : PureX bs Try.prog fn_impl_inRange #[.int .i64 n, .int .i64 least, .int .i64 most] w ret :=
  pure_of_ev (C := c_impl_inRange) (sps := s_impl_inRange) (body := bodyOf Try.f55) (env _ _ _) Try.func55 rfl rfl (of_decide_eq_true (by kernel_rfl)) (of_decide_eq_true (by kernel_rfl)) rfl fun wr0 hx0 => by rw [v_impl_inRange]; exact hvc wr0 hx0
noncomputable def c_impl_groupUsed : Cfg := { P := Try.prog, T := tblGet tbl, pf := pfT, ef := efT, tt := ttT, vis := [], n := 17, pm := true }
noncomputable def s_impl_groupUsed : List (Nat × LSpec) := []
def V_impl_groupUsed (lO : Option Addr) (lL : Nat) (lC : Nat) (g : Int) (w : World) (R : Value → World → Prop) : Prop :=
    InR .i64 (((lL : Nat) : Int) - 1) ∧
    (∃ (inRang : Bool),
    PureX [] Try.prog fn_impl_inRange #[.int .i64 g, .int .i64 0, .int .i64 (((lL : Nat) : Int) - 1)] w (.bool inRang) ∧
    (inRang = true → Ix lO lL g) ∧
    (∃ (used : Bool),
    (inRang = true → CellsX [] w lO (Int.toNat g * 14 + 0) [.bool used]) ∧
    R (.bool (inRang && used)) w))
theorem v_impl_groupUsed (lO : Option Addr) (lL : Nat) (lC : Nat) (g : Int) (w : World) (R : Value → World → Prop) : evFn c_impl_groupUsed s_impl_groupUsed [.slice lO lL lC, .int .i64 g] (bodyOf Try.f42) Try.f42.results.toList w R = V_impl_groupUsed lO lL lC g w R := by kernel_rfl
theorem p_impl_groupUsed (lO : Option Addr) (lL : Nat) (lC : Nat) (g : Int) {w : World} {bs : List Nat} {ret : Value} (hvc : ∀ wr0, ExtX bs w wr0 → V_impl_groupUsed lO lL lC g wr0 fun v0 _ => v0 = ret) : PureX bs Try.prog fn_impl_groupUsed #[.slice lO lL lC, .int .i64 g] w ret :=
  pure_of_ev (C := c_impl_groupUsed) (sps := s_impl_groupUsed) (body := bodyOf Try.f42) (env _ _ _) Try.func42 rfl rfl (of_decide_eq_true (by kernel_rfl)) (of_decide_eq_true (by kernel_rfl)) rfl fun wr0 hx0 => by rw [v_impl_groupUsed]; exact hvc wr0 hx0
noncomputable def c_impl_NameOk : Cfg := { P := Try.prog, T := tblGet tbl, pf := pfT, ef := efT, tt := ttT, vis := [], n := 36, pm := false }
noncomputable def s_impl_NameOk : List (Nat × LSpec) := [(11, { chg := [], chgL := [], keep := [17] })]
def V_impl_NameOk (s : ByteArray) (w : World) (R : Value → World → Prop) : Prop :=
    ((strEq s (ByteArray.mk [119, 101, 105, 103, 104, 116].toArray)) = true →
    (∀ wr, ExtX [] w wr → R (.bool false) wr)) ∧
    ((strEq s (ByteArray.mk [119, 101, 105, 103, 104, 116].toArray)) = false →
    ((strEq s (ByteArray.mk [109, 97, 120].toArray)) = true →
    (∀ wr1, ExtX [] w wr1 → R (.bool false) wr1)) ∧
    ((strEq s (ByteArray.mk [109, 97, 120].toArray)) = false →
    ((strEq s (ByteArray.mk [99, 112, 117, 115].toArray)) = true →
    (∀ wr2, ExtX [] w wr2 → R (.bool false) wr2)) ∧
    ((strEq s (ByteArray.mk [99, 112, 117, 115].toArray)) = false →
    ((strEq s (ByteArray.mk [112, 114, 111, 99, 115].toArray)) = true →
    (∀ wr3, ExtX [] w wr3 → R (.bool false) wr3)) ∧
    ((strEq s (ByteArray.mk [112, 114, 111, 99, 115].toArray)) = false →
    ((strEq s (ByteArray.mk [115, 116, 97, 116].toArray)) = true →
    (∀ wr4, ExtX [] w wr4 → R (.bool false) wr4)) ∧
    ((strEq s (ByteArray.mk [115, 116, 97, 116].toArray)) = false →
    (∃ (inRang : Bool),
    PureX [] Try.prog fn_impl_inRange #[.int .i64 (s.size : Int), .int .i64 1, .int .i64 8] w (.bool inRang) ∧
    ((!inRang) = true →
    (∀ wr5, ExtX [] w wr5 → R (.bool false) wr5)) ∧
    ((!inRang) = false →
    (∀ wr6, ExtX [] w wr6 → (∀ bq ∈ ([] : List Nat), bq < wr6.heap.size) →
    (∃ (it : Option Addr),
    ∃ wv, ((Instr.range ty_string (.string s)) : Sem Value).run Try.prog wr6 = .ok (.pointer it) wv ∧ Kept [] wr6 wv ∧
    (∃ (xInv : List Value → World → Prop) (mu : List Value → World → Nat), (∀ wr7, ExtX [] wv wr7 → (∀ bq ∈ ([] : List Nat), bq < wr7.heap.size) → xInv [] wr7) ∧
    ∀  wv1, (∀ bq ∈ ([] : List Nat), bq < wv1.heap.size) → xInv [] wv1 →
    (∀ wr8, ExtX [] wv1 wr8 → (∀ bq ∈ ([] : List Nat), bq < wr8.heap.size) →
    (∃ (b : Nat) (str : ByteArray) (pos : Nat), it = some (Addr.mk b 0 none) ∧ b ∉ ([] : List Nat) ∧ wr8.heap[b]? = some (.stringIter str pos) ∧
    (str.size ≤ pos →
    (false = true →
    False) ∧
    (false = false →
    (∀ wr9, ExtX [] wr8 wr9 → R (.bool true) wr9))) ∧
    (pos < str.size →
    (true = true →
    ((!(((decide (((Utf8.decode str pos).1 : Int) ≥ 97)) && (decide (((Utf8.decode str pos).1 : Int) ≤ 122))) || ((decide (((Utf8.decode str pos).1 : Int) ≥ 48)) && (decide (((Utf8.decode str pos).1 : Int) ≤ 57))))) = true →
    (∀ wr10, ExtX [] (iterW wr8 b str (pos + (Utf8.decode str pos).2)) wr10 → R (.bool false) wr10)) ∧
    ((!(((decide (((Utf8.decode str pos).1 : Int) ≥ 97)) && (decide (((Utf8.decode str pos).1 : Int) ≤ 122))) || ((decide (((Utf8.decode str pos).1 : Int) ≥ 48)) && (decide (((Utf8.decode str pos).1 : Int) ≤ 57))))) = false →
    (∀ wr11, ExtX [] (iterW wr8 b str (pos + (Utf8.decode str pos).2)) wr11 → (∀ bq ∈ ([] : List Nat), bq < wr11.heap.size) → xInv [] wr11 ∧ mu [] wr11 < mu [] wv1))) ∧
    (true = false →
    (∀ wr12, ExtX [] (iterW wr8 b str (pos + (Utf8.decode str pos).2)) wr12 → R (.bool true) wr12)))))))))))))))
theorem v_impl_NameOk (s : ByteArray) (w : World) (R : Value → World → Prop) : evFn c_impl_NameOk s_impl_NameOk [.string s] (bodyOf Try.f115) Try.f115.results.toList w R = V_impl_NameOk s w R := by kernel_rfl
theorem e_impl_NameOk (s : ByteArray) {w : World} {R : Value → World → Prop} (hvc : V_impl_NameOk s w R) : Calls Try.prog fn_impl_NameOk #[.string s] w fun e0 wr0 => ∃ v0, e0 = .returned v0 ∧ R v0 wr0 :=
  eff_of_ev (C := c_impl_NameOk) (sps := s_impl_NameOk) (body := bodyOf Try.f115) (env _ _ _) Try.func115 rfl rfl (of_decide_eq_true (by kernel_rfl)) (of_decide_eq_true (by kernel_rfl)) rfl (by rw [v_impl_NameOk]; exact hvc)
noncomputable def c_impl_node_depth : Cfg := { P := Try.prog, T := tblGet tbl, pf := pfT, ef := efT, tt := ttT, vis := [], n := 22, pm := true }
noncomputable def s_impl_node_depth : List (Nat × LSpec) := [(2, { chg := [(0, .ptr), (3, .int .i64)], chgL := [], keep := [] })]
def V_impl_node_depth (n : Option Addr) (w : World) (R : Value → World → Prop) : Prop :=
    (∃ (xInv : List Value → Prop) (mu : List Value → Nat), xInv [.pointer n, .int .i64 0] ∧
    ∀ (n1 : Option Addr) (steps : Int), xInv [.pointer n1, .int .i64 steps] →
    (((!n1.isNone) && (decide (steps ≤ 3))) = true →
    n1.isSome = true ∧
    (∃ (slot : Int),
    CellsX [] w n1 (0 + 0) [.int .i64 slot] ∧
    ((slot == 0) = true →
    R (.int .i64 steps) w) ∧
    ((slot == 0) = false →
    InR .i64 (steps + 1) ∧
    n1.isSome = true ∧
    (∃ (up : Option Addr),
    CellsX [] w n1 (0 + 2) [.pointer up] ∧
    xInv [.pointer up, .int .i64 (steps + 1)] ∧ mu [.pointer up, .int .i64 (steps + 1)] < mu [.pointer n1, .int .i64 steps])))) ∧
    (((!n1.isNone) && (decide (steps ≤ 3))) = false →
    R (.int .i64 (-1)) w))
theorem v_impl_node_depth (n : Option Addr) (w : World) (R : Value → World → Prop) : evFn c_impl_node_depth s_impl_node_depth [.pointer n] (bodyOf Try.f116) Try.f116.results.toList w R = V_impl_node_depth n w R := by kernel_rfl
theorem p_impl_node_depth (n : Option Addr) {w : World} {bs : List Nat} {ret : Value} (hvc : ∀ wr0, ExtX bs w wr0 → V_impl_node_depth n wr0 fun v0 _ => v0 = ret) : PureX bs Try.prog fn_impl_node_depth #[.pointer n] w ret :=
  pure_of_ev (C := c_impl_node_depth) (sps := s_impl_node_depth) (body := bodyOf Try.f116) (env _ _ _) Try.func116 rfl rfl (of_decide_eq_true (by kernel_rfl)) (of_decide_eq_true (by kernel_rfl)) rfl fun wr0 hx0 => by rw [v_impl_node_depth]; exact hvc wr0 hx0
noncomputable def c_impl_nodes : Cfg := { P := Try.prog, T := tblGet tbl, pf := pfT, ef := efT, tt := ttT, vis := [57], n := 137, pm := false }
noncomputable def s_impl_nodes : List (Nat × LSpec) := [(5, { chg := [(40, .int .i64)], chgL := [], keep := [0, 4, 39] }), (12, { chg := [(7, .int .i64)], chgL := [], keep := [0, 4, 6] }), (24, { chg := [(124, .int .i64)], chgL := [], keep := [4, 122, 123] })]
def V_impl_nodes (lO : Option Addr) (lL : Nat) (lC : Nat) (w : World) (R : Value → World → Prop) : Prop :=
    ((((lL : Nat) : Int) != 8) = false → Ix lO lL 0) ∧
    (∃ (used : Bool),
    ((((lL : Nat) : Int) != 8) = false → CellsX [] w lO (Int.toNat 0 * 14 + 0) [.bool used]) ∧
    (((((lL : Nat) : Int) != 8) || (!used)) = false → Ix lO lL 0) ∧
    (∃ (parent : Int),
    (((((lL : Nat) : Int) != 8) || (!used)) = false → CellsX [] w lO (Int.toNat 0 * 14 + 1) [.int .i64 parent]) ∧
    ((((((lL : Nat) : Int) != 8) || (!used)) || (parent != (-1))) = false → Ix lO lL 0) ∧
    (∃ (name : ByteArray),
    ((((((lL : Nat) : Int) != 8) || (!used)) || (parent != (-1))) = false → CellsX [] w lO (Int.toNat 0 * 14 + 2) [.string name]) ∧
    (((((((lL : Nat) : Int) != 8) || (!used)) || (parent != (-1))) || (!strEq name (ByteArray.mk [].toArray))) = true →
    (∀ wr, ExtX [] w wr → R (.tuple #[.slice none 0 0, .bool false]) wr)) ∧
    (((((((lL : Nat) : Int) != 8) || (!used)) || (parent != (-1))) || (!strEq name (ByteArray.mk [].toArray))) = false →
    (∀ wr1, ExtX [] w wr1 → (∀ bq ∈ ([] : List Nat), bq < wr1.heap.size) →
    (∃ (mkO : Option Addr) (mkL : Nat) (mkC : Nat),
    ∃ wv, ((Instr.makeSlice ty_sl_p_impl_node (.int .i64 8) (.int .i64 8)) : Sem Value).run Try.prog wr1 = .ok (.slice mkO mkL mkC) wv ∧ Kept [] wr1 wv ∧
    (∃ (xInv : List Value → World → Prop) (mu : List Value → World → Nat), (∀ wr2, ExtX [] wv wr2 → (∀ bq ∈ ([] : List Nat), bq < wr2.heap.size) → xInv [.int .i64 0] wr2) ∧
    ∀ (x : Int) wv1, (∀ bq ∈ ([] : List Nat), bq < wv1.heap.size) → xInv [.int .i64 x] wv1 →
    ((decide (x < ((lL : Nat) : Int))) = true →
    Ix lO lL x ∧
    (∃ (used1 : Bool),
    CellsX [] wv1 lO (Int.toNat x * 14 + 0) [.bool used1] ∧
    (used1 = true →
    Ix lO lL x ∧
    (∃ (name1 : ByteArray),
    CellsX [] wv1 lO (Int.toNat x * 14 + 2) [.string name1] ∧
    (∀ b wb, ExtX [] wv1 wb → wv1.heap.size ≤ b → wb.heap[b]? = some (Obj.cells ([.int .i64 x, .string name1, .pointer none] : List Value).toArray ty_impl_node (0, 0)) → b ∉ ([] : List Nat) →
    Ix mkO mkL x ∧
    WrX [] wb mkO (Int.toNat x * 1) 1 ∧
    InR .i64 (x + 1) ∧
    (∀ wr3, ExtX [] (sto wb mkO (Int.toNat x * 1) [.pointer ((some (Addr.mk b 0 none)).map (·.add 0))]) wr3 → (∀ bq ∈ ([] : List Nat), bq < wr3.heap.size) → xInv [.int .i64 (x + 1)] wr3 ∧ mu [.int .i64 (x + 1)] wr3 < mu [.int .i64 x] wv1)))) ∧
    (used1 = false →
    InR .i64 (x + 1) ∧
    (∀ wr4, ExtX [] wv1 wr4 → (∀ bq ∈ ([] : List Nat), bq < wr4.heap.size) → xInv [.int .i64 (x + 1)] wr4 ∧ mu [.int .i64 (x + 1)] wr4 < mu [.int .i64 x] wv1)))) ∧
    ((decide (x < ((lL : Nat) : Int))) = false →
    (∀ wr5, ExtX [] wv1 wr5 → (∀ bq ∈ ([] : List Nat), bq < wr5.heap.size) →
    (∃ (mp : Value),
    ∃ wv2, ((Instr.makeMap ty_map_impl_nodeKey_int none) : Sem Value).run Try.prog wr5 = .ok mp wv2 ∧ Kept [] wr5 wv2 ∧
    (∃ (xInv1 : List Value → World → Prop) (mu1 : List Value → World → Nat), (∀ wr6, ExtX [] wv2 wr6 → (∀ bq ∈ ([] : List Nat), bq < wr6.heap.size) → xInv1 [.int .i64 1] wr6) ∧
    ∀ (g : Int) wv3, (∀ bq ∈ ([] : List Nat), bq < wv3.heap.size) → xInv1 [.int .i64 g] wv3 →
    ((decide (g < 8)) = true →
    Ix mkO mkL g ∧
    (∃ (x1 : Option Addr),
    CellsX [] wv3 mkO (Int.toNat g * 1) [.pointer x1] ∧
    (x1.isNone = true →
    InR .i64 (g + 1) ∧
    (∀ wr7, ExtX [] wv3 wr7 → (∀ bq ∈ ([] : List Nat), bq < wr7.heap.size) → xInv1 [.int .i64 (g + 1)] wr7 ∧ mu1 [.int .i64 (g + 1)] wr7 < mu1 [.int .i64 g] wv3)) ∧
    (x1.isNone = false →
    Ix lO lL g ∧
    (∃ (name2 : ByteArray),
    CellsX [] wv3 lO (Int.toNat g * 14 + 2) [.string name2] ∧
    (∃ (xNameOk : Bool),
    PureX [] Try.prog fn_impl_NameOk #[.string name2] wv3 (.bool xNameOk) ∧
    ((!xNameOk) = false → Ix lO lL g) ∧
    (∃ (parent1 : Int),
    ((!xNameOk) = false → CellsX [] wv3 lO (Int.toNat g * 14 + 1) [.int .i64 parent1]) ∧
    (∃ (groupU : Bool),
    ((!xNameOk) = false → PureX [] Try.prog fn_impl_groupUsed #[.slice lO lL lC, .int .i64 parent1] wv3 (.bool groupU)) ∧
    (((!xNameOk) || (!groupU)) = true →
    (∀ wr8, ExtX [] wv3 wr8 → R (.tuple #[.slice none 0 0, .bool false]) wr8)) ∧
    (((!xNameOk) || (!groupU)) = false →
    Ix mkO mkL g ∧
    (∃ (x2 : Option Addr),
    CellsX [] wv3 mkO (Int.toNat g * 1) [.pointer x2] ∧
    Ix lO lL g ∧
    (∃ (parent2 : Int),
    CellsX [] wv3 lO (Int.toNat g * 14 + 1) [.int .i64 parent2] ∧
    Ix mkO mkL parent2 ∧
    (∃ (x3 : Option Addr),
    CellsX [] wv3 mkO (Int.toNat parent2 * 1) [.pointer x3] ∧
    x2.isSome = true ∧
    WrX [] wv3 x2 (0 + 2) 1 ∧
    Ix lO lL g ∧
    (∃ (parent3 : Int),
    CellsX [] (sto wv3 x2 (0 + 2) [.pointer x3]) lO (Int.toNat g * 14 + 1) [.int .i64 parent3] ∧
    Ix lO lL g ∧
    (∃ (name3 : ByteArray),
    CellsX [] (sto wv3 x2 (0 + 2) [.pointer x3]) lO (Int.toNat g * 14 + 2) [.string name3] ∧
    (∀ b1, (sto wv3 x2 (0 + 2) [.pointer x3]).heap.size ≤ b1 →
    CellsX [] (sto wv3 x2 (0 + 2) [.pointer x3]) lO (Int.toNat g * 14 + 2) [.string name3] ∧
    CellsX [] (sto wv3 x2 (0 + 2) [.pointer x3]) lO (Int.toNat g * 14 + 1) [.int .i64 parent3] ∧
    (∀ wr9, ExtX [] (sto wv3 x2 (0 + 2) [.pointer x3]) wr9 → (∀ bq ∈ ([b1] : List Nat), bq < wr9.heap.size) →
    (∃ (lk : Int) (lk1 : Bool),
    ∃ wv4, ((Instr.lookup ty_map_impl_nodeKey_int mp (.agg #[.int .i64 parent3, .string name3]) true) : Sem Value).run Try.prog wr9 = .ok (.tuple #[.int .i64 lk, .bool lk1]) wv4 ∧ Kept [b1] wr9 wv4 ∧
    (lk1 = true →
    (∀ wr10, ExtX [b1] wv4 wr10 → R (.tuple #[.slice none 0 0, .bool false]) wr10)) ∧
    (lk1 = false →
    (∀ wr11, ExtX [b1] wv4 wr11 → (∀ bq ∈ ([b1] : List Nat), bq < wr11.heap.size) →
    ∃ wv5, ((do Instr.mapUpdate ty_map_impl_nodeKey_int mp (.agg #[.int .i64 parent3, .string name3]) (.int .i64 g); pure undef) : Sem Value).run Try.prog wr11 = .ok undef wv5 ∧ Kept [b1] wr11 wv5 ∧
    InR .i64 (g + 1) ∧
    (∀ wr12, ExtX [b1] wv5 wr12 → (∀ bq ∈ ([b1] : List Nat), bq < wr12.heap.size) → xInv1 [.int .i64 (g + 1)] wr12 ∧ mu1 [.int .i64 (g + 1)] wr12 < mu1 [.int .i64 g] wv3))))))))))))))))))) ∧
    ((decide (g < 8)) = false →
    (∃ (xInv2 : List Value → World → Prop) (mu2 : List Value → World → Nat), (∀ wr13, ExtX [] wv3 wr13 → (∀ bq ∈ ([] : List Nat), bq < wr13.heap.size) → xInv2 [.int .i64 0] wr13) ∧
    ∀ (x4 : Int) wv6, (∀ bq ∈ ([] : List Nat), bq < wv6.heap.size) → xInv2 [.int .i64 x4] wv6 →
    ((decide (x4 < ((mkL : Nat) : Int))) = true →
    Ix mkO mkL x4 ∧
    (∃ (x5 : Option Addr),
    CellsX [] wv6 mkO (Int.toNat x4 * 1) [.pointer x5] ∧
    (∃ (depth : Int),
    ((!x5.isNone) = true → PureX [] Try.prog fn_impl_node_depth #[.pointer x5] wv6 (.int .i64 depth)) ∧
    (((!x5.isNone) && (decide (depth < 0))) = true →
    (∀ wr14, ExtX [] wv6 wr14 → R (.tuple #[.slice none 0 0, .bool false]) wr14)) ∧
    (((!x5.isNone) && (decide (depth < 0))) = false →
    InR .i64 (x4 + 1) ∧
    (∀ wr15, ExtX [] wv6 wr15 → (∀ bq ∈ ([] : List Nat), bq < wr15.heap.size) → xInv2 [.int .i64 (x4 + 1)] wr15 ∧ mu2 [.int .i64 (x4 + 1)] wr15 < mu2 [.int .i64 x4] wv6))))) ∧
    ((decide (x4 < ((mkL : Nat) : Int))) = false →
    (∀ wr16, ExtX [] wv6 wr16 → R (.tuple #[.slice mkO mkL mkC, .bool true]) wr16)))))))))))))))
theorem v_impl_nodes (lO : Option Addr) (lL : Nat) (lC : Nat) (w : World) (R : Value → World → Prop) : evFn c_impl_nodes s_impl_nodes [.slice lO lL lC] (bodyOf Try.f88) Try.f88.results.toList w R = V_impl_nodes lO lL lC w R := by kernel_rfl
theorem e_impl_nodes (lO : Option Addr) (lL : Nat) (lC : Nat) {w : World} {R : Value → World → Prop} (hvc : V_impl_nodes lO lL lC w R) : Calls Try.prog fn_impl_nodes #[.slice lO lL lC] w fun e0 wr0 => ∃ v0, e0 = .returned v0 ∧ R v0 wr0 :=
  eff_of_ev (C := c_impl_nodes) (sps := s_impl_nodes) (body := bodyOf Try.f88) (env _ _ _) Try.func88 rfl rfl (of_decide_eq_true (by kernel_rfl)) (of_decide_eq_true (by kernel_rfl)) rfl (by rw [v_impl_nodes]; exact hvc)
noncomputable def c_impl_TreeOk : Cfg := { P := Try.prog, T := tblGet tbl, pf := pfT, ef := efT, tt := ttT, vis := [], n := 11, pm := false }
noncomputable def s_impl_TreeOk : List (Nat × LSpec) := []
def V_impl_TreeOk (lO : Option Addr) (lL : Nat) (lC : Nat) (w : World) (R : Value → World → Prop) : Prop :=
    (∀ wr, ExtX [] w wr → (∀ bq ∈ ([] : List Nat), bq < wr.heap.size) → 
    Calls Try.prog fn_impl_nodes #[.slice lO lL lC] wr fun e wv =>
    (∃ (nodesO : Option Addr) (nodesL : Nat) (nodesC : Nat) (nodes1 : Bool),
    e = .returned (.tuple #[.slice nodesO nodesL nodesC, .bool nodes1]) ∧ Kept [] wr wv ∧
    (∀ wr1, ExtX [] wv wr1 → R (.bool nodes1) wr1)))
theorem v_impl_TreeOk (lO : Option Addr) (lL : Nat) (lC : Nat) (w : World) (R : Value → World → Prop) : evFn c_impl_TreeOk s_impl_TreeOk [.slice lO lL lC] (bodyOf Try.f41) Try.f41.results.toList w R = V_impl_TreeOk lO lL lC w R := by kernel_rfl
theorem e_impl_TreeOk (lO : Option Addr) (lL : Nat) (lC : Nat) {w : World} {R : Value → World → Prop} (hvc : V_impl_TreeOk lO lL lC w R) : Calls Try.prog fn_impl_TreeOk #[.slice lO lL lC] w fun e0 wr0 => ∃ v0, e0 = .returned v0 ∧ R v0 wr0 :=
  eff_of_ev (C := c_impl_TreeOk) (sps := s_impl_TreeOk) (body := bodyOf Try.f41) (env _ _ _) Try.func41 rfl rfl (of_decide_eq_true (by kernel_rfl)) (of_decide_eq_true (by kernel_rfl)) rfl (by rw [v_impl_TreeOk]; exact hvc)
noncomputable def c_impl_inside : Cfg := { P := Try.prog, T := tblGet tbl, pf := pfT, ef := efT, tt := ttT, vis := [], n := 17, pm := true }
noncomputable def s_impl_inside : List (Nat × LSpec) := [(1, { chg := [(2, .int .i64)], chgL := [], keep := [0, 1] })]
def V_impl_inside (lO : Option Addr) (lL : Nat) (lC : Nat) (g : Int) (h : Int) (w : World) (R : Value → World → Prop) : Prop :=
    (∃ (xInv : List Value → Prop) (mu : List Value → Nat), xInv [.int .i64 h] ∧
    ∀ (h1 : Int), xInv [.int .i64 h1] →
    ((h1 != g) = true →
    ((h1 == 0) = true →
    R (.bool false) w) ∧
    ((h1 == 0) = false →
    Ix lO lL h1 ∧
    (∃ (parent : Int),
    CellsX [] w lO (Int.toNat h1 * 14 + 1) [.int .i64 parent] ∧
    xInv [.int .i64 parent] ∧ mu [.int .i64 parent] < mu [.int .i64 h1]))) ∧
    ((h1 != g) = false →
    R (.bool true) w))
theorem v_impl_inside (lO : Option Addr) (lL : Nat) (lC : Nat) (g : Int) (h : Int) (w : World) (R : Value → World → Prop) : evFn c_impl_inside s_impl_inside [.slice lO lL lC, .int .i64 g, .int .i64 h] (bodyOf Try.f43) Try.f43.results.toList w R = V_impl_inside lO lL lC g h w R := by kernel_rfl
theorem p_impl_inside (lO : Option Addr) (lL : Nat) (lC : Nat) (g : Int) (h : Int) {w : World} {bs : List Nat} {ret : Value} (hvc : ∀ wr0, ExtX bs w wr0 → V_impl_inside lO lL lC g h wr0 fun v0 _ => v0 = ret) : PureX bs Try.prog fn_impl_inside #[.slice lO lL lC, .int .i64 g, .int .i64 h] w ret :=
  pure_of_ev (C := c_impl_inside) (sps := s_impl_inside) (body := bodyOf Try.f43) (env _ _ _) Try.func43 rfl rfl (of_decide_eq_true (by kernel_rfl)) (of_decide_eq_true (by kernel_rfl)) rfl fun wr0 hx0 => by rw [v_impl_inside]; exact hvc wr0 hx0
noncomputable def c_impl_TreeUnder : Cfg := { P := Try.prog, T := tblGet tbl, pf := pfT, ef := efT, tt := ttT, vis := [], n := 25, pm := true }
noncomputable def s_impl_TreeUnder : List (Nat × LSpec) := []
def V_impl_TreeUnder (lO : Option Addr) (lL : Nat) (lC : Nat) (g : Int) (h : Int) (w : World) (R : Value → World → Prop) : Prop :=
    (∃ (xTreeOk : Bool),
    PureX [] Try.prog fn_impl_TreeOk #[.slice lO lL lC] w (.bool xTreeOk) ∧
    (∃ (groupU : Bool),
    (xTreeOk = true → PureX [] Try.prog fn_impl_groupUsed #[.slice lO lL lC, .int .i64 g] w (.bool groupU)) ∧
    (∃ (groupU1 : Bool),
    ((xTreeOk && groupU) = true → PureX [] Try.prog fn_impl_groupUsed #[.slice lO lL lC, .int .i64 h] w (.bool groupU1)) ∧
    (∃ (inside : Bool),
    (((xTreeOk && groupU) && groupU1) = true → PureX [] Try.prog fn_impl_inside #[.slice lO lL lC, .int .i64 g, .int .i64 h] w (.bool inside)) ∧
    R (.bool (((xTreeOk && groupU) && groupU1) && inside)) w))))
theorem v_impl_TreeUnder (lO : Option Addr) (lL : Nat) (lC : Nat) (g : Int) (h : Int) (w : World) (R : Value → World → Prop) : evFn c_impl_TreeUnder s_impl_TreeUnder [.slice lO lL lC, .int .i64 g, .int .i64 h] (bodyOf Try.f12) Try.f12.results.toList w R = V_impl_TreeUnder lO lL lC g h w R := by kernel_rfl
theorem p_impl_TreeUnder (lO : Option Addr) (lL : Nat) (lC : Nat) (g : Int) (h : Int) {w : World} {bs : List Nat} {ret : Value} (hvc : ∀ wr0, ExtX bs w wr0 → V_impl_TreeUnder lO lL lC g h wr0 fun v0 _ => v0 = ret) : PureX bs Try.prog fn_impl_TreeUnder #[.slice lO lL lC, .int .i64 g, .int .i64 h] w ret :=
  pure_of_ev (C := c_impl_TreeUnder) (sps := s_impl_TreeUnder) (body := bodyOf Try.f12) (env _ _ _) Try.func12 rfl rfl (of_decide_eq_true (by kernel_rfl)) (of_decide_eq_true (by kernel_rfl)) rfl fun wr0 hx0 => by rw [v_impl_TreeUnder]; exact hvc wr0 hx0
noncomputable def c_laws_eqIntS : Cfg := { P := Try.prog, T := tblGet tbl, pf := pfT, ef := efT, tt := ttT, vis := [], n := 26, pm := true }
noncomputable def s_laws_eqIntS : List (Nat × LSpec) := [(4, { chg := [(5, .int .i64)], chgL := [], keep := [0, 1] })]
def V_laws_eqIntS (aO : Option Addr) (aL : Nat) (aC : Nat) (bO : Option Addr) (bL : Nat) (bC : Nat) (w : World) (R : Value → World → Prop) : Prop :=
    ((((aL : Nat) : Int) != ((bL : Nat) : Int)) = true →
    R (.bool false) w) ∧
    ((((aL : Nat) : Int) != ((bL : Nat) : Int)) = false →
    (∃ (xInv : List Value → Prop) (mu : List Value → Nat), xInv [.int .i64 0] ∧
    ∀ (i : Int), xInv [.int .i64 i] →
    ((decide (i < ((aL : Nat) : Int))) = true →
    Ix aO aL i ∧
    (∃ (x : Int),
    CellsX [] w aO (Int.toNat i * 1) [.int .i64 x] ∧
    Ix bO bL i ∧
    (∃ (x1 : Int),
    CellsX [] w bO (Int.toNat i * 1) [.int .i64 x1] ∧
    ((x != x1) = true →
    R (.bool false) w) ∧
    ((x != x1) = false →
    InR .i64 (i + 1) ∧
    xInv [.int .i64 (i + 1)] ∧ mu [.int .i64 (i + 1)] < mu [.int .i64 i])))) ∧
    ((decide (i < ((aL : Nat) : Int))) = false →
    R (.bool true) w)))
theorem v_laws_eqIntS (aO : Option Addr) (aL : Nat) (aC : Nat) (bO : Option Addr) (bL : Nat) (bC : Nat) (w : World) (R : Value → World → Prop) : evFn c_laws_eqIntS s_laws_eqIntS [.slice aO aL aC, .slice bO bL bC] (bodyOf Try.f117) Try.f117.results.toList w R = V_laws_eqIntS aO aL aC bO bL bC w R := by kernel_rfl
theorem p_laws_eqIntS (aO : Option Addr) (aL : Nat) (aC : Nat) (bO : Option Addr) (bL : Nat) (bC : Nat) {w : World} {bs : List Nat} {ret : Value} (hvc : ∀ wr0, ExtX bs w wr0 → V_laws_eqIntS aO aL aC bO bL bC wr0 fun v0 _ => v0 = ret) : PureX bs Try.prog fn_laws_eqIntS #[.slice aO aL aC, .slice bO bL bC] w ret :=
  pure_of_ev (C := c_laws_eqIntS) (sps := s_laws_eqIntS) (body := bodyOf Try.f117) (env _ _ _) Try.func117 rfl rfl (of_decide_eq_true (by kernel_rfl)) (of_decide_eq_true (by kernel_rfl)) rfl fun wr0 hx0 => by rw [v_laws_eqIntS]; exact hvc wr0 hx0
noncomputable def c_laws_eqBoolS : Cfg := { P := Try.prog, T := tblGet tbl, pf := pfT, ef := efT, tt := ttT, vis := [], n := 26, pm := true }
noncomputable def s_laws_eqBoolS : List (Nat × LSpec) := [(4, { chg := [(5, .int .i64)], chgL := [], keep := [0, 1] })]
def V_laws_eqBoolS (aO : Option Addr) (aL : Nat) (aC : Nat) (bO : Option Addr) (bL : Nat) (bC : Nat) (w : World) (R : Value → World → Prop) : Prop :=
    ((((aL : Nat) : Int) != ((bL : Nat) : Int)) = true →
    R (.bool false) w) ∧
    ((((aL : Nat) : Int) != ((bL : Nat) : Int)) = false →
    (∃ (xInv : List Value → Prop) (mu : List Value → Nat), xInv [.int .i64 0] ∧
    ∀ (i : Int), xInv [.int .i64 i] →
    ((decide (i < ((aL : Nat) : Int))) = true →
    Ix aO aL i ∧
    (∃ (x : Bool),
    CellsX [] w aO (Int.toNat i * 1) [.bool x] ∧
    Ix bO bL i ∧
    (∃ (x1 : Bool),
    CellsX [] w bO (Int.toNat i * 1) [.bool x1] ∧
    ((!(x == x1)) = true →
    R (.bool false) w) ∧
    ((!(x == x1)) = false →
    InR .i64 (i + 1) ∧
    xInv [.int .i64 (i + 1)] ∧ mu [.int .i64 (i + 1)] < mu [.int .i64 i])))) ∧
    ((decide (i < ((aL : Nat) : Int))) = false →
    R (.bool true) w)))
theorem v_laws_eqBoolS (aO : Option Addr) (aL : Nat) (aC : Nat) (bO : Option Addr) (bL : Nat) (bC : Nat) (w : World) (R : Value → World → Prop) : evFn c_laws_eqBoolS s_laws_eqBoolS [.slice aO aL aC, .slice bO bL bC] (bodyOf Try.f118) Try.f118.results.toList w R = V_laws_eqBoolS aO aL aC bO bL bC w R := by kernel_rfl
theorem p_laws_eqBoolS (aO : Option Addr) (aL : Nat) (aC : Nat) (bO : Option Addr) (bL : Nat) (bC : Nat) {w : World} {bs : List Nat} {ret : Value} (hvc : ∀ wr0, ExtX bs w wr0 → V_laws_eqBoolS aO aL aC bO bL bC wr0 fun v0 _ => v0 = ret) : PureX bs Try.prog fn_laws_eqBoolS #[.slice aO aL aC, .slice bO bL bC] w ret :=
  pure_of_ev (C := c_laws_eqBoolS) (sps := s_laws_eqBoolS) (body := bodyOf Try.f118) (env _ _ _) Try.func118 rfl rfl (of_decide_eq_true (by kernel_rfl)) (of_decide_eq_true (by kernel_rfl)) rfl fun wr0 hx0 => by rw [v_laws_eqBoolS]; exact hvc wr0 hx0
noncomputable def c_laws_eqBand : Cfg := { P := Try.prog, T := tblGet tbl, pf := pfT, ef := efT, tt := ttT, vis := [], n := 32, pm := true }
noncomputable def s_laws_eqBand : List (Nat × LSpec) := []
def V_laws_eqBand (a0 : Int) (a1 : Int) (a2 : Int) (a3O : Option Addr) (a3L : Nat) (a3C : Nat) (a4O : Option Addr) (a4L : Nat) (a4C : Nat) (b0 : Int) (b1 : Int) (b2 : Int) (b3O : Option Addr) (b3L : Nat) (b3C : Nat) (b4O : Option Addr) (b4L : Nat) (b4C : Nat) (w : World) (R : Value → World → Prop) : Prop :=
    (∀ b, w.heap.size ≤ b →
    (∀ b5, w.heap.size ≤ b5 →
    ((a0 != b0) = true →
    R (.bool false) w) ∧
    ((a0 != b0) = false →
    ((a1 != b1) = true →
    R (.bool false) w) ∧
    ((a1 != b1) = false →
    ((a2 != b2) = true →
    R (.bool false) w) ∧
    ((a2 != b2) = false →
    (∃ (eqIntS : Bool),
    PureX [] Try.prog fn_laws_eqIntS #[.slice a3O a3L a3C, .slice b3O b3L b3C] w (.bool eqIntS) ∧
    ((!eqIntS) = true →
    R (.bool false) w) ∧
    ((!eqIntS) = false →
    (∃ (eqBool : Bool),
    PureX [] Try.prog fn_laws_eqBoolS #[.slice a4O a4L a4C, .slice b4O b4L b4C] w (.bool eqBool) ∧
    ((!eqBool) = true →
    R (.bool false) w) ∧
    ((!eqBool) = false →
    R (.bool true) w)))))))))
theorem v_laws_eqBand (a0 : Int) (a1 : Int) (a2 : Int) (a3O : Option Addr) (a3L : Nat) (a3C : Nat) (a4O : Option Addr) (a4L : Nat) (a4C : Nat) (b0 : Int) (b1 : Int) (b2 : Int) (b3O : Option Addr) (b3L : Nat) (b3C : Nat) (b4O : Option Addr) (b4L : Nat) (b4C : Nat) (w : World) (R : Value → World → Prop) : evFn c_laws_eqBand s_laws_eqBand [.agg #[.int .i64 a0, .int .i64 a1, .int .i64 a2, .slice a3O a3L a3C, .slice a4O a4L a4C], .agg #[.int .i64 b0, .int .i64 b1, .int .i64 b2, .slice b3O b3L b3C, .slice b4O b4L b4C]] (bodyOf Try.f89) Try.f89.results.toList w R = V_laws_eqBand a0 a1 a2 a3O a3L a3C a4O a4L a4C b0 b1 b2 b3O b3L b3C b4O b4L b4C w R := by kernel_rfl
theorem p_laws_eqBand (a0 : Int) (a1 : Int) (a2 : Int) (a3O : Option Addr) (a3L : Nat) (a3C : Nat) (a4O : Option Addr) (a4L : Nat) (a4C : Nat) (b0 : Int) (b1 : Int) (b2 : Int) (b3O : Option Addr) (b3L : Nat) (b3C : Nat) (b4O : Option Addr) (b4L : Nat) (b4C : Nat) {w : World} {bs : List Nat} {ret : Value} (hvc : ∀ wr0, ExtX bs w wr0 → V_laws_eqBand a0 a1 a2 a3O a3L a3C a4O a4L a4C b0 b1 b2 b3O b3L b3C b4O b4L b4C wr0 fun v0 _ => v0 = ret) : PureX bs Try.prog fn_laws_eqBand #[.agg #[.int .i64 a0, .int .i64 a1, .int .i64 a2, .slice a3O a3L a3C, .slice a4O a4L a4C], .agg #[.int .i64 b0, .int .i64 b1, .int .i64 b2, .slice b3O b3L b3C, .slice b4O b4L b4C]] w ret :=
  pure_of_ev (C := c_laws_eqBand) (sps := s_laws_eqBand) (body := bodyOf Try.f89) (env _ _ _) Try.func89 rfl rfl (of_decide_eq_true (by kernel_rfl)) (of_decide_eq_true (by kernel_rfl)) rfl fun wr0 hx0 => by rw [v_laws_eqBand]; exact hvc wr0 hx0
noncomputable def c_laws_eqShelf : Cfg := { P := Try.prog, T := tblGet tbl, pf := pfT, ef := efT, tt := ttT, vis := [], n := 30, pm := true }
noncomputable def s_laws_eqShelf : List (Nat × LSpec) := []
def V_laws_eqShelf (a0 : Int) (a1 : Bool) (a2 : Int) (a3 : Int) (a4 : Int) (b0 : Int) (b1 : Bool) (b2 : Int) (b3 : Int) (b4 : Int) (w : World) (R : Value → World → Prop) : Prop :=
    (∀ b, w.heap.size ≤ b →
    (∀ b5, w.heap.size ≤ b5 →
    ((a0 != b0) = true →
    R (.bool false) w) ∧
    ((a0 != b0) = false →
    ((!(a1 == b1)) = true →
    R (.bool false) w) ∧
    ((!(a1 == b1)) = false →
    ((a2 != b2) = true →
    R (.bool false) w) ∧
    ((a2 != b2) = false →
    ((a3 != b3) = true →
    R (.bool false) w) ∧
    ((a3 != b3) = false →
    ((a4 != b4) = true →
    R (.bool false) w) ∧
    ((a4 != b4) = false →
    R (.bool true) w)))))))
theorem v_laws_eqShelf (a0 : Int) (a1 : Bool) (a2 : Int) (a3 : Int) (a4 : Int) (b0 : Int) (b1 : Bool) (b2 : Int) (b3 : Int) (b4 : Int) (w : World) (R : Value → World → Prop) : evFn c_laws_eqShelf s_laws_eqShelf [.agg #[.int .i64 a0, .bool a1, .int .i64 a2, .int .i64 a3, .int .i64 a4], .agg #[.int .i64 b0, .bool b1, .int .i64 b2, .int .i64 b3, .int .i64 b4]] (bodyOf Try.f119) Try.f119.results.toList w R = V_laws_eqShelf a0 a1 a2 a3 a4 b0 b1 b2 b3 b4 w R := by kernel_rfl
theorem p_laws_eqShelf (a0 : Int) (a1 : Bool) (a2 : Int) (a3 : Int) (a4 : Int) (b0 : Int) (b1 : Bool) (b2 : Int) (b3 : Int) (b4 : Int) {w : World} {bs : List Nat} {ret : Value} (hvc : ∀ wr0, ExtX bs w wr0 → V_laws_eqShelf a0 a1 a2 a3 a4 b0 b1 b2 b3 b4 wr0 fun v0 _ => v0 = ret) : PureX bs Try.prog fn_laws_eqShelf #[.agg #[.int .i64 a0, .bool a1, .int .i64 a2, .int .i64 a3, .int .i64 a4], .agg #[.int .i64 b0, .bool b1, .int .i64 b2, .int .i64 b3, .int .i64 b4]] w ret :=
  pure_of_ev (C := c_laws_eqShelf) (sps := s_laws_eqShelf) (body := bodyOf Try.f119) (env _ _ _) Try.func119 rfl rfl (of_decide_eq_true (by kernel_rfl)) (of_decide_eq_true (by kernel_rfl)) rfl fun wr0 hx0 => by rw [v_laws_eqShelf]; exact hvc wr0 hx0
noncomputable def c_laws_eqShelfS : Cfg := { P := Try.prog, T := tblGet tbl, pf := pfT, ef := efT, tt := ttT, vis := [], n := 27, pm := true }
noncomputable def s_laws_eqShelfS : List (Nat × LSpec) := [(4, { chg := [(5, .int .i64)], chgL := [], keep := [0, 1] })]
def V_laws_eqShelfS (aO : Option Addr) (aL : Nat) (aC : Nat) (bO : Option Addr) (bL : Nat) (bC : Nat) (w : World) (R : Value → World → Prop) : Prop :=
    ((((aL : Nat) : Int) != ((bL : Nat) : Int)) = true →
    R (.bool false) w) ∧
    ((((aL : Nat) : Int) != ((bL : Nat) : Int)) = false →
    (∃ (xInv : List Value → Prop) (mu : List Value → Nat), xInv [.int .i64 0] ∧
    ∀ (i : Int), xInv [.int .i64 i] →
    ((decide (i < ((aL : Nat) : Int))) = true →
    Ix aO aL i ∧
    (∃ (x0 : Int) (x1 : Bool) (x2 : Int) (x3 : Int) (x4 : Int),
    CellsX [] w aO (Int.toNat i * 5) [.int .i64 x0, .bool x1, .int .i64 x2, .int .i64 x3, .int .i64 x4] ∧
    Ix bO bL i ∧
    (∃ (x01 : Int) (x11 : Bool) (x21 : Int) (x31 : Int) (x41 : Int),
    CellsX [] w bO (Int.toNat i * 5) [.int .i64 x01, .bool x11, .int .i64 x21, .int .i64 x31, .int .i64 x41] ∧
    (∃ (eqShel : Bool),
    PureX [] Try.prog fn_laws_eqShelf #[.agg #[.int .i64 x0, .bool x1, .int .i64 x2, .int .i64 x3, .int .i64 x4], .agg #[.int .i64 x01, .bool x11, .int .i64 x21, .int .i64 x31, .int .i64 x41]] w (.bool eqShel) ∧
    ((!eqShel) = true →
    R (.bool false) w) ∧
    ((!eqShel) = false →
    InR .i64 (i + 1) ∧
    xInv [.int .i64 (i + 1)] ∧ mu [.int .i64 (i + 1)] < mu [.int .i64 i]))))) ∧
    ((decide (i < ((aL : Nat) : Int))) = false →
    R (.bool true) w)))
theorem v_laws_eqShelfS (aO : Option Addr) (aL : Nat) (aC : Nat) (bO : Option Addr) (bL : Nat) (bC : Nat) (w : World) (R : Value → World → Prop) : evFn c_laws_eqShelfS s_laws_eqShelfS [.slice aO aL aC, .slice bO bL bC] (bodyOf Try.f90) Try.f90.results.toList w R = V_laws_eqShelfS aO aL aC bO bL bC w R := by kernel_rfl
theorem p_laws_eqShelfS (aO : Option Addr) (aL : Nat) (aC : Nat) (bO : Option Addr) (bL : Nat) (bC : Nat) {w : World} {bs : List Nat} {ret : Value} (hvc : ∀ wr0, ExtX bs w wr0 → V_laws_eqShelfS aO aL aC bO bL bC wr0 fun v0 _ => v0 = ret) : PureX bs Try.prog fn_laws_eqShelfS #[.slice aO aL aC, .slice bO bL bC] w ret :=
  pure_of_ev (C := c_laws_eqShelfS) (sps := s_laws_eqShelfS) (body := bodyOf Try.f90) (env _ _ _) Try.func90 rfl rfl (of_decide_eq_true (by kernel_rfl)) (of_decide_eq_true (by kernel_rfl)) rfl fun wr0 hx0 => by rw [v_laws_eqShelfS]; exact hvc wr0 hx0
noncomputable def c_laws_eqGroup : Cfg := { P := Try.prog, T := tblGet tbl, pf := pfT, ef := efT, tt := ttT, vis := [], n := 57, pm := true }
noncomputable def s_laws_eqGroup : List (Nat × LSpec) := []
def V_laws_eqGroup (a0 : Bool) (a1 : Int) (a2 : ByteArray) (a3 : Int) (a4 : Int) (a5 : Int) (a6 : Int) (a7 : Int) (a8 : Int) (a9 : Int) (a10 : Int) (a11O : Option Addr) (a11L : Nat) (a11C : Nat) (a12O : Option Addr) (a12L : Nat) (a12C : Nat) (a13O : Option Addr) (a13L : Nat) (a13C : Nat) (b0 : Bool) (b1 : Int) (b2 : ByteArray) (b3 : Int) (b4 : Int) (b5 : Int) (b6 : Int) (b7 : Int) (b8 : Int) (b9 : Int) (b10 : Int) (b11O : Option Addr) (b11L : Nat) (b11C : Nat) (b12O : Option Addr) (b12L : Nat) (b12C : Nat) (b13O : Option Addr) (b13L : Nat) (b13C : Nat) (w : World) (R : Value → World → Prop) : Prop :=
    (∀ b, w.heap.size ≤ b →
    (∀ b14, w.heap.size ≤ b14 →
    ((!(a0 == b0)) = true →
    R (.bool false) w) ∧
    ((!(a0 == b0)) = false →
    ((a1 != b1) = true →
    R (.bool false) w) ∧
    ((a1 != b1) = false →
    ((!strEq a2 b2) = true →
    R (.bool false) w) ∧
    ((!strEq a2 b2) = false →
    ((a3 != b3) = true →
    R (.bool false) w) ∧
    ((a3 != b3) = false →
    ((a4 != b4) = true →
    R (.bool false) w) ∧
    ((a4 != b4) = false →
    ((a5 != b5) = true →
    R (.bool false) w) ∧
    ((a5 != b5) = false →
    ((a6 != b6) = true →
    R (.bool false) w) ∧
    ((a6 != b6) = false →
    ((a7 != b7) = true →
    R (.bool false) w) ∧
    ((a7 != b7) = false →
    (∃ (eqBand : Bool),
    PureX [] Try.prog fn_laws_eqBand #[.agg #[.int .i64 a8, .int .i64 a9, .int .i64 a10, .slice a11O a11L a11C, .slice a12O a12L a12C], .agg #[.int .i64 b8, .int .i64 b9, .int .i64 b10, .slice b11O b11L b11C, .slice b12O b12L b12C]] w (.bool eqBand) ∧
    ((!eqBand) = true →
    R (.bool false) w) ∧
    ((!eqBand) = false →
    (∃ (eqShel : Bool),
    PureX [] Try.prog fn_laws_eqShelfS #[.slice a13O a13L a13C, .slice b13O b13L b13C] w (.bool eqShel) ∧
    ((!eqShel) = true →
    R (.bool false) w) ∧
    ((!eqShel) = false →
    R (.bool true) w))))))))))))))
theorem v_laws_eqGroup (a0 : Bool) (a1 : Int) (a2 : ByteArray) (a3 : Int) (a4 : Int) (a5 : Int) (a6 : Int) (a7 : Int) (a8 : Int) (a9 : Int) (a10 : Int) (a11O : Option Addr) (a11L : Nat) (a11C : Nat) (a12O : Option Addr) (a12L : Nat) (a12C : Nat) (a13O : Option Addr) (a13L : Nat) (a13C : Nat) (b0 : Bool) (b1 : Int) (b2 : ByteArray) (b3 : Int) (b4 : Int) (b5 : Int) (b6 : Int) (b7 : Int) (b8 : Int) (b9 : Int) (b10 : Int) (b11O : Option Addr) (b11L : Nat) (b11C : Nat) (b12O : Option Addr) (b12L : Nat) (b12C : Nat) (b13O : Option Addr) (b13L : Nat) (b13C : Nat) (w : World) (R : Value → World → Prop) : evFn c_laws_eqGroup s_laws_eqGroup [.agg #[.bool a0, .int .i64 a1, .string a2, .int .i64 a3, .int .i64 a4, .int .i64 a5, .int .i64 a6, .int .i64 a7, .int .i64 a8, .int .i64 a9, .int .i64 a10, .slice a11O a11L a11C, .slice a12O a12L a12C, .slice a13O a13L a13C], .agg #[.bool b0, .int .i64 b1, .string b2, .int .i64 b3, .int .i64 b4, .int .i64 b5, .int .i64 b6, .int .i64 b7, .int .i64 b8, .int .i64 b9, .int .i64 b10, .slice b11O b11L b11C, .slice b12O b12L b12C, .slice b13O b13L b13C]] (bodyOf Try.f44) Try.f44.results.toList w R = V_laws_eqGroup a0 a1 a2 a3 a4 a5 a6 a7 a8 a9 a10 a11O a11L a11C a12O a12L a12C a13O a13L a13C b0 b1 b2 b3 b4 b5 b6 b7 b8 b9 b10 b11O b11L b11C b12O b12L b12C b13O b13L b13C w R := by kernel_rfl
theorem p_laws_eqGroup (a0 : Bool) (a1 : Int) (a2 : ByteArray) (a3 : Int) (a4 : Int) (a5 : Int) (a6 : Int) (a7 : Int) (a8 : Int) (a9 : Int) (a10 : Int) (a11O : Option Addr) (a11L : Nat) (a11C : Nat) (a12O : Option Addr) (a12L : Nat) (a12C : Nat) (a13O : Option Addr) (a13L : Nat) (a13C : Nat) (b0 : Bool) (b1 : Int) (b2 : ByteArray) (b3 : Int) (b4 : Int) (b5 : Int) (b6 : Int) (b7 : Int) (b8 : Int) (b9 : Int) (b10 : Int) (b11O : Option Addr) (b11L : Nat) (b11C : Nat) (b12O : Option Addr) (b12L : Nat) (b12C : Nat) (b13O : Option Addr) (b13L : Nat) (b13C : Nat) {w : World} {bs : List Nat} {ret : Value} (hvc : ∀ wr0, ExtX bs w wr0 → V_laws_eqGroup a0 a1 a2 a3 a4 a5 a6 a7 a8 a9 a10 a11O a11L a11C a12O a12L a12C a13O a13L a13C b0 b1 b2 b3 b4 b5 b6 b7 b8 b9 b10 b11O b11L b11C b12O b12L b12C b13O b13L b13C wr0 fun v0 _ => v0 = ret) : PureX bs Try.prog fn_laws_eqGroup #[.agg #[.bool a0, .int .i64 a1, .string a2, .int .i64 a3, .int .i64 a4, .int .i64 a5, .int .i64 a6, .int .i64 a7, .int .i64 a8, .int .i64 a9, .int .i64 a10, .slice a11O a11L a11C, .slice a12O a12L a12C, .slice a13O a13L a13C], .agg #[.bool b0, .int .i64 b1, .string b2, .int .i64 b3, .int .i64 b4, .int .i64 b5, .int .i64 b6, .int .i64 b7, .int .i64 b8, .int .i64 b9, .int .i64 b10, .slice b11O b11L b11C, .slice b12O b12L b12C, .slice b13O b13L b13C]] w ret :=
  pure_of_ev (C := c_laws_eqGroup) (sps := s_laws_eqGroup) (body := bodyOf Try.f44) (env _ _ _) Try.func44 rfl rfl (of_decide_eq_true (by kernel_rfl)) (of_decide_eq_true (by kernel_rfl)) rfl fun wr0 hx0 => by rw [v_laws_eqGroup]; exact hvc wr0 hx0
noncomputable def c_laws_eqGroupS : Cfg := { P := Try.prog, T := tblGet tbl, pf := pfT, ef := efT, tt := ttT, vis := [], n := 27, pm := true }
noncomputable def s_laws_eqGroupS : List (Nat × LSpec) := [(4, { chg := [(5, .int .i64)], chgL := [], keep := [0, 1] })]
def V_laws_eqGroupS (aO : Option Addr) (aL : Nat) (aC : Nat) (bO : Option Addr) (bL : Nat) (bC : Nat) (w : World) (R : Value → World → Prop) : Prop :=
    ((((aL : Nat) : Int) != ((bL : Nat) : Int)) = true →
    R (.bool false) w) ∧
    ((((aL : Nat) : Int) != ((bL : Nat) : Int)) = false →
    (∃ (xInv : List Value → Prop) (mu : List Value → Nat), xInv [.int .i64 0] ∧
    ∀ (i : Int), xInv [.int .i64 i] →
    ((decide (i < ((aL : Nat) : Int))) = true →
    Ix aO aL i ∧
    (∃ (x0 : Bool) (x1 : Int) (x2 : ByteArray) (x3 : Int) (x4 : Int) (x5 : Int) (x6 : Int) (x7 : Int) (x8 : Int) (x9 : Int) (x10 : Int) (x11O : Option Addr) (x11L : Nat) (x11C : Nat) (x12O : Option Addr) (x12L : Nat) (x12C : Nat) (x13O : Option Addr) (x13L : Nat) (x13C : Nat),
    CellsX [] w aO (Int.toNat i * 14) [.bool x0, .int .i64 x1, .string x2, .int .i64 x3, .int .i64 x4, .int .i64 x5, .int .i64 x6, .int .i64 x7, .int .i64 x8, .int .i64 x9, .int .i64 x10, .slice x11O x11L x11C, .slice x12O x12L x12C, .slice x13O x13L x13C] ∧
    Ix bO bL i ∧
    (∃ (x01 : Bool) (x14 : Int) (x21 : ByteArray) (x31 : Int) (x41 : Int) (x51 : Int) (x61 : Int) (x71 : Int) (x81 : Int) (x91 : Int) (x101 : Int) (x111O : Option Addr) (x111L : Nat) (x111C : Nat) (x121O : Option Addr) (x121L : Nat) (x121C : Nat) (x131O : Option Addr) (x131L : Nat) (x131C : Nat),
    CellsX [] w bO (Int.toNat i * 14) [.bool x01, .int .i64 x14, .string x21, .int .i64 x31, .int .i64 x41, .int .i64 x51, .int .i64 x61, .int .i64 x71, .int .i64 x81, .int .i64 x91, .int .i64 x101, .slice x111O x111L x111C, .slice x121O x121L x121C, .slice x131O x131L x131C] ∧
    (∃ (eqGrou : Bool),
    PureX [] Try.prog fn_laws_eqGroup #[.agg #[.bool x0, .int .i64 x1, .string x2, .int .i64 x3, .int .i64 x4, .int .i64 x5, .int .i64 x6, .int .i64 x7, .int .i64 x8, .int .i64 x9, .int .i64 x10, .slice x11O x11L x11C, .slice x12O x12L x12C, .slice x13O x13L x13C], .agg #[.bool x01, .int .i64 x14, .string x21, .int .i64 x31, .int .i64 x41, .int .i64 x51, .int .i64 x61, .int .i64 x71, .int .i64 x81, .int .i64 x91, .int .i64 x101, .slice x111O x111L x111C, .slice x121O x121L x121C, .slice x131O x131L x131C]] w (.bool eqGrou) ∧
    ((!eqGrou) = true →
    R (.bool false) w) ∧
    ((!eqGrou) = false →
    InR .i64 (i + 1) ∧
    xInv [.int .i64 (i + 1)] ∧ mu [.int .i64 (i + 1)] < mu [.int .i64 i]))))) ∧
    ((decide (i < ((aL : Nat) : Int))) = false →
    R (.bool true) w)))
theorem v_laws_eqGroupS (aO : Option Addr) (aL : Nat) (aC : Nat) (bO : Option Addr) (bL : Nat) (bC : Nat) (w : World) (R : Value → World → Prop) : evFn c_laws_eqGroupS s_laws_eqGroupS [.slice aO aL aC, .slice bO bL bC] (bodyOf Try.f13) Try.f13.results.toList w R = V_laws_eqGroupS aO aL aC bO bL bC w R := by kernel_rfl
theorem p_laws_eqGroupS (aO : Option Addr) (aL : Nat) (aC : Nat) (bO : Option Addr) (bL : Nat) (bC : Nat) {w : World} {bs : List Nat} {ret : Value} (hvc : ∀ wr0, ExtX bs w wr0 → V_laws_eqGroupS aO aL aC bO bL bC wr0 fun v0 _ => v0 = ret) : PureX bs Try.prog fn_laws_eqGroupS #[.slice aO aL aC, .slice bO bL bC] w ret :=
  pure_of_ev (C := c_laws_eqGroupS) (sps := s_laws_eqGroupS) (body := bodyOf Try.f13) (env _ _ _) Try.func13 rfl rfl (of_decide_eq_true (by kernel_rfl)) (of_decide_eq_true (by kernel_rfl)) rfl fun wr0 hx0 => by rw [v_laws_eqGroupS]; exact hvc wr0 hx0
noncomputable def c_laws_FnExactTreeUnder : Cfg := { P := Try.prog, T := tblGet tbl, pf := pfT, ef := efT, tt := ttT, vis := [], n := 35, pm := false }
noncomputable def s_laws_FnExactTreeUnder : List (Nat × LSpec) := []
def V_laws_FnExactTreeUnder (aLO : Option Addr) (aLL : Nat) (aLC : Nat) (aG : Int) (aH : Int) (w : World) (R : Value → World → Prop) : Prop :=
    (∃ (szGrou : Int),
    PureX [] Try.prog fn_laws_szGroupS #[.slice aLO aLL aLC, .int .i64 1048576] w (.int .i64 szGrou) ∧
    ((decide (szGrou < 0)) = true →
    (∀ wr, ExtX [] w wr → R (.bool true) wr)) ∧
    ((decide (szGrou < 0)) = false →
    (∀ wr1, ExtX [] w wr1 → (∀ bq ∈ ([] : List Nat), bq < wr1.heap.size) → 
    Calls Try.prog fn_laws_toGroupS #[.slice aLO aLL aLC] wr1 fun e wv =>
    (∃ (toGrouO : Option Addr) (toGrouL : Nat) (toGrouC : Nat),
    e = .returned (.slice toGrouO toGrouL toGrouC) ∧ Kept [] wr1 wv ∧
    (∃ (xTreeUn : Bool),
    PureX [] Try.prog fn_spec_TreeUnder #[.slice toGrouO toGrouL toGrouC, .int .i64 aG, .int .i64 aH] wv (.bool xTreeUn) ∧
    (∀ wr2, ExtX [] wv wr2 → (∀ bq ∈ ([] : List Nat), bq < wr2.heap.size) → 
    Calls Try.prog fn_laws_toGroupS #[.slice aLO aLL aLC] wr2 fun e1 wv1 =>
    (∃ (toGrou1O : Option Addr) (toGrou1L : Nat) (toGrou1C : Nat),
    e1 = .returned (.slice toGrou1O toGrou1L toGrou1C) ∧ Kept [] wr2 wv1 ∧
    (∃ (xTreeUn1 : Bool),
    PureX [] Try.prog fn_impl_TreeUnder #[.slice toGrou1O toGrou1L toGrou1C, .int .i64 aG, .int .i64 aH] wv1 (.bool xTreeUn1) ∧
    ((!(xTreeUn1 == xTreeUn)) = true →
    (∀ wr3, ExtX [] wv1 wr3 → R (.bool false) wr3)) ∧
    ((!(xTreeUn1 == xTreeUn)) = false →
    (∀ wr4, ExtX [] wv1 wr4 → (∀ bq ∈ ([] : List Nat), bq < wr4.heap.size) → 
    Calls Try.prog fn_laws_toGroupS #[.slice aLO aLL aLC] wr4 fun e2 wv2 =>
    (∃ (toGrou2O : Option Addr) (toGrou2L : Nat) (toGrou2C : Nat),
    e2 = .returned (.slice toGrou2O toGrou2L toGrou2C) ∧ Kept [] wr4 wv2 ∧
    (∃ (eqGrou : Bool),
    PureX [] Try.prog fn_laws_eqGroupS #[.slice toGrou1O toGrou1L toGrou1C, .slice toGrou2O toGrou2L toGrou2C] wv2 (.bool eqGrou) ∧
    ((!eqGrou) = true →
    (∀ wr5, ExtX [] wv2 wr5 → R (.bool false) wr5)) ∧
    ((!eqGrou) = false →
    (∀ wr6, ExtX [] wv2 wr6 → R (.bool true) wr6))))))))))))))
theorem v_laws_FnExactTreeUnder (aLO : Option Addr) (aLL : Nat) (aLC : Nat) (aG : Int) (aH : Int) (w : World) (R : Value → World → Prop) : evFn c_laws_FnExactTreeUnder s_laws_FnExactTreeUnder [.slice aLO aLL aLC, .int .i64 aG, .int .i64 aH] (bodyOf Try.f3) Try.f3.results.toList w R = V_laws_FnExactTreeUnder aLO aLL aLC aG aH w R := by kernel_rfl
theorem e_laws_FnExactTreeUnder (aLO : Option Addr) (aLL : Nat) (aLC : Nat) (aG : Int) (aH : Int) {w : World} {R : Value → World → Prop} (hvc : V_laws_FnExactTreeUnder aLO aLL aLC aG aH w R) : Calls Try.prog fn_laws_FnExactTreeUnder #[.slice aLO aLL aLC, .int .i64 aG, .int .i64 aH] w fun e0 wr0 => ∃ v0, e0 = .returned v0 ∧ R v0 wr0 :=
  eff_of_ev (C := c_laws_FnExactTreeUnder) (sps := s_laws_FnExactTreeUnder) (body := bodyOf Try.f3) (env _ _ _) Try.func3 rfl rfl (of_decide_eq_true (by kernel_rfl)) (of_decide_eq_true (by kernel_rfl)) rfl (by rw [v_laws_FnExactTreeUnder]; exact hvc)
noncomputable def c_spec_l20Open : Cfg := { P := Try.prog, T := tblGet tbl, pf := pfT, ef := efT, tt := ttT, vis := [10], n := 11, pm := false }
noncomputable def s_spec_l20Open : List (Nat × LSpec) := []
def V_spec_l20Open (codeO : Option Addr) (codeL : Nat) (codeC : Nat) (w : World) (R : Value → World → Prop) : Prop :=
    ((decide (((codeL : Nat) : Int) > 2000)) = true →
    (0 ≤ (0 : Int) ∧ (0 : Int) ≤ 2000 ∧ 2000 ≤ (codeC : Int)) ∧
    (∀ b wb, ExtX [] w wb → w.heap.size ≤ b → wb.heap[b]? = some (Obj.cells ([.slice (if codeC = Int.toNat 0 then codeO else codeO.map (·.add (Int.toNat 0 * 1))) (Int.toNat 2000 - Int.toNat 0) (codeC - Int.toNat 0), .int .i64 0] : List Value).toArray ty_spec_l20Rd (0, 0)) → b ∉ ([] : List Nat) →
    (∀ wr, ExtX [] wb wr → R (.pointer ((some (Addr.mk b 0 none)).map (·.add 0))) wr))) ∧
    ((decide (((codeL : Nat) : Int) > 2000)) = false →
    (∀ b1 wb1, ExtX [] w wb1 → w.heap.size ≤ b1 → wb1.heap[b1]? = some (Obj.cells ([.slice codeO codeL codeC, .int .i64 0] : List Value).toArray ty_spec_l20Rd (0, 0)) → b1 ∉ ([] : List Nat) →
    (∀ wr1, ExtX [] wb1 wr1 → R (.pointer ((some (Addr.mk b1 0 none)).map (·.add 0))) wr1)))
theorem v_spec_l20Open (codeO : Option Addr) (codeL : Nat) (codeC : Nat) (w : World) (R : Value → World → Prop) : evFn c_spec_l20Open s_spec_l20Open [.slice codeO codeL codeC] (bodyOf Try.f45) Try.f45.results.toList w R = V_spec_l20Open codeO codeL codeC w R := by kernel_rfl
theorem e_spec_l20Open (codeO : Option Addr) (codeL : Nat) (codeC : Nat) {w : World} {R : Value → World → Prop} (hvc : V_spec_l20Open codeO codeL codeC w R) : Calls Try.prog fn_spec_l20Open #[.slice codeO codeL codeC] w fun e0 wr0 => ∃ v0, e0 = .returned v0 ∧ R v0 wr0 :=
  eff_of_ev (C := c_spec_l20Open) (sps := s_spec_l20Open) (body := bodyOf Try.f45) (env _ _ _) Try.func45 rfl rfl (of_decide_eq_true (by kernel_rfl)) (of_decide_eq_true (by kernel_rfl)) rfl (by rw [v_spec_l20Open]; exact hvc)
noncomputable def c_spec_l1Weight : Cfg := { P := Try.prog, T := tblGet tbl, pf := pfT, ef := efT, tt := ttT, vis := [], n := 5, pm := true }
noncomputable def s_spec_l1Weight : List (Nat × LSpec) := []
def V_spec_l1Weight (wv : Int) (w : World) (R : Value → World → Prop) : Prop :=
    (∃ (l1In : Bool),
    PureX [] Try.prog fn_spec_l1In #[.int .i64 wv, .int .i64 1, .int .i64 20] w (.bool l1In) ∧
    R (.bool l1In) w)
theorem v_spec_l1Weight (wv : Int) (w : World) (R : Value → World → Prop) : evFn c_spec_l1Weight s_spec_l1Weight [.int .i64 wv] (bodyOf Try.f101) Try.f101.results.toList w R = V_spec_l1Weight wv w R := by kernel_rfl
theorem p_spec_l1Weight (wv : Int) {w : World} {bs : List Nat} {ret : Value} (hvc : ∀ wr0, ExtX bs w wr0 → V_spec_l1Weight wv wr0 fun v0 _ => v0 = ret) : PureX bs Try.prog fn_spec_l1Weight #[.int .i64 wv] w ret :=
  pure_of_ev (C := c_spec_l1Weight) (sps := s_spec_l1Weight) (body := bodyOf Try.f101) (env _ _ _) Try.func101 rfl rfl (of_decide_eq_true (by kernel_rfl)) (of_decide_eq_true (by kernel_rfl)) rfl fun wr0 hx0 => by rw [v_spec_l1Weight]; exact hvc wr0 hx0
noncomputable def c_spec_VirtualStep : Cfg := { P := Try.prog, T := tblGet tbl, pf := pfT, ef := efT, tt := ttT, vis := [], n := 17, pm := true }
noncomputable def s_spec_VirtualStep : List (Nat × LSpec) := []
def V_spec_VirtualStep (units : Int) (weight : Int) (w : World) (R : Value → World → Prop) : Prop :=
    (∃ (l1Weig : Bool),
    PureX [] Try.prog fn_spec_l1Weight #[.int .i64 weight] w (.bool l1Weig) ∧
    (∃ (l1In : Bool),
    ((!l1Weig) = false → PureX [] Try.prog fn_spec_l1In #[.int .i64 units, .int .i64 0, .int .i64 100000000] w (.bool l1In)) ∧
    (((!l1Weig) || (!l1In)) = true →
    R (.int .i64 0) w) ∧
    (((!l1Weig) || (!l1In)) = false →
    (weight ≠ 0 ∧ InR .i64 (Int.tdiv 232792560 weight)) ∧
    InR .i64 (units * (Int.tdiv 232792560 weight)) ∧
    R (.int .i64 (units * (Int.tdiv 232792560 weight))) w)))
theorem v_spec_VirtualStep (units : Int) (weight : Int) (w : World) (R : Value → World → Prop) : evFn c_spec_VirtualStep s_spec_VirtualStep [.int .i64 units, .int .i64 weight] (bodyOf Try.f75) Try.f75.results.toList w R = V_spec_VirtualStep units weight w R := by kernel_rfl
theorem p_spec_VirtualStep (units : Int) (weight : Int) {w : World} {bs : List Nat} {ret : Value} (hvc : ∀ wr0, ExtX bs w wr0 → V_spec_VirtualStep units weight wr0 fun v0 _ => v0 = ret) : PureX bs Try.prog fn_spec_VirtualStep #[.int .i64 units, .int .i64 weight] w ret :=
  pure_of_ev (C := c_spec_VirtualStep) (sps := s_spec_VirtualStep) (body := bodyOf Try.f75) (env _ _ _) Try.func75 rfl rfl (of_decide_eq_true (by kernel_rfl)) (of_decide_eq_true (by kernel_rfl)) rfl fun wr0 hx0 => by rw [v_spec_VirtualStep]; exact hvc wr0 hx0
noncomputable def c_spec_l4Time : Cfg := { P := Try.prog, T := tblGet tbl, pf := pfT, ef := efT, tt := ttT, vis := [], n := 5, pm := true }
noncomputable def s_spec_l4Time : List (Nat × LSpec) := []
def V_spec_l4Time (v : Int) (w : World) (R : Value → World → Prop) : Prop :=
    (∃ (l1In : Bool),
    PureX [] Try.prog fn_spec_l1In #[.int .i64 v, .int .i64 0, .int .i64 100000000000000000] w (.bool l1In) ∧
    R (.bool l1In) w)
theorem v_spec_l4Time (v : Int) (w : World) (R : Value → World → Prop) : evFn c_spec_l4Time s_spec_l4Time [.int .i64 v] (bodyOf Try.f79) Try.f79.results.toList w R = V_spec_l4Time v w R := by kernel_rfl
theorem p_spec_l4Time (v : Int) {w : World} {bs : List Nat} {ret : Value} (hvc : ∀ wr0, ExtX bs w wr0 → V_spec_l4Time v wr0 fun v0 _ => v0 = ret) : PureX bs Try.prog fn_spec_l4Time #[.int .i64 v] w ret :=
  pure_of_ev (C := c_spec_l4Time) (sps := s_spec_l4Time) (body := bodyOf Try.f79) (env _ _ _) Try.func79 rfl rfl (of_decide_eq_true (by kernel_rfl)) (of_decide_eq_true (by kernel_rfl)) rfl fun wr0 hx0 => by rw [v_spec_l4Time]; exact hvc wr0 hx0
noncomputable def c_spec_LagMost : Cfg := { P := Try.prog, T := tblGet tbl, pf := pfT, ef := efT, tt := ttT, vis := [], n := 5, pm := true }
noncomputable def s_spec_LagMost : List (Nat × LSpec) := []
def V_spec_LagMost (weight : Int) (w : World) (R : Value → World → Prop) : Prop :=
    (∃ (xVirtua : Int),
    PureX [] Try.prog fn_spec_VirtualStep #[.int .i64 149, .int .i64 weight] w (.int .i64 xVirtua) ∧
    R (.int .i64 xVirtua) w)
theorem v_spec_LagMost (weight : Int) (w : World) (R : Value → World → Prop) : evFn c_spec_LagMost s_spec_LagMost [.int .i64 weight] (bodyOf Try.f108) Try.f108.results.toList w R = V_spec_LagMost weight w R := by kernel_rfl
theorem p_spec_LagMost (weight : Int) {w : World} {bs : List Nat} {ret : Value} (hvc : ∀ wr0, ExtX bs w wr0 → V_spec_LagMost weight wr0 fun v0 _ => v0 = ret) : PureX bs Try.prog fn_spec_LagMost #[.int .i64 weight] w ret :=
  pure_of_ev (C := c_spec_LagMost) (sps := s_spec_LagMost) (body := bodyOf Try.f108) (env _ _ _) Try.func108 rfl rfl (of_decide_eq_true (by kernel_rfl)) (of_decide_eq_true (by kernel_rfl)) rfl fun wr0 hx0 => by rw [v_spec_LagMost]; exact hvc wr0 hx0
noncomputable def c_spec_l4Entry : Cfg := { P := Try.prog, T := tblGet tbl, pf := pfT, ef := efT, tt := ttT, vis := [], n := 40, pm := true }
noncomputable def s_spec_l4Entry : List (Nat × LSpec) := []
def V_spec_l4Entry (e01 : Bool) (e1 : Int) (e2 : Int) (e3 : Int) (floor : Int) (w : World) (R : Value → World → Prop) : Prop :=
    (∀ b, w.heap.size ≤ b →
    (∃ (l1Weig : Bool),
    PureX [] Try.prog fn_spec_l1Weight #[.int .i64 e2] w (.bool l1Weig) ∧
    (∃ (l4Time : Bool),
    ((!l1Weig) = false → PureX [] Try.prog fn_spec_l4Time #[.int .i64 e1] w (.bool l4Time)) ∧
    (∃ (l4Time1 : Bool),
    (((!l1Weig) || (!l4Time)) = false → PureX [] Try.prog fn_spec_l4Time #[.int .i64 e3] w (.bool l4Time1)) ∧
    ((((!l1Weig) || (!l4Time)) || (!l4Time1)) = true →
    R (.bool false) w) ∧
    ((((!l1Weig) || (!l4Time)) || (!l4Time1)) = false →
    ((decide (e1 ≥ floor)) = true → ((!e01) = false → InR .i64 (e1 - floor))) ∧
    (∃ (xLagMos : Int),
    ((decide (e1 ≥ floor)) = true → ((!e01) = false → PureX [] Try.prog fn_spec_LagMost #[.int .i64 e2] w (.int .i64 xLagMos))) ∧
    R (.bool ((!e01) || ((decide (e1 ≥ floor)) && (decide (e1 - floor ≤ xLagMos))))) w))))))
theorem v_spec_l4Entry (e01 : Bool) (e1 : Int) (e2 : Int) (e3 : Int) (floor : Int) (w : World) (R : Value → World → Prop) : evFn c_spec_l4Entry s_spec_l4Entry [.agg #[.bool e01, .int .i64 e1, .int .i64 e2, .int .i64 e3], .int .i64 floor] (bodyOf Try.f80) Try.f80.results.toList w R = V_spec_l4Entry e01 e1 e2 e3 floor w R := by kernel_rfl
theorem p_spec_l4Entry (e01 : Bool) (e1 : Int) (e2 : Int) (e3 : Int) (floor : Int) {w : World} {bs : List Nat} {ret : Value} (hvc : ∀ wr0, ExtX bs w wr0 → V_spec_l4Entry e01 e1 e2 e3 floor wr0 fun v0 _ => v0 = ret) : PureX bs Try.prog fn_spec_l4Entry #[.agg #[.bool e01, .int .i64 e1, .int .i64 e2, .int .i64 e3], .int .i64 floor] w ret :=
  pure_of_ev (C := c_spec_l4Entry) (sps := s_spec_l4Entry) (body := bodyOf Try.f80) (env _ _ _) Try.func80 rfl rfl (of_decide_eq_true (by kernel_rfl)) (of_decide_eq_true (by kernel_rfl)) rfl fun wr0 hx0 => by rw [v_spec_l4Entry]; exact hvc wr0 hx0
noncomputable def c_spec_QueueOk : Cfg := { P := Try.prog, T := tblGet tbl, pf := pfT, ef := efT, tt := ttT, vis := [], n := 74, pm := true }
noncomputable def s_spec_QueueOk : List (Nat × LSpec) := [(4, { chg := [(3, .int .i64)], chgL := [], keep := [1] })]
def V_spec_QueueOk (q0 : Int) (q1 : Int) (q2 : Int) (q3O : Option Addr) (q3L : Nat) (q3C : Nat) (w : World) (R : Value → World → Prop) : Prop :=
    (∀ b, w.heap.size ≤ b →
    (∃ (l1In : Bool),
    PureX [] Try.prog fn_spec_l1In #[.int .i64 ((q3L : Nat) : Int), .int .i64 1, .int .i64 20] w (.bool l1In) ∧
    (∃ (l4Time : Bool),
    ((!l1In) = false → PureX [] Try.prog fn_spec_l4Time #[.int .i64 q0] w (.bool l4Time)) ∧
    (((!l1In) || (!l4Time)) = false → InR .i64 (((q3L : Nat) : Int) - 1)) ∧
    (∃ (l1In1 : Bool),
    (((!l1In) || (!l4Time)) = false → PureX [] Try.prog fn_spec_l1In #[.int .i64 q1, .int .i64 (-1), .int .i64 (((q3L : Nat) : Int) - 1)] w (.bool l1In1)) ∧
    ((((!l1In) || (!l4Time)) || (!l1In1)) = true →
    R (.bool false) w) ∧
    ((((!l1In) || (!l4Time)) || (!l1In1)) = false →
    (∃ (xInv : List Value → Prop) (mu : List Value → Nat), xInv [.int .i64 0] ∧
    ∀ (i : Int), xInv [.int .i64 i] →
    ((decide (i < ((q3L : Nat) : Int))) = true →
    Ix q3O q3L i ∧
    (∃ (x0 : Bool) (x1 : Int) (x2 : Int) (x3 : Int),
    CellsX [] w q3O (Int.toNat i * 4) [.bool x0, .int .i64 x1, .int .i64 x2, .int .i64 x3] ∧
    (∃ (l4Entr : Bool),
    PureX [] Try.prog fn_spec_l4Entry #[.agg #[.bool x0, .int .i64 x1, .int .i64 x2, .int .i64 x3], .int .i64 q0] w (.bool l4Entr) ∧
    ((!l4Entr) = true →
    R (.bool false) w) ∧
    ((!l4Entr) = false →
    InR .i64 (i + 1) ∧
    xInv [.int .i64 (i + 1)] ∧ mu [.int .i64 (i + 1)] < mu [.int .i64 i])))) ∧
    ((decide (i < ((q3L : Nat) : Int))) = false →
    ((decide (q1 < 0)) = true →
    R (.bool (q2 == 0)) w) ∧
    ((decide (q1 < 0)) = false →
    Ix q3O q3L q1 ∧
    (∃ (x01 : Bool) (x11 : Int) (x21 : Int) (x31 : Int),
    CellsX [] w q3O (Int.toNat q1 * 4) [.bool x01, .int .i64 x11, .int .i64 x21, .int .i64 x31] ∧
    (∀ b1, w.heap.size ≤ b1 →
    (∃ (l1In2 : Bool),
    (x01 = true → PureX [] Try.prog fn_spec_l1In #[.int .i64 q2, .int .i64 1, .int .i64 149] w (.bool l1In2)) ∧
    ((x01 && l1In2) = true → InR .i64 (x11 - q0)) ∧
    (∃ (xVirtua : Int),
    ((x01 && l1In2) = true → PureX [] Try.prog fn_spec_VirtualStep #[.int .i64 q2, .int .i64 x21] w (.int .i64 xVirtua)) ∧
    R (.bool ((x01 && l1In2) && (decide (x11 - q0 ≤ xVirtua)))) w))))))))))))
theorem v_spec_QueueOk (q0 : Int) (q1 : Int) (q2 : Int) (q3O : Option Addr) (q3L : Nat) (q3C : Nat) (w : World) (R : Value → World → Prop) : evFn c_spec_QueueOk s_spec_QueueOk [.agg #[.int .i64 q0, .int .i64 q1, .int .i64 q2, .slice q3O q3L q3C]] (bodyOf Try.f32) Try.f32.results.toList w R = V_spec_QueueOk q0 q1 q2 q3O q3L q3C w R := by kernel_rfl
theorem p_spec_QueueOk (q0 : Int) (q1 : Int) (q2 : Int) (q3O : Option Addr) (q3L : Nat) (q3C : Nat) {w : World} {bs : List Nat} {ret : Value} (hvc : ∀ wr0, ExtX bs w wr0 → V_spec_QueueOk q0 q1 q2 q3O q3L q3C wr0 fun v0 _ => v0 = ret) : PureX bs Try.prog fn_spec_QueueOk #[.agg #[.int .i64 q0, .int .i64 q1, .int .i64 q2, .slice q3O q3L q3C]] w ret :=
  pure_of_ev (C := c_spec_QueueOk) (sps := s_spec_QueueOk) (body := bodyOf Try.f32) (env _ _ _) Try.func32 rfl rfl (of_decide_eq_true (by kernel_rfl)) (of_decide_eq_true (by kernel_rfl)) rfl fun wr0 hx0 => by rw [v_spec_QueueOk]; exact hvc wr0 hx0
noncomputable def c_spec_l4Own : Cfg := { P := Try.prog, T := tblGet tbl, pf := pfT, ef := efT, tt := ttT, vis := [], n := 30, pm := false }
noncomputable def s_spec_l4Own : List (Nat × LSpec) := [(3, { chg := [(4, .int .i64)], chgL := [(2, [.int .i64, .int .i64, .int .i64, .slice])], keep := [1, 2, 3] })]
def V_spec_l4Own (q0 : Int) (q1 : Int) (q2 : Int) (q3O : Option Addr) (q3L : Nat) (q3C : Nat) (w : World) (R : Value → World → Prop) : Prop :=
    (∀ b, w.heap.size ≤ b →
    (∀ b1, w.heap.size ≤ b1 →
    (∀ b2, w.heap.size ≤ b2 →
    (∃ (xInv1 : List Value → World → Prop) (mu1 : List Value → World → Nat), (∀ wr2, ExtX [] w wr2 → (∀ bq ∈ ([b, b1, b2] : List Nat), bq < wr2.heap.size) → xInv1 [.int .i64 0, .int .i64 q0, .int .i64 q1, .int .i64 q2, .slice none 0 0] wr2) ∧
    ∀ (i1 : Int) (l : Int) (l1 : Int) (l2 : Int) (l3O : Option Addr) (l3L : Nat) (l3C : Nat) wv2, (∀ bq ∈ ([b, b1, b2] : List Nat), bq < wv2.heap.size) → xInv1 [.int .i64 i1, .int .i64 l, .int .i64 l1, .int .i64 l2, .slice l3O l3L l3C] wv2 →
    ((decide (i1 < ((q3L : Nat) : Int))) = true →
    Ix q3O q3L i1 ∧
    (∃ (x01 : Bool) (x11 : Int) (x21 : Int) (x31 : Int),
    CellsX [b, b1, b2] wv2 q3O (Int.toNat i1 * 4) [.bool x01, .int .i64 x11, .int .i64 x21, .int .i64 x31] ∧
    (∀ b4, wv2.heap.size ≤ b4 →
    (some (ty_impl_Queue, ([.int .i64 l, .int .i64 l1, .int .i64 l2, .slice l3O l3L l3C] : List Value)) = some (ty_impl_Queue, ([.int .i64 l, .int .i64 l1, .int .i64 l2, .slice l3O l3L l3C] : List Value))) ∧
    (∀ wr3, ExtX [b, b1, b2] wv2 wr3 → (∀ bq ∈ ([b, b1, b2, b4] : List Nat), bq < wr3.heap.size) → wr3.heap[b4]? = some (Obj.cells ([.bool x01, .int .i64 x11, .int .i64 x21, .int .i64 x31] : List Value).toArray ty_impl_Entry (0, 0)) → 
    (∃ (ap1O : Option Addr) (ap1L : Nat) (ap1C : Nat),
    ∃ wv3, (builtin .append #[ty_sl_impl_Entry, ty_sl_impl_Entry] ty_sl_impl_Entry #[false, false] #[.slice l3O l3L l3C, .slice (some (Addr.mk b4 0 none)) 1 1]).run Try.prog wr3 = .ok (.value (.slice ap1O ap1L ap1C)) wv3 ∧ Kept [b, b1, b2, b4] wr3 wv3 ∧
    InR .i64 (i1 + 1) ∧
    (∀ wr4, ExtX [b, b1, b2, b4] wv3 wr4 → (∀ bq ∈ ([b, b1, b2, b4] : List Nat), bq < wr4.heap.size) → xInv1 [.int .i64 (i1 + 1), .int .i64 l, .int .i64 l1, .int .i64 l2, .slice ap1O ap1L ap1C] wr4 ∧ mu1 [.int .i64 (i1 + 1), .int .i64 l, .int .i64 l1, .int .i64 l2, .slice ap1O ap1L ap1C] wr4 < mu1 [.int .i64 i1, .int .i64 l, .int .i64 l1, .int .i64 l2, .slice l3O l3L l3C] wv2)))))) ∧
    ((decide (i1 < ((q3L : Nat) : Int))) = false →
    (∀ wr5, ExtX [b, b1, b2] wv2 wr5 → R (.agg #[.int .i64 l, .int .i64 l1, .int .i64 l2, .slice l3O l3L l3C]) wr5))))))
theorem v_spec_l4Own (q0 : Int) (q1 : Int) (q2 : Int) (q3O : Option Addr) (q3L : Nat) (q3C : Nat) (w : World) (R : Value → World → Prop) : evFn c_spec_l4Own s_spec_l4Own [.agg #[.int .i64 q0, .int .i64 q1, .int .i64 q2, .slice q3O q3L q3C]] (bodyOf Try.f57) Try.f57.results.toList w R = V_spec_l4Own q0 q1 q2 q3O q3L q3C w R := by kernel_rfl
theorem e_spec_l4Own (q0 : Int) (q1 : Int) (q2 : Int) (q3O : Option Addr) (q3L : Nat) (q3C : Nat) {w : World} {R : Value → World → Prop} (hvc : V_spec_l4Own q0 q1 q2 q3O q3L q3C w R) : Calls Try.prog fn_spec_l4Own #[.agg #[.int .i64 q0, .int .i64 q1, .int .i64 q2, .slice q3O q3L q3C]] w fun e0 wr0 => ∃ v0, e0 = .returned v0 ∧ R v0 wr0 :=
  eff_of_ev (C := c_spec_l4Own) (sps := s_spec_l4Own) (body := bodyOf Try.f57) (env _ _ _) Try.func57 rfl rfl (of_decide_eq_true (by kernel_rfl)) (of_decide_eq_true (by kernel_rfl)) rfl (by rw [v_spec_l4Own]; exact hvc)
noncomputable def c_spec_l4End : Cfg := { P := Try.prog, T := tblGet tbl, pf := pfT, ef := efT, tt := ttT, vis := [], n := 6, pm := true }
noncomputable def s_spec_l4End : List (Nat × LSpec) := []
def V_spec_l4End (q0 : Int) (q1 : Int) (q2 : Int) (q3O : Option Addr) (q3L : Nat) (q3C : Nat) (w : World) (R : Value → World → Prop) : Prop :=
    (∀ b, w.heap.size ≤ b →
    (∀ b1, w.heap.size ≤ b1 →
    R (.agg #[.int .i64 q0, .int .i64 (-1), .int .i64 0, .slice q3O q3L q3C]) w))
theorem v_spec_l4End (q0 : Int) (q1 : Int) (q2 : Int) (q3O : Option Addr) (q3L : Nat) (q3C : Nat) (w : World) (R : Value → World → Prop) : evFn c_spec_l4End s_spec_l4End [.agg #[.int .i64 q0, .int .i64 q1, .int .i64 q2, .slice q3O q3L q3C]] (bodyOf Try.f60) Try.f60.results.toList w R = V_spec_l4End q0 q1 q2 q3O q3L q3C w R := by kernel_rfl
theorem p_spec_l4End (q0 : Int) (q1 : Int) (q2 : Int) (q3O : Option Addr) (q3L : Nat) (q3C : Nat) {w : World} {bs : List Nat} {ret : Value} (hvc : ∀ wr0, ExtX bs w wr0 → V_spec_l4End q0 q1 q2 q3O q3L q3C wr0 fun v0 _ => v0 = ret) : PureX bs Try.prog fn_spec_l4End #[.agg #[.int .i64 q0, .int .i64 q1, .int .i64 q2, .slice q3O q3L q3C]] w ret :=
  pure_of_ev (C := c_spec_l4End) (sps := s_spec_l4End) (body := bodyOf Try.f60) (env _ _ _) Try.func60 rfl rfl (of_decide_eq_true (by kernel_rfl)) (of_decide_eq_true (by kernel_rfl)) rfl fun wr0 hx0 => by rw [v_spec_l4End]; exact hvc wr0 hx0
noncomputable def c_spec_l1Max : Cfg := { P := Try.prog, T := tblGet tbl, pf := pfT, ef := efT, tt := ttT, vis := [], n := 10, pm := true }
noncomputable def s_spec_l1Max : List (Nat × LSpec) := []
def V_spec_l1Max (a : Int) (b : Int) (w : World) (R : Value → World → Prop) : Prop :=
    ((decide (a > b)) = true →
    R (.int .i64 a) w) ∧
    ((decide (a > b)) = false →
    R (.int .i64 b) w)
theorem v_spec_l1Max (a : Int) (b : Int) (w : World) (R : Value → World → Prop) : evFn c_spec_l1Max s_spec_l1Max [.int .i64 a, .int .i64 b] (bodyOf Try.f78) Try.f78.results.toList w R = V_spec_l1Max a b w R := by kernel_rfl
theorem p_spec_l1Max (a : Int) (b : Int) {w : World} {bs : List Nat} {ret : Value} (hvc : ∀ wr0, ExtX bs w wr0 → V_spec_l1Max a b wr0 fun v0 _ => v0 = ret) : PureX bs Try.prog fn_spec_l1Max #[.int .i64 a, .int .i64 b] w ret :=
  pure_of_ev (C := c_spec_l1Max) (sps := s_spec_l1Max) (body := bodyOf Try.f78) (env _ _ _) Try.func78 rfl rfl (of_decide_eq_true (by kernel_rfl)) (of_decide_eq_true (by kernel_rfl)) rfl fun wr0 hx0 => by rw [v_spec_l1Max]; exact hvc wr0 hx0
noncomputable def c_spec_l1Min : Cfg := { P := Try.prog, T := tblGet tbl, pf := pfT, ef := efT, tt := ttT, vis := [], n := 10, pm := true }
noncomputable def s_spec_l1Min : List (Nat × LSpec) := []
def V_spec_l1Min (a : Int) (b : Int) (w : World) (R : Value → World → Prop) : Prop :=
    ((decide (a < b)) = true →
    R (.int .i64 a) w) ∧
    ((decide (a < b)) = false →
    R (.int .i64 b) w)
theorem v_spec_l1Min (a : Int) (b : Int) (w : World) (R : Value → World → Prop) : evFn c_spec_l1Min s_spec_l1Min [.int .i64 a, .int .i64 b] (bodyOf Try.f91) Try.f91.results.toList w R = V_spec_l1Min a b w R := by kernel_rfl
theorem p_spec_l1Min (a : Int) (b : Int) {w : World} {bs : List Nat} {ret : Value} (hvc : ∀ wr0, ExtX bs w wr0 → V_spec_l1Min a b wr0 fun v0 _ => v0 = ret) : PureX bs Try.prog fn_spec_l1Min #[.int .i64 a, .int .i64 b] w ret :=
  pure_of_ev (C := c_spec_l1Min) (sps := s_spec_l1Min) (body := bodyOf Try.f91) (env _ _ _) Try.func91 rfl rfl (of_decide_eq_true (by kernel_rfl)) (of_decide_eq_true (by kernel_rfl)) rfl fun wr0 hx0 => by rw [v_spec_l1Min]; exact hvc wr0 hx0
noncomputable def c_spec_LagCut : Cfg := { P := Try.prog, T := tblGet tbl, pf := pfT, ef := efT, tt := ttT, vis := [], n := 13, pm := true }
noncomputable def s_spec_LagCut : List (Nat × LSpec) := []
def V_spec_LagCut (lag : Int) (weight : Int) (w : World) (R : Value → World → Prop) : Prop :=
    (∃ (l1Weig : Bool),
    PureX [] Try.prog fn_spec_l1Weight #[.int .i64 weight] w (.bool l1Weig) ∧
    ((!l1Weig) = true →
    R (.int .i64 0) w) ∧
    ((!l1Weig) = false →
    (∃ (l1Max : Int),
    PureX [] Try.prog fn_spec_l1Max #[.int .i64 lag, .int .i64 0] w (.int .i64 l1Max) ∧
    (∃ (xLagMos : Int),
    PureX [] Try.prog fn_spec_LagMost #[.int .i64 weight] w (.int .i64 xLagMos) ∧
    (∃ (l1Min : Int),
    PureX [] Try.prog fn_spec_l1Min #[.int .i64 l1Max, .int .i64 xLagMos] w (.int .i64 l1Min) ∧
    R (.int .i64 l1Min) w)))))
theorem v_spec_LagCut (lag : Int) (weight : Int) (w : World) (R : Value → World → Prop) : evFn c_spec_LagCut s_spec_LagCut [.int .i64 lag, .int .i64 weight] (bodyOf Try.f99) Try.f99.results.toList w R = V_spec_LagCut lag weight w R := by kernel_rfl
theorem p_spec_LagCut (lag : Int) (weight : Int) {w : World} {bs : List Nat} {ret : Value} (hvc : ∀ wr0, ExtX bs w wr0 → V_spec_LagCut lag weight wr0 fun v0 _ => v0 = ret) : PureX bs Try.prog fn_spec_LagCut #[.int .i64 lag, .int .i64 weight] w ret :=
  pure_of_ev (C := c_spec_LagCut) (sps := s_spec_LagCut) (body := bodyOf Try.f99) (env _ _ _) Try.func99 rfl rfl (of_decide_eq_true (by kernel_rfl)) (of_decide_eq_true (by kernel_rfl)) rfl fun wr0 hx0 => by rw [v_spec_LagCut]; exact hvc wr0 hx0
noncomputable def c_spec_l4Join : Cfg := { P := Try.prog, T := tblGet tbl, pf := pfT, ef := efT, tt := ttT, vis := [], n := 39, pm := false }
noncomputable def s_spec_l4Join : List (Nat × LSpec) := []
def V_spec_l4Join (q0 : Int) (q1 : Int) (q2 : Int) (q3O : Option Addr) (q3L : Nat) (q3C : Nat) (atv : Int) (w : World) (R : Value → World → Prop) : Prop :=
    (∀ b, w.heap.size ≤ b →
    (∀ b1, w.heap.size ≤ b1 →
    Ix q3O q3L atv ∧
    (∃ (x0 : Bool) (x1 : Int) (x2 : Int) (x3 : Int),
    CellsX [] w q3O (Int.toNat atv * 4) [.bool x0, .int .i64 x1, .int .i64 x2, .int .i64 x3] ∧
    (∀ b2, w.heap.size ≤ b2 →
    (x0 = true →
    (∀ wr, ExtX [] w wr → R (.tuple #[.agg #[.int .i64 q0, .int .i64 q1, .int .i64 q2, .slice q3O q3L q3C], .bool false]) wr)) ∧
    (x0 = false →
    InR .i64 (x1 - q0) ∧
    (∃ (xLagCut : Int),
    PureX [] Try.prog fn_spec_LagCut #[.int .i64 (x1 - q0), .int .i64 x2] w (.int .i64 xLagCut) ∧
    InR .i64 (q0 + xLagCut) ∧
    ((decide (q0 + xLagCut > 100000000000000000)) = true →
    (∀ wr1, ExtX [] w wr1 → R (.tuple #[.agg #[.int .i64 q0, .int .i64 q1, .int .i64 q2, .slice q3O q3L q3C], .bool false]) wr1)) ∧
    ((decide (q0 + xLagCut > 100000000000000000)) = false →
    Ix q3O q3L atv ∧
    WrX [] w q3O (Int.toNat atv * 4) 4 ∧
    (∃ (l4End : Int) (l4End1 : Int) (l4End2 : Int) (l4End3O : Option Addr) (l4End3L : Nat) (l4End3C : Nat),
    PureX [] Try.prog fn_spec_l4End #[.agg #[.int .i64 q0, .int .i64 q1, .int .i64 q2, .slice q3O q3L q3C]] (sto w q3O (Int.toNat atv * 4) [.bool true, .int .i64 (q0 + xLagCut), .int .i64 x2, .int .i64 x3]) (.agg #[.int .i64 l4End, .int .i64 l4End1, .int .i64 l4End2, .slice l4End3O l4End3L l4End3C]) ∧
    (∀ wr2, ExtX [] (sto w q3O (Int.toNat atv * 4) [.bool true, .int .i64 (q0 + xLagCut), .int .i64 x2, .int .i64 x3]) wr2 → R (.tuple #[.agg #[.int .i64 l4End, .int .i64 l4End1, .int .i64 l4End2, .slice l4End3O l4End3L l4End3C], .bool true]) wr2)))))))))
theorem v_spec_l4Join (q0 : Int) (q1 : Int) (q2 : Int) (q3O : Option Addr) (q3L : Nat) (q3C : Nat) (atv : Int) (w : World) (R : Value → World → Prop) : evFn c_spec_l4Join s_spec_l4Join [.agg #[.int .i64 q0, .int .i64 q1, .int .i64 q2, .slice q3O q3L q3C], .int .i64 atv] (bodyOf Try.f59) Try.f59.results.toList w R = V_spec_l4Join q0 q1 q2 q3O q3L q3C atv w R := by kernel_rfl
theorem e_spec_l4Join (q0 : Int) (q1 : Int) (q2 : Int) (q3O : Option Addr) (q3L : Nat) (q3C : Nat) (atv : Int) {w : World} {R : Value → World → Prop} (hvc : V_spec_l4Join q0 q1 q2 q3O q3L q3C atv w R) : Calls Try.prog fn_spec_l4Join #[.agg #[.int .i64 q0, .int .i64 q1, .int .i64 q2, .slice q3O q3L q3C], .int .i64 atv] w fun e0 wr0 => ∃ v0, e0 = .returned v0 ∧ R v0 wr0 :=
  eff_of_ev (C := c_spec_l4Join) (sps := s_spec_l4Join) (body := bodyOf Try.f59) (env _ _ _) Try.func59 rfl rfl (of_decide_eq_true (by kernel_rfl)) (of_decide_eq_true (by kernel_rfl)) rfl (by rw [v_spec_l4Join]; exact hvc)
noncomputable def c_spec_l4Least : Cfg := { P := Try.prog, T := tblGet tbl, pf := pfT, ef := efT, tt := ttT, vis := [], n := 39, pm := true }
noncomputable def s_spec_l4Least : List (Nat × LSpec) := [(3, { chg := [(3, .int .i64), (4, .int .i64)], chgL := [], keep := [1] })]
def V_spec_l4Least (q0 : Int) (q1 : Int) (q2 : Int) (q3O : Option Addr) (q3L : Nat) (q3C : Nat) (w : World) (R : Value → World → Prop) : Prop :=
    (∀ b, w.heap.size ≤ b →
    (∃ (xInv : List Value → Prop) (mu : List Value → Nat), xInv [.int .i64 (-1), .int .i64 0] ∧
    ∀ (best : Int) (i : Int), xInv [.int .i64 best, .int .i64 i] →
    ((decide (i < ((q3L : Nat) : Int))) = true →
    Ix q3O q3L i ∧
    (∃ (onv : Bool),
    CellsX [] w q3O (Int.toNat i * 4 + 0) [.bool onv] ∧
    ((decide (best < 0)) = false → (onv = true → Ix q3O q3L i)) ∧
    (∃ (v : Int),
    ((decide (best < 0)) = false → (onv = true → CellsX [] w q3O (Int.toNat i * 4 + 1) [.int .i64 v])) ∧
    ((decide (best < 0)) = false → (onv = true → Ix q3O q3L best)) ∧
    (∃ (v1 : Int),
    ((decide (best < 0)) = false → (onv = true → CellsX [] w q3O (Int.toNat best * 4 + 1) [.int .i64 v1])) ∧
    ((onv && ((decide (best < 0)) || (decide (v < v1)))) = true →
    InR .i64 (i + 1) ∧
    xInv [.int .i64 i, .int .i64 (i + 1)] ∧ mu [.int .i64 i, .int .i64 (i + 1)] < mu [.int .i64 best, .int .i64 i]) ∧
    ((onv && ((decide (best < 0)) || (decide (v < v1)))) = false →
    InR .i64 (i + 1) ∧
    xInv [.int .i64 best, .int .i64 (i + 1)] ∧ mu [.int .i64 best, .int .i64 (i + 1)] < mu [.int .i64 best, .int .i64 i]))))) ∧
    ((decide (i < ((q3L : Nat) : Int))) = false →
    R (.int .i64 best) w)))
theorem v_spec_l4Least (q0 : Int) (q1 : Int) (q2 : Int) (q3O : Option Addr) (q3L : Nat) (q3C : Nat) (w : World) (R : Value → World → Prop) : evFn c_spec_l4Least s_spec_l4Least [.agg #[.int .i64 q0, .int .i64 q1, .int .i64 q2, .slice q3O q3L q3C]] (bodyOf Try.f102) Try.f102.results.toList w R = V_spec_l4Least q0 q1 q2 q3O q3L q3C w R := by kernel_rfl
theorem p_spec_l4Least (q0 : Int) (q1 : Int) (q2 : Int) (q3O : Option Addr) (q3L : Nat) (q3C : Nat) {w : World} {bs : List Nat} {ret : Value} (hvc : ∀ wr0, ExtX bs w wr0 → V_spec_l4Least q0 q1 q2 q3O q3L q3C wr0 fun v0 _ => v0 = ret) : PureX bs Try.prog fn_spec_l4Least #[.agg #[.int .i64 q0, .int .i64 q1, .int .i64 q2, .slice q3O q3L q3C]] w ret :=
  pure_of_ev (C := c_spec_l4Least) (sps := s_spec_l4Least) (body := bodyOf Try.f102) (env _ _ _) Try.func102 rfl rfl (of_decide_eq_true (by kernel_rfl)) (of_decide_eq_true (by kernel_rfl)) rfl fun wr0 hx0 => by rw [v_spec_l4Least]; exact hvc wr0 hx0
noncomputable def c_spec_QueuePick : Cfg := { P := Try.prog, T := tblGet tbl, pf := pfT, ef := efT, tt := ttT, vis := [], n := 18, pm := true }
noncomputable def s_spec_QueuePick : List (Nat × LSpec) := []
def V_spec_QueuePick (q0 : Int) (q1 : Int) (q2 : Int) (q3O : Option Addr) (q3L : Nat) (q3C : Nat) (w : World) (R : Value → World → Prop) : Prop :=
    (∀ b, w.heap.size ≤ b →
    (∃ (xQueueO : Bool),
    PureX [] Try.prog fn_spec_QueueOk #[.agg #[.int .i64 q0, .int .i64 q1, .int .i64 q2, .slice q3O q3L q3C]] w (.bool xQueueO) ∧
    ((!xQueueO) = true →
    R (.int .i64 (-1)) w) ∧
    ((!xQueueO) = false →
    (((decide (q1 ≥ 0)) && (decide (q2 < 50))) = true →
    R (.int .i64 q1) w) ∧
    (((decide (q1 ≥ 0)) && (decide (q2 < 50))) = false →
    (∃ (l4Leas : Int),
    PureX [] Try.prog fn_spec_l4Least #[.agg #[.int .i64 q0, .int .i64 q1, .int .i64 q2, .slice q3O q3L q3C]] w (.int .i64 l4Leas) ∧
    R (.int .i64 l4Leas) w)))))
theorem v_spec_QueuePick (q0 : Int) (q1 : Int) (q2 : Int) (q3O : Option Addr) (q3L : Nat) (q3C : Nat) (w : World) (R : Value → World → Prop) : evFn c_spec_QueuePick s_spec_QueuePick [.agg #[.int .i64 q0, .int .i64 q1, .int .i64 q2, .slice q3O q3L q3C]] (bodyOf Try.f100) Try.f100.results.toList w R = V_spec_QueuePick q0 q1 q2 q3O q3L q3C w R := by kernel_rfl
theorem p_spec_QueuePick (q0 : Int) (q1 : Int) (q2 : Int) (q3O : Option Addr) (q3L : Nat) (q3C : Nat) {w : World} {bs : List Nat} {ret : Value} (hvc : ∀ wr0, ExtX bs w wr0 → V_spec_QueuePick q0 q1 q2 q3O q3L q3C wr0 fun v0 _ => v0 = ret) : PureX bs Try.prog fn_spec_QueuePick #[.agg #[.int .i64 q0, .int .i64 q1, .int .i64 q2, .slice q3O q3L q3C]] w ret :=
  pure_of_ev (C := c_spec_QueuePick) (sps := s_spec_QueuePick) (body := bodyOf Try.f100) (env _ _ _) Try.func100 rfl rfl (of_decide_eq_true (by kernel_rfl)) (of_decide_eq_true (by kernel_rfl)) rfl fun wr0 hx0 => by rw [v_spec_QueuePick]; exact hvc wr0 hx0
noncomputable def c_spec_l4Run : Cfg := { P := Try.prog, T := tblGet tbl, pf := pfT, ef := efT, tt := ttT, vis := [], n := 70, pm := false }
noncomputable def s_spec_l4Run : List (Nat × LSpec) := []
def V_spec_l4Run (q0 : Int) (q1 : Int) (q2 : Int) (q3O : Option Addr) (q3L : Nat) (q3C : Nat) (n : Int) (w : World) (R : Value → World → Prop) : Prop :=
    (∀ b, w.heap.size ≤ b →
    (∀ b1, w.heap.size ≤ b1 →
    (∃ (xQueueP : Int),
    PureX [] Try.prog fn_spec_QueuePick #[.agg #[.int .i64 q0, .int .i64 q1, .int .i64 q2, .slice q3O q3L q3C]] w (.int .i64 xQueueP) ∧
    (∃ (l1In : Bool),
    ((decide (xQueueP < 0)) = false → PureX [] Try.prog fn_spec_l1In #[.int .i64 n, .int .i64 1, .int .i64 100] w (.bool l1In)) ∧
    (((decide (xQueueP < 0)) || (!l1In)) = true →
    (∀ wr, ExtX [] w wr → R (.tuple #[.agg #[.int .i64 q0, .int .i64 q1, .int .i64 q2, .slice q3O q3L q3C], .bool false]) wr)) ∧
    (((decide (xQueueP < 0)) || (!l1In)) = false →
    Ix q3O q3L xQueueP ∧
    (∃ (x0 : Bool) (x1 : Int) (x2 : Int) (x3 : Int),
    CellsX [] w q3O (Int.toNat xQueueP * 4) [.bool x0, .int .i64 x1, .int .i64 x2, .int .i64 x3] ∧
    (∀ b2, w.heap.size ≤ b2 →
    (∃ (xVirtua : Int),
    PureX [] Try.prog fn_spec_VirtualStep #[.int .i64 n, .int .i64 x2] w (.int .i64 xVirtua) ∧
    InR .i64 (x1 + xVirtua) ∧
    InR .i64 (x3 + n) ∧
    (∃ (l4Time : Bool),
    PureX [] Try.prog fn_spec_l4Time #[.int .i64 (x1 + xVirtua)] w (.bool l4Time) ∧
    (∃ (l4Time1 : Bool),
    ((!l4Time) = false → PureX [] Try.prog fn_spec_l4Time #[.int .i64 (x3 + n)] w (.bool l4Time1)) ∧
    (((!l4Time) || (!l4Time1)) = true →
    (∀ wr1, ExtX [] w wr1 → R (.tuple #[.agg #[.int .i64 q0, .int .i64 q1, .int .i64 q2, .slice q3O q3L q3C], .bool false]) wr1)) ∧
    (((!l4Time) || (!l4Time1)) = false →
    (((xQueueP != q1) || (decide (q2 ≥ 50))) = true →
    InR .i64 (0 + n) ∧
    Ix q3O q3L xQueueP ∧
    WrX [] w q3O (Int.toNat xQueueP * 4) 4 ∧
    (∀ wr2, ExtX [] (sto w q3O (Int.toNat xQueueP * 4) [.bool x0, .int .i64 (x1 + xVirtua), .int .i64 x2, .int .i64 (x3 + n)]) wr2 → R (.tuple #[.agg #[.int .i64 q0, .int .i64 xQueueP, .int .i64 (0 + n), .slice q3O q3L q3C], .bool true]) wr2)) ∧
    (((xQueueP != q1) || (decide (q2 ≥ 50))) = false →
    InR .i64 (q2 + n) ∧
    Ix q3O q3L xQueueP ∧
    WrX [] w q3O (Int.toNat xQueueP * 4) 4 ∧
    (∀ wr3, ExtX [] (sto w q3O (Int.toNat xQueueP * 4) [.bool x0, .int .i64 (x1 + xVirtua), .int .i64 x2, .int .i64 (x3 + n)]) wr3 → R (.tuple #[.agg #[.int .i64 q0, .int .i64 xQueueP, .int .i64 (q2 + n), .slice q3O q3L q3C], .bool true]) wr3)))))))))))))
theorem v_spec_l4Run (q0 : Int) (q1 : Int) (q2 : Int) (q3O : Option Addr) (q3L : Nat) (q3C : Nat) (n : Int) (w : World) (R : Value → World → Prop) : evFn c_spec_l4Run s_spec_l4Run [.agg #[.int .i64 q0, .int .i64 q1, .int .i64 q2, .slice q3O q3L q3C], .int .i64 n] (bodyOf Try.f61) Try.f61.results.toList w R = V_spec_l4Run q0 q1 q2 q3O q3L q3C n w R := by kernel_rfl
theorem e_spec_l4Run (q0 : Int) (q1 : Int) (q2 : Int) (q3O : Option Addr) (q3L : Nat) (q3C : Nat) (n : Int) {w : World} {R : Value → World → Prop} (hvc : V_spec_l4Run q0 q1 q2 q3O q3L q3C n w R) : Calls Try.prog fn_spec_l4Run #[.agg #[.int .i64 q0, .int .i64 q1, .int .i64 q2, .slice q3O q3L q3C], .int .i64 n] w fun e0 wr0 => ∃ v0, e0 = .returned v0 ∧ R v0 wr0 :=
  eff_of_ev (C := c_spec_l4Run) (sps := s_spec_l4Run) (body := bodyOf Try.f61) (env _ _ _) Try.func61 rfl rfl (of_decide_eq_true (by kernel_rfl)) (of_decide_eq_true (by kernel_rfl)) rfl (by rw [v_spec_l4Run]; exact hvc)
noncomputable def c_spec_l4Weigh : Cfg := { P := Try.prog, T := tblGet tbl, pf := pfT, ef := efT, tt := ttT, vis := [], n := 49, pm := false }
noncomputable def s_spec_l4Weigh : List (Nat × LSpec) := []
def V_spec_l4Weigh (q0 : Int) (q1 : Int) (q2 : Int) (q3O : Option Addr) (q3L : Nat) (q3C : Nat) (atv : Int) (wv : Int) (w : World) (R : Value → World → Prop) : Prop :=
    (∀ b, w.heap.size ≤ b →
    (∀ b1, w.heap.size ≤ b1 →
    (∃ (l1Weig : Bool),
    PureX [] Try.prog fn_spec_l1Weight #[.int .i64 wv] w (.bool l1Weig) ∧
    ((!l1Weig) = true →
    (∀ wr, ExtX [] w wr → R (.tuple #[.agg #[.int .i64 q0, .int .i64 q1, .int .i64 q2, .slice q3O q3L q3C], .bool false]) wr)) ∧
    ((!l1Weig) = false →
    Ix q3O q3L atv ∧
    (∃ (x0 : Bool) (x1 : Int) (x2 : Int) (x3 : Int),
    CellsX [] w q3O (Int.toNat atv * 4) [.bool x0, .int .i64 x1, .int .i64 x2, .int .i64 x3] ∧
    (∀ b2, w.heap.size ≤ b2 →
    (x0 = true →
    InR .i64 (x1 - q0) ∧
    (∃ (xLagCut : Int),
    PureX [] Try.prog fn_spec_LagCut #[.int .i64 (x1 - q0), .int .i64 wv] w (.int .i64 xLagCut) ∧
    InR .i64 (q0 + xLagCut) ∧
    ((decide (q0 + xLagCut > 100000000000000000)) = true →
    (∀ wr1, ExtX [] w wr1 → R (.tuple #[.agg #[.int .i64 q0, .int .i64 q1, .int .i64 q2, .slice q3O q3L q3C], .bool false]) wr1)) ∧
    ((decide (q0 + xLagCut > 100000000000000000)) = false →
    Ix q3O q3L atv ∧
    WrX [] w q3O (Int.toNat atv * 4) 4 ∧
    ((q1 == atv) = true →
    (∃ (l4End : Int) (l4End1 : Int) (l4End2 : Int) (l4End3O : Option Addr) (l4End3L : Nat) (l4End3C : Nat),
    PureX [] Try.prog fn_spec_l4End #[.agg #[.int .i64 q0, .int .i64 q1, .int .i64 q2, .slice q3O q3L q3C]] (sto w q3O (Int.toNat atv * 4) [.bool x0, .int .i64 (q0 + xLagCut), .int .i64 wv, .int .i64 x3]) (.agg #[.int .i64 l4End, .int .i64 l4End1, .int .i64 l4End2, .slice l4End3O l4End3L l4End3C]) ∧
    (∀ wr2, ExtX [] (sto w q3O (Int.toNat atv * 4) [.bool x0, .int .i64 (q0 + xLagCut), .int .i64 wv, .int .i64 x3]) wr2 → R (.tuple #[.agg #[.int .i64 l4End, .int .i64 l4End1, .int .i64 l4End2, .slice l4End3O l4End3L l4End3C], .bool true]) wr2))) ∧
    ((q1 == atv) = false →
    (∀ wr3, ExtX [] (sto w q3O (Int.toNat atv * 4) [.bool x0, .int .i64 (q0 + xLagCut), .int .i64 wv, .int .i64 x3]) wr3 → R (.tuple #[.agg #[.int .i64 q0, .int .i64 q1, .int .i64 q2, .slice q3O q3L q3C], .bool true]) wr3))))) ∧
    (x0 = false →
    ((decide (x1 > 100000000000000000)) = true →
    (∀ wr4, ExtX [] w wr4 → R (.tuple #[.agg #[.int .i64 q0, .int .i64 q1, .int .i64 q2, .slice q3O q3L q3C], .bool false]) wr4)) ∧
    ((decide (x1 > 100000000000000000)) = false →
    Ix q3O q3L atv ∧
    WrX [] w q3O (Int.toNat atv * 4) 4 ∧
    ((q1 == atv) = true →
    (∃ (l4End4 : Int) (l4End5 : Int) (l4End6 : Int) (l4End7O : Option Addr) (l4End7L : Nat) (l4End7C : Nat),
    PureX [] Try.prog fn_spec_l4End #[.agg #[.int .i64 q0, .int .i64 q1, .int .i64 q2, .slice q3O q3L q3C]] (sto w q3O (Int.toNat atv * 4) [.bool x0, .int .i64 x1, .int .i64 wv, .int .i64 x3]) (.agg #[.int .i64 l4End4, .int .i64 l4End5, .int .i64 l4End6, .slice l4End7O l4End7L l4End7C]) ∧
    (∀ wr5, ExtX [] (sto w q3O (Int.toNat atv * 4) [.bool x0, .int .i64 x1, .int .i64 wv, .int .i64 x3]) wr5 → R (.tuple #[.agg #[.int .i64 l4End4, .int .i64 l4End5, .int .i64 l4End6, .slice l4End7O l4End7L l4End7C], .bool true]) wr5))) ∧
    ((q1 == atv) = false →
    (∀ wr6, ExtX [] (sto w q3O (Int.toNat atv * 4) [.bool x0, .int .i64 x1, .int .i64 wv, .int .i64 x3]) wr6 → R (.tuple #[.agg #[.int .i64 q0, .int .i64 q1, .int .i64 q2, .slice q3O q3L q3C], .bool true]) wr6))))))))))
theorem v_spec_l4Weigh (q0 : Int) (q1 : Int) (q2 : Int) (q3O : Option Addr) (q3L : Nat) (q3C : Nat) (atv : Int) (wv : Int) (w : World) (R : Value → World → Prop) : evFn c_spec_l4Weigh s_spec_l4Weigh [.agg #[.int .i64 q0, .int .i64 q1, .int .i64 q2, .slice q3O q3L q3C], .int .i64 atv, .int .i64 wv] (bodyOf Try.f62) Try.f62.results.toList w R = V_spec_l4Weigh q0 q1 q2 q3O q3L q3C atv wv w R := by kernel_rfl
theorem e_spec_l4Weigh (q0 : Int) (q1 : Int) (q2 : Int) (q3O : Option Addr) (q3L : Nat) (q3C : Nat) (atv : Int) (wv : Int) {w : World} {R : Value → World → Prop} (hvc : V_spec_l4Weigh q0 q1 q2 q3O q3L q3C atv wv w R) : Calls Try.prog fn_spec_l4Weigh #[.agg #[.int .i64 q0, .int .i64 q1, .int .i64 q2, .slice q3O q3L q3C], .int .i64 atv, .int .i64 wv] w fun e0 wr0 => ∃ v0, e0 = .returned v0 ∧ R v0 wr0 :=
  eff_of_ev (C := c_spec_l4Weigh) (sps := s_spec_l4Weigh) (body := bodyOf Try.f62) (env _ _ _) Try.func62 rfl rfl (of_decide_eq_true (by kernel_rfl)) (of_decide_eq_true (by kernel_rfl)) rfl (by rw [v_spec_l4Weigh]; exact hvc)
noncomputable def c_spec_l4Rise : Cfg := { P := Try.prog, T := tblGet tbl, pf := pfT, ef := efT, tt := ttT, vis := [], n := 19, pm := true }
noncomputable def s_spec_l4Rise : List (Nat × LSpec) := []
def V_spec_l4Rise (q0 : Int) (q1 : Int) (q2 : Int) (q3O : Option Addr) (q3L : Nat) (q3C : Nat) (w : World) (R : Value → World → Prop) : Prop :=
    (∀ b, w.heap.size ≤ b →
    (∀ b1, w.heap.size ≤ b1 →
    (∃ (l4Leas : Int),
    PureX [] Try.prog fn_spec_l4Least #[.agg #[.int .i64 q0, .int .i64 q1, .int .i64 q2, .slice q3O q3L q3C]] w (.int .i64 l4Leas) ∧
    ((decide (l4Leas ≥ 0)) = true →
    Ix q3O q3L l4Leas ∧
    (∃ (v : Int),
    CellsX [] w q3O (Int.toNat l4Leas * 4 + 1) [.int .i64 v] ∧
    (∃ (l1Max : Int),
    PureX [] Try.prog fn_spec_l1Max #[.int .i64 q0, .int .i64 v] w (.int .i64 l1Max) ∧
    R (.agg #[.int .i64 l1Max, .int .i64 q1, .int .i64 q2, .slice q3O q3L q3C]) w))) ∧
    ((decide (l4Leas ≥ 0)) = false →
    R (.agg #[.int .i64 q0, .int .i64 q1, .int .i64 q2, .slice q3O q3L q3C]) w))))
theorem v_spec_l4Rise (q0 : Int) (q1 : Int) (q2 : Int) (q3O : Option Addr) (q3L : Nat) (q3C : Nat) (w : World) (R : Value → World → Prop) : evFn c_spec_l4Rise s_spec_l4Rise [.agg #[.int .i64 q0, .int .i64 q1, .int .i64 q2, .slice q3O q3L q3C]] (bodyOf Try.f63) Try.f63.results.toList w R = V_spec_l4Rise q0 q1 q2 q3O q3L q3C w R := by kernel_rfl
theorem p_spec_l4Rise (q0 : Int) (q1 : Int) (q2 : Int) (q3O : Option Addr) (q3L : Nat) (q3C : Nat) {w : World} {bs : List Nat} {ret : Value} (hvc : ∀ wr0, ExtX bs w wr0 → V_spec_l4Rise q0 q1 q2 q3O q3L q3C wr0 fun v0 _ => v0 = ret) : PureX bs Try.prog fn_spec_l4Rise #[.agg #[.int .i64 q0, .int .i64 q1, .int .i64 q2, .slice q3O q3L q3C]] w ret :=
  pure_of_ev (C := c_spec_l4Rise) (sps := s_spec_l4Rise) (body := bodyOf Try.f63) (env _ _ _) Try.func63 rfl rfl (of_decide_eq_true (by kernel_rfl)) (of_decide_eq_true (by kernel_rfl)) rfl fun wr0 hx0 => by rw [v_spec_l4Rise]; exact hvc wr0 hx0
noncomputable def c_spec_QueueDo : Cfg := { P := Try.prog, T := tblGet tbl, pf := pfT, ef := efT, tt := ttT, vis := [], n := 91, pm := false }
noncomputable def s_spec_QueueDo : List (Nat × LSpec) := [(1000025, { chg := [(8, .bool)], chgL := [(0, [.int .i64, .int .i64, .int .i64, .slice])], keep := [2, 4, 6] })]
def V_spec_QueueDo (q0 : Int) (q1 : Int) (q2 : Int) (q3O : Option Addr) (q3L : Nat) (q3C : Nat) (op0 : Int) (op1 : Int) (op2 : Int) (w : World) (R : Value → World → Prop) : Prop :=
    (∀ b, w.heap.size ≤ b →
    (∀ b1, w.heap.size ≤ b1 →
    (∀ b2, w.heap.size ≤ b2 →
    (∃ (xQueueO : Bool),
    PureX [] Try.prog fn_spec_QueueOk #[.agg #[.int .i64 q0, .int .i64 q1, .int .i64 q2, .slice q3O q3L q3C]] w (.bool xQueueO) ∧
    ((!xQueueO) = true →
    (∀ wr, ExtX [] w wr → R (.tuple #[.agg #[.int .i64 0, .int .i64 0, .int .i64 0, .slice none 0 0], .bool false]) wr)) ∧
    ((!xQueueO) = false →
    (∀ wr1, ExtX [] w wr1 → (∀ bq ∈ ([b, b1, b2] : List Nat), bq < wr1.heap.size) → 
    Calls Try.prog fn_spec_l4Own #[.agg #[.int .i64 q0, .int .i64 q1, .int .i64 q2, .slice q3O q3L q3C]] wr1 fun e wv =>
    (∃ (l4Own : Int) (l4Own1 : Int) (l4Own2 : Int) (l4Own3O : Option Addr) (l4Own3L : Nat) (l4Own3C : Nat),
    e = .returned (.agg #[.int .i64 l4Own, .int .i64 l4Own1, .int .i64 l4Own2, .slice l4Own3O l4Own3L l4Own3C]) ∧ Kept [b, b1, b2] wr1 wv ∧
    (∀ b3, wv.heap.size ≤ b3 →
    (∀ wr2, ExtX [b, b1, b2] wv wr2 → (∀ bq ∈ ([b, b1, b2, b3] : List Nat), bq < wr2.heap.size) → 
    Calls Try.prog fn_spec_l4Own #[.agg #[.int .i64 q0, .int .i64 q1, .int .i64 q2, .slice q3O q3L q3C]] wr2 fun e1 wv1 =>
    (∃ (l4Own4 : Int) (l4Own5 : Int) (l4Own6 : Int) (l4Own7O : Option Addr) (l4Own7L : Nat) (l4Own7C : Nat),
    e1 = .returned (.agg #[.int .i64 l4Own4, .int .i64 l4Own5, .int .i64 l4Own6, .slice l4Own7O l4Own7L l4Own7C]) ∧ Kept [b, b1, b2, b3] wr2 wv1 ∧
    InR .i64 (((l4Own7L : Nat) : Int) - 1) ∧
    (∃ (l1In : Bool),
    PureX [b, b1, b2, b3] Try.prog fn_spec_l1In #[.int .i64 op1, .int .i64 0, .int .i64 (((l4Own7L : Nat) : Int) - 1)] wv1 (.bool l1In) ∧
    (∃ (Mid : List Value → List Nat → World → Prop),
    (((op0 == 1) = true →
    (l1In = true →
    (∀ wr3, ExtX [b, b1, b2, b3] wv1 wr3 → (∀ bq ∈ ([b, b1, b2, b3] : List Nat), bq < wr3.heap.size) → 
    Calls Try.prog fn_spec_l4Join #[.agg #[.int .i64 l4Own4, .int .i64 l4Own5, .int .i64 l4Own6, .slice l4Own7O l4Own7L l4Own7C], .int .i64 op1] wr3 fun e2 wv2 =>
    (∃ (l4Join : Int) (l4Join1 : Int) (l4Join2 : Int) (l4Join3O : Option Addr) (l4Join3L : Nat) (l4Join3C : Nat) (l4Join4 : Bool),
    e2 = .returned (.tuple #[.agg #[.int .i64 l4Join, .int .i64 l4Join1, .int .i64 l4Join2, .slice l4Join3O l4Join3L l4Join3C], .bool l4Join4]) ∧ Kept [b, b1, b2, b3] wr3 wv2 ∧
    (∀ wr4, ExtX [b, b1, b2, b3] wv2 wr4 → (∀ bq ∈ ([b, b1, b2, b3] : List Nat), bq < wr4.heap.size) → Mid [.bool l4Join4, .int .i64 l4Join, .int .i64 l4Join1, .int .i64 l4Join2, .slice l4Join3O l4Join3L l4Join3C] [] wr4)))) ∧
    (l1In = false →
    (∀ wr5, ExtX [b, b1, b2, b3] wv1 wr5 → (∀ bq ∈ ([b, b1, b2, b3] : List Nat), bq < wr5.heap.size) → Mid [.bool false, .int .i64 l4Own4, .int .i64 l4Own5, .int .i64 l4Own6, .slice l4Own7O l4Own7L l4Own7C] [] wr5))) ∧
    ((op0 == 1) = false →
    ((op0 == 2) = true →
    (l1In = true → Ix l4Own7O l4Own7L op1) ∧
    (∃ (onv : Bool),
    (l1In = true → CellsX [b, b1, b2, b3] wv1 l4Own7O (Int.toNat op1 * 4 + 0) [.bool onv]) ∧
    ((l1In && onv) = true →
    Ix l4Own7O l4Own7L op1 ∧
    WrX [b, b1, b2, b3] wv1 l4Own7O (Int.toNat op1 * 4 + 0) 1 ∧
    ((l4Own5 == op1) = true →
    (∃ (l4End : Int) (l4End1 : Int) (l4End2 : Int) (l4End3O : Option Addr) (l4End3L : Nat) (l4End3C : Nat),
    PureX [b, b1, b2, b3] Try.prog fn_spec_l4End #[.agg #[.int .i64 l4Own4, .int .i64 l4Own5, .int .i64 l4Own6, .slice l4Own7O l4Own7L l4Own7C]] (sto wv1 l4Own7O (Int.toNat op1 * 4 + 0) [.bool false]) (.agg #[.int .i64 l4End, .int .i64 l4End1, .int .i64 l4End2, .slice l4End3O l4End3L l4End3C]) ∧
    (∀ wr6, ExtX [b, b1, b2, b3] (sto wv1 l4Own7O (Int.toNat op1 * 4 + 0) [.bool false]) wr6 → (∀ bq ∈ ([b, b1, b2, b3] : List Nat), bq < wr6.heap.size) → Mid [.bool true, .int .i64 l4End, .int .i64 l4End1, .int .i64 l4End2, .slice l4End3O l4End3L l4End3C] [] wr6))) ∧
    ((l4Own5 == op1) = false →
    (∀ wr7, ExtX [b, b1, b2, b3] (sto wv1 l4Own7O (Int.toNat op1 * 4 + 0) [.bool false]) wr7 → (∀ bq ∈ ([b, b1, b2, b3] : List Nat), bq < wr7.heap.size) → Mid [.bool true, .int .i64 l4Own4, .int .i64 l4Own5, .int .i64 l4Own6, .slice l4Own7O l4Own7L l4Own7C] [] wr7))) ∧
    ((l1In && onv) = false →
    (∀ wr8, ExtX [b, b1, b2, b3] wv1 wr8 → (∀ bq ∈ ([b, b1, b2, b3] : List Nat), bq < wr8.heap.size) → Mid [.bool false, .int .i64 l4Own4, .int .i64 l4Own5, .int .i64 l4Own6, .slice l4Own7O l4Own7L l4Own7C] [] wr8)))) ∧
    ((op0 == 2) = false →
    ((op0 == 3) = true →
    (∀ wr9, ExtX [b, b1, b2, b3] wv1 wr9 → (∀ bq ∈ ([b, b1, b2, b3] : List Nat), bq < wr9.heap.size) → 
    Calls Try.prog fn_spec_l4Run #[.agg #[.int .i64 l4Own4, .int .i64 l4Own5, .int .i64 l4Own6, .slice l4Own7O l4Own7L l4Own7C], .int .i64 op2] wr9 fun e3 wv3 =>
    (∃ (l4Run : Int) (l4Run1 : Int) (l4Run2 : Int) (l4Run3O : Option Addr) (l4Run3L : Nat) (l4Run3C : Nat) (l4Run4 : Bool),
    e3 = .returned (.tuple #[.agg #[.int .i64 l4Run, .int .i64 l4Run1, .int .i64 l4Run2, .slice l4Run3O l4Run3L l4Run3C], .bool l4Run4]) ∧ Kept [b, b1, b2, b3] wr9 wv3 ∧
    (∀ wr10, ExtX [b, b1, b2, b3] wv3 wr10 → (∀ bq ∈ ([b, b1, b2, b3] : List Nat), bq < wr10.heap.size) → Mid [.bool l4Run4, .int .i64 l4Run, .int .i64 l4Run1, .int .i64 l4Run2, .slice l4Run3O l4Run3L l4Run3C] [] wr10)))) ∧
    ((op0 == 3) = false →
    ((op0 == 4) = true →
    (l1In = true →
    (∀ wr11, ExtX [b, b1, b2, b3] wv1 wr11 → (∀ bq ∈ ([b, b1, b2, b3] : List Nat), bq < wr11.heap.size) → 
    Calls Try.prog fn_spec_l4Weigh #[.agg #[.int .i64 l4Own4, .int .i64 l4Own5, .int .i64 l4Own6, .slice l4Own7O l4Own7L l4Own7C], .int .i64 op1, .int .i64 op2] wr11 fun e4 wv4 =>
    (∃ (l4Weig : Int) (l4Weig1 : Int) (l4Weig2 : Int) (l4Weig3O : Option Addr) (l4Weig3L : Nat) (l4Weig3C : Nat) (l4Weig4 : Bool),
    e4 = .returned (.tuple #[.agg #[.int .i64 l4Weig, .int .i64 l4Weig1, .int .i64 l4Weig2, .slice l4Weig3O l4Weig3L l4Weig3C], .bool l4Weig4]) ∧ Kept [b, b1, b2, b3] wr11 wv4 ∧
    (∀ wr12, ExtX [b, b1, b2, b3] wv4 wr12 → (∀ bq ∈ ([b, b1, b2, b3] : List Nat), bq < wr12.heap.size) → Mid [.bool l4Weig4, .int .i64 l4Weig, .int .i64 l4Weig1, .int .i64 l4Weig2, .slice l4Weig3O l4Weig3L l4Weig3C] [] wr12)))) ∧
    (l1In = false →
    (∀ wr13, ExtX [b, b1, b2, b3] wv1 wr13 → (∀ bq ∈ ([b, b1, b2, b3] : List Nat), bq < wr13.heap.size) → Mid [.bool false, .int .i64 l4Own4, .int .i64 l4Own5, .int .i64 l4Own6, .slice l4Own7O l4Own7L l4Own7C] [] wr13))) ∧
    ((op0 == 4) = false →
    ((op0 == 5) = true →
    (∃ (l4End4 : Int) (l4End5 : Int) (l4End6 : Int) (l4End7O : Option Addr) (l4End7L : Nat) (l4End7C : Nat),
    PureX [b, b1, b2, b3] Try.prog fn_spec_l4End #[.agg #[.int .i64 l4Own4, .int .i64 l4Own5, .int .i64 l4Own6, .slice l4Own7O l4Own7L l4Own7C]] wv1 (.agg #[.int .i64 l4End4, .int .i64 l4End5, .int .i64 l4End6, .slice l4End7O l4End7L l4End7C]) ∧
    (∀ wr14, ExtX [b, b1, b2, b3] wv1 wr14 → (∀ bq ∈ ([b, b1, b2, b3] : List Nat), bq < wr14.heap.size) → Mid [.bool true, .int .i64 l4End4, .int .i64 l4End5, .int .i64 l4End6, .slice l4End7O l4End7L l4End7C] [] wr14))) ∧
    ((op0 == 5) = false →
    (∀ wr15, ExtX [b, b1, b2, b3] wv1 wr15 → (∀ bq ∈ ([b, b1, b2, b3] : List Nat), bq < wr15.heap.size) → Mid [.bool false, .int .i64 l4Own4, .int .i64 l4Own5, .int .i64 l4Own6, .slice l4Own7O l4Own7L l4Own7C] [] wr15))))))) ∧
    (∀ (ok : Bool) (l : Int) (l1 : Int) (l2 : Int) (l3O : Option Addr) (l3L : Nat) (l3C : Nat) (wv5 : World), (∀ bq ∈ ([b, b1, b2, b3] : List Nat), bq < wv5.heap.size) → Mid [.bool ok, .int .i64 l, .int .i64 l1, .int .i64 l2, .slice l3O l3L l3C] [] wv5 →
    ((!ok) = true →
    (∀ wr16, ExtX [b, b1, b2, b3] wv5 wr16 → R (.tuple #[.agg #[.int .i64 l4Own, .int .i64 l4Own1, .int .i64 l4Own2, .slice l4Own3O l4Own3L l4Own3C], .bool false]) wr16)) ∧
    ((!ok) = false →
    (∃ (l4Rise : Int) (l4Rise1 : Int) (l4Rise2 : Int) (l4Rise3O : Option Addr) (l4Rise3L : Nat) (l4Rise3C : Nat),
    PureX [b, b1, b2, b3] Try.prog fn_spec_l4Rise #[.agg #[.int .i64 l, .int .i64 l1, .int .i64 l2, .slice l3O l3L l3C]] wv5 (.agg #[.int .i64 l4Rise, .int .i64 l4Rise1, .int .i64 l4Rise2, .slice l4Rise3O l4Rise3L l4Rise3C]) ∧
    (∀ wr17, ExtX [b, b1, b2, b3] wv5 wr17 → R (.tuple #[.agg #[.int .i64 l4Rise, .int .i64 l4Rise1, .int .i64 l4Rise2, .slice l4Rise3O l4Rise3L l4Rise3C], .bool true]) wr17))))))))))))))))
theorem v_spec_QueueDo (q0 : Int) (q1 : Int) (q2 : Int) (q3O : Option Addr) (q3L : Nat) (q3C : Nat) (op0 : Int) (op1 : Int) (op2 : Int) (w : World) (R : Value → World → Prop) : evFn c_spec_QueueDo s_spec_QueueDo [.agg #[.int .i64 q0, .int .i64 q1, .int .i64 q2, .slice q3O q3L q3C], .agg #[.int .i64 op0, .int .i64 op1, .int .i64 op2]] (bodyOf Try.f17) Try.f17.results.toList w R = V_spec_QueueDo q0 q1 q2 q3O q3L q3C op0 op1 op2 w R := by kernel_rfl
theorem e_spec_QueueDo (q0 : Int) (q1 : Int) (q2 : Int) (q3O : Option Addr) (q3L : Nat) (q3C : Nat) (op0 : Int) (op1 : Int) (op2 : Int) {w : World} {R : Value → World → Prop} (hvc : V_spec_QueueDo q0 q1 q2 q3O q3L q3C op0 op1 op2 w R) : Calls Try.prog fn_spec_QueueDo #[.agg #[.int .i64 q0, .int .i64 q1, .int .i64 q2, .slice q3O q3L q3C], .agg #[.int .i64 op0, .int .i64 op1, .int .i64 op2]] w fun e0 wr0 => ∃ v0, e0 = .returned v0 ∧ R v0 wr0 :=
  eff_of_ev (C := c_spec_QueueDo) (sps := s_spec_QueueDo) (body := bodyOf Try.f17) (env _ _ _) Try.func17 rfl rfl (of_decide_eq_true (by kernel_rfl)) (of_decide_eq_true (by kernel_rfl)) rfl (by rw [v_spec_QueueDo]; exact hvc)
end Go.Proofs.Ythihcdljmddgfaa
