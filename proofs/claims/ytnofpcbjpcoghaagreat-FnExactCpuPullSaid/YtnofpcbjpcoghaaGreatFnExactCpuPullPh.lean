/- Part 8 of what the law FnExactCpuPull needs: the engine, the functions' propositions, the contracts. -/
import Derived.Test.YtnofpcbjpcoghaaGreatFnExactCpuPullPg
namespace Go.Proofs.YtnofpcbjpcoghaaGreat
open Go.RowKit
set_option linter.unusedVariables false
set_option maxRecDepth 100000
set_option maxHeartbeats 1600000
def V_laws_eqTaskS (aO : Option Addr) (aL : Nat) (aC : Nat) (bO : Option Addr) (bL : Nat) (bC : Nat) (w : World) (R : Value → World → Prop) : Prop :=
    ((((aL : Nat) : Int) != ((bL : Nat) : Int)) = true →
    R (.bool false) w) ∧
    ((((aL : Nat) : Int) != ((bL : Nat) : Int)) = false →
    (∃ (xInv : List Value → Prop) (mu : List Value → Nat), xInv [.int .i64 0] ∧
    ∀ (i : Int), xInv [.int .i64 i] →
    ((decide (i < ((aL : Nat) : Int))) = true →
    Ix aO aL i ∧
    (∃ (x0 : Int) (x1 : Int) (x2 : Int) (x3 : Int) (x4 : Int) (x5 : Int) (x6 : Int) (x7 : Int) (x8 : Int),
    CellsX [] w aO (Int.toNat i * 9) [.int .i64 x0, .int .i64 x1, .int .i64 x2, .int .i64 x3, .int .i64 x4, .int .i64 x5, .int .i64 x6, .int .i64 x7, .int .i64 x8] ∧
    Ix bO bL i ∧
    (∃ (x01 : Int) (x11 : Int) (x21 : Int) (x31 : Int) (x41 : Int) (x51 : Int) (x61 : Int) (x71 : Int) (x81 : Int),
    CellsX [] w bO (Int.toNat i * 9) [.int .i64 x01, .int .i64 x11, .int .i64 x21, .int .i64 x31, .int .i64 x41, .int .i64 x51, .int .i64 x61, .int .i64 x71, .int .i64 x81] ∧
    (∃ (eqTask : Bool),
    PureX [] Tryz.prog fn_laws_eqTask #[.agg #[.int .i64 x0, .int .i64 x1, .int .i64 x2, .int .i64 x3, .int .i64 x4, .int .i64 x5, .int .i64 x6, .int .i64 x7, .int .i64 x8], .agg #[.int .i64 x01, .int .i64 x11, .int .i64 x21, .int .i64 x31, .int .i64 x41, .int .i64 x51, .int .i64 x61, .int .i64 x71, .int .i64 x81]] w (.bool eqTask) ∧
    ((!eqTask) = true →
    R (.bool false) w) ∧
    ((!eqTask) = false →
    InR .i64 (i + 1) ∧
    xInv [.int .i64 (i + 1)] ∧ mu [.int .i64 (i + 1)] < mu [.int .i64 i]))))) ∧
    ((decide (i < ((aL : Nat) : Int))) = false →
    R (.bool true) w)))
theorem v_laws_eqTaskS (aO : Option Addr) (aL : Nat) (aC : Nat) (bO : Option Addr) (bL : Nat) (bC : Nat) (w : World) (R : Value → World → Prop) : evFn c_laws_eqTaskS s_laws_eqTaskS [.slice aO aL aC, .slice bO bL bC] (bodyOf Tryz.f31) Tryz.f31.results.toList w R = V_laws_eqTaskS aO aL aC bO bL bC w R := by kernel_rfl
theorem p_laws_eqTaskS (aO : Option Addr) (aL : Nat) (aC : Nat) (bO : Option Addr) (bL : Nat) (bC : Nat) {w : World} {bs : List Nat} {ret : Value} (hvc : ∀ wr0, ExtX bs w wr0 → V_laws_eqTaskS aO aL aC bO bL bC wr0 fun v0 _ => v0 = ret) : PureX bs Tryz.prog fn_laws_eqTaskS #[.slice aO aL aC, .slice bO bL bC] w ret :=
  pure_of_ev (C := c_laws_eqTaskS) (sps := s_laws_eqTaskS) (body := bodyOf Tryz.f31) (env _ _ _ _ _) Tryz.func31 rfl rfl (of_decide_eq_true (by kernel_rfl)) (of_decide_eq_true (by kernel_rfl)) rfl rfl fun wr0 hx0 => by rw [v_laws_eqTaskS]; exact hvc wr0 hx0
noncomputable def c_laws_eqIntS : Cfg := { P := Tryz.prog, T := tblGet tbl, pf := pfT, ef := efT, tt := ttT, vis := [], n := 26, pm := true, wr := false }
noncomputable def s_laws_eqIntS : List (Nat × LSpec) := [(4, { chg := [(5, .int .i64)], chgL := [], keep := [0, 1] })]
def V_laws_eqIntS (aO : Option Addr) (aL : Nat) (aC : Nat) (bO : Option Addr) (bL : Nat) (bC : Nat) (w : World) (R : Value → World → Prop) : Prop :=
    ((((aL : Nat) : Int) != ((bL : Nat) : Int)) = true →
    R (.bool false) w) ∧
    ((((aL : Nat) : Int) != ((bL : Nat) : Int)) = false →
    (∃ (xInv : List Value → Prop) (mu : List Value → Nat), xInv [.int .i64 0] ∧
    ∀ (i : Int), xInv [.int .i64 i] →
    ((decide (i < ((aL : Nat) : Int))) = true →
    Ix aO aL i ∧
    (∃ (x : Int),
    CellsX [] w aO (Int.toNat i * 1) [.int .i64 x] ∧
    Ix bO bL i ∧
    (∃ (x1 : Int),
    CellsX [] w bO (Int.toNat i * 1) [.int .i64 x1] ∧
    ((x != x1) = true →
    R (.bool false) w) ∧
    ((x != x1) = false →
    InR .i64 (i + 1) ∧
    xInv [.int .i64 (i + 1)] ∧ mu [.int .i64 (i + 1)] < mu [.int .i64 i])))) ∧
    ((decide (i < ((aL : Nat) : Int))) = false →
    R (.bool true) w)))
theorem v_laws_eqIntS (aO : Option Addr) (aL : Nat) (aC : Nat) (bO : Option Addr) (bL : Nat) (bC : Nat) (w : World) (R : Value → World → Prop) : evFn c_laws_eqIntS s_laws_eqIntS [.slice aO aL aC, .slice bO bL bC] (bodyOf Tryz.f133) Tryz.f133.results.toList w R = V_laws_eqIntS aO aL aC bO bL bC w R := by kernel_rfl
theorem p_laws_eqIntS (aO : Option Addr) (aL : Nat) (aC : Nat) (bO : Option Addr) (bL : Nat) (bC : Nat) {w : World} {bs : List Nat} {ret : Value} (hvc : ∀ wr0, ExtX bs w wr0 → V_laws_eqIntS aO aL aC bO bL bC wr0 fun v0 _ => v0 = ret) : PureX bs Tryz.prog fn_laws_eqIntS #[.slice aO aL aC, .slice bO bL bC] w ret :=
  pure_of_ev (C := c_laws_eqIntS) (sps := s_laws_eqIntS) (body := bodyOf Tryz.f133) (env _ _ _ _ _) Tryz.func133 rfl rfl (of_decide_eq_true (by kernel_rfl)) (of_decide_eq_true (by kernel_rfl)) rfl rfl fun wr0 hx0 => by rw [v_laws_eqIntS]; exact hvc wr0 hx0
noncomputable def c_laws_eqBoolS : Cfg := { P := Tryz.prog, T := tblGet tbl, pf := pfT, ef := efT, tt := ttT, vis := [], n := 26, pm := true, wr := false }
noncomputable def s_laws_eqBoolS : List (Nat × LSpec) := [(4, { chg := [(5, .int .i64)], chgL := [], keep := [0, 1] })]
def V_laws_eqBoolS (aO : Option Addr) (aL : Nat) (aC : Nat) (bO : Option Addr) (bL : Nat) (bC : Nat) (w : World) (R : Value → World → Prop) : Prop :=
    ((((aL : Nat) : Int) != ((bL : Nat) : Int)) = true →
    R (.bool false) w) ∧
    ((((aL : Nat) : Int) != ((bL : Nat) : Int)) = false →
    (∃ (xInv : List Value → Prop) (mu : List Value → Nat), xInv [.int .i64 0] ∧
    ∀ (i : Int), xInv [.int .i64 i] →
    ((decide (i < ((aL : Nat) : Int))) = true →
    Ix aO aL i ∧
    (∃ (x : Bool),
    CellsX [] w aO (Int.toNat i * 1) [.bool x] ∧
    Ix bO bL i ∧
    (∃ (x1 : Bool),
    CellsX [] w bO (Int.toNat i * 1) [.bool x1] ∧
    ((!(x == x1)) = true →
    R (.bool false) w) ∧
    ((!(x == x1)) = false →
    InR .i64 (i + 1) ∧
    xInv [.int .i64 (i + 1)] ∧ mu [.int .i64 (i + 1)] < mu [.int .i64 i])))) ∧
    ((decide (i < ((aL : Nat) : Int))) = false →
    R (.bool true) w)))
theorem v_laws_eqBoolS (aO : Option Addr) (aL : Nat) (aC : Nat) (bO : Option Addr) (bL : Nat) (bC : Nat) (w : World) (R : Value → World → Prop) : evFn c_laws_eqBoolS s_laws_eqBoolS [.slice aO aL aC, .slice bO bL bC] (bodyOf Tryz.f134) Tryz.f134.results.toList w R = V_laws_eqBoolS aO aL aC bO bL bC w R := by kernel_rfl
theorem p_laws_eqBoolS (aO : Option Addr) (aL : Nat) (aC : Nat) (bO : Option Addr) (bL : Nat) (bC : Nat) {w : World} {bs : List Nat} {ret : Value} (hvc : ∀ wr0, ExtX bs w wr0 → V_laws_eqBoolS aO aL aC bO bL bC wr0 fun v0 _ => v0 = ret) : PureX bs Tryz.prog fn_laws_eqBoolS #[.slice aO aL aC, .slice bO bL bC] w ret :=
  pure_of_ev (C := c_laws_eqBoolS) (sps := s_laws_eqBoolS) (body := bodyOf Tryz.f134) (env _ _ _ _ _) Tryz.func134 rfl rfl (of_decide_eq_true (by kernel_rfl)) (of_decide_eq_true (by kernel_rfl)) rfl rfl fun wr0 hx0 => by rw [v_laws_eqBoolS]; exact hvc wr0 hx0
noncomputable def c_laws_eqBand : Cfg := { P := Tryz.prog, T := tblGet tbl, pf := pfT, ef := efT, tt := ttT, vis := [], n := 32, pm := true, wr := false }
noncomputable def s_laws_eqBand : List (Nat × LSpec) := []
def V_laws_eqBand (a0 : Int) (a1 : Int) (a2 : Int) (a3O : Option Addr) (a3L : Nat) (a3C : Nat) (a4O : Option Addr) (a4L : Nat) (a4C : Nat) (b0 : Int) (b1 : Int) (b2 : Int) (b3O : Option Addr) (b3L : Nat) (b3C : Nat) (b4O : Option Addr) (b4L : Nat) (b4C : Nat) (w : World) (R : Value → World → Prop) : Prop :=
    (∀ b, w.heap.size ≤ b →
    (∀ b5, w.heap.size ≤ b5 →
    ((a0 != b0) = true →
    R (.bool false) w) ∧
    ((a0 != b0) = false →
    ((a1 != b1) = true →
    R (.bool false) w) ∧
    ((a1 != b1) = false →
    ((a2 != b2) = true →
    R (.bool false) w) ∧
    ((a2 != b2) = false →
    (∃ (eqIntS : Bool),
    PureX [] Tryz.prog fn_laws_eqIntS #[.slice a3O a3L a3C, .slice b3O b3L b3C] w (.bool eqIntS) ∧
    ((!eqIntS) = true →
    R (.bool false) w) ∧
    ((!eqIntS) = false →
    (∃ (eqBool : Bool),
    PureX [] Tryz.prog fn_laws_eqBoolS #[.slice a4O a4L a4C, .slice b4O b4L b4C] w (.bool eqBool) ∧
    ((!eqBool) = true →
    R (.bool false) w) ∧
    ((!eqBool) = false →
    R (.bool true) w)))))))))
theorem v_laws_eqBand (a0 : Int) (a1 : Int) (a2 : Int) (a3O : Option Addr) (a3L : Nat) (a3C : Nat) (a4O : Option Addr) (a4L : Nat) (a4C : Nat) (b0 : Int) (b1 : Int) (b2 : Int) (b3O : Option Addr) (b3L : Nat) (b3C : Nat) (b4O : Option Addr) (b4L : Nat) (b4C : Nat) (w : World) (R : Value → World → Prop) : evFn c_laws_eqBand s_laws_eqBand [.agg #[.int .i64 a0, .int .i64 a1, .int .i64 a2, .slice a3O a3L a3C, .slice a4O a4L a4C], .agg #[.int .i64 b0, .int .i64 b1, .int .i64 b2, .slice b3O b3L b3C, .slice b4O b4L b4C]] (bodyOf Tryz.f110) Tryz.f110.results.toList w R = V_laws_eqBand a0 a1 a2 a3O a3L a3C a4O a4L a4C b0 b1 b2 b3O b3L b3C b4O b4L b4C w R := by kernel_rfl
theorem p_laws_eqBand (a0 : Int) (a1 : Int) (a2 : Int) (a3O : Option Addr) (a3L : Nat) (a3C : Nat) (a4O : Option Addr) (a4L : Nat) (a4C : Nat) (b0 : Int) (b1 : Int) (b2 : Int) (b3O : Option Addr) (b3L : Nat) (b3C : Nat) (b4O : Option Addr) (b4L : Nat) (b4C : Nat) {w : World} {bs : List Nat} {ret : Value} (hvc : ∀ wr0, ExtX bs w wr0 → V_laws_eqBand a0 a1 a2 a3O a3L a3C a4O a4L a4C b0 b1 b2 b3O b3L b3C b4O b4L b4C wr0 fun v0 _ => v0 = ret) : PureX bs Tryz.prog fn_laws_eqBand #[.agg #[.int .i64 a0, .int .i64 a1, .int .i64 a2, .slice a3O a3L a3C, .slice a4O a4L a4C], .agg #[.int .i64 b0, .int .i64 b1, .int .i64 b2, .slice b3O b3L b3C, .slice b4O b4L b4C]] w ret :=
  pure_of_ev (C := c_laws_eqBand) (sps := s_laws_eqBand) (body := bodyOf Tryz.f110) (env _ _ _ _ _) Tryz.func110 rfl rfl (of_decide_eq_true (by kernel_rfl)) (of_decide_eq_true (by kernel_rfl)) rfl rfl fun wr0 hx0 => by rw [v_laws_eqBand]; exact hvc wr0 hx0
noncomputable def c_laws_eqShelf : Cfg := { P := Tryz.prog, T := tblGet tbl, pf := pfT, ef := efT, tt := ttT, vis := [], n := 30, pm := true, wr := false }
noncomputable def s_laws_eqShelf : List (Nat × LSpec) := []
def V_laws_eqShelf (a0 : Int) (a1 : Bool) (a2 : Int) (a3 : Int) (a4 : Int) (b0 : Int) (b1 : Bool) (b2 : Int) (b3 : Int) (b4 : Int) (w : World) (R : Value → World → Prop) : Prop :=
    (∀ b, w.heap.size ≤ b →
    (∀ b5, w.heap.size ≤ b5 →
    ((a0 != b0) = true →
    R (.bool false) w) ∧
    ((a0 != b0) = false →
    ((!(a1 == b1)) = true →
    R (.bool false) w) ∧
    ((!(a1 == b1)) = false →
    ((a2 != b2) = true →
    R (.bool false) w) ∧
    ((a2 != b2) = false →
    ((a3 != b3) = true →
    R (.bool false) w) ∧
    ((a3 != b3) = false →
    ((a4 != b4) = true →
    R (.bool false) w) ∧
    ((a4 != b4) = false →
    R (.bool true) w)))))))
theorem v_laws_eqShelf (a0 : Int) (a1 : Bool) (a2 : Int) (a3 : Int) (a4 : Int) (b0 : Int) (b1 : Bool) (b2 : Int) (b3 : Int) (b4 : Int) (w : World) (R : Value → World → Prop) : evFn c_laws_eqShelf s_laws_eqShelf [.agg #[.int .i64 a0, .bool a1, .int .i64 a2, .int .i64 a3, .int .i64 a4], .agg #[.int .i64 b0, .bool b1, .int .i64 b2, .int .i64 b3, .int .i64 b4]] (bodyOf Tryz.f135) Tryz.f135.results.toList w R = V_laws_eqShelf a0 a1 a2 a3 a4 b0 b1 b2 b3 b4 w R := by kernel_rfl
theorem p_laws_eqShelf (a0 : Int) (a1 : Bool) (a2 : Int) (a3 : Int) (a4 : Int) (b0 : Int) (b1 : Bool) (b2 : Int) (b3 : Int) (b4 : Int) {w : World} {bs : List Nat} {ret : Value} (hvc : ∀ wr0, ExtX bs w wr0 → V_laws_eqShelf a0 a1 a2 a3 a4 b0 b1 b2 b3 b4 wr0 fun v0 _ => v0 = ret) : PureX bs Tryz.prog fn_laws_eqShelf #[.agg #[.int .i64 a0, .bool a1, .int .i64 a2, .int .i64 a3, .int .i64 a4], .agg #[.int .i64 b0, .bool b1, .int .i64 b2, .int .i64 b3, .int .i64 b4]] w ret :=
  pure_of_ev (C := c_laws_eqShelf) (sps := s_laws_eqShelf) (body := bodyOf Tryz.f135) (env _ _ _ _ _) Tryz.func135 rfl rfl (of_decide_eq_true (by kernel_rfl)) (of_decide_eq_true (by kernel_rfl)) rfl rfl fun wr0 hx0 => by rw [v_laws_eqShelf]; exact hvc wr0 hx0
noncomputable def c_laws_eqShelfS : Cfg := { P := Tryz.prog, T := tblGet tbl, pf := pfT, ef := efT, tt := ttT, vis := [], n := 27, pm := true, wr := false }
noncomputable def s_laws_eqShelfS : List (Nat × LSpec) := [(4, { chg := [(5, .int .i64)], chgL := [], keep := [0, 1] })]
def V_laws_eqShelfS (aO : Option Addr) (aL : Nat) (aC : Nat) (bO : Option Addr) (bL : Nat) (bC : Nat) (w : World) (R : Value → World → Prop) : Prop :=
    ((((aL : Nat) : Int) != ((bL : Nat) : Int)) = true →
    R (.bool false) w) ∧
    ((((aL : Nat) : Int) != ((bL : Nat) : Int)) = false →
    (∃ (xInv : List Value → Prop) (mu : List Value → Nat), xInv [.int .i64 0] ∧
    ∀ (i : Int), xInv [.int .i64 i] →
    ((decide (i < ((aL : Nat) : Int))) = true →
    Ix aO aL i ∧
    (∃ (x0 : Int) (x1 : Bool) (x2 : Int) (x3 : Int) (x4 : Int),
    CellsX [] w aO (Int.toNat i * 5) [.int .i64 x0, .bool x1, .int .i64 x2, .int .i64 x3, .int .i64 x4] ∧
    Ix bO bL i ∧
    (∃ (x01 : Int) (x11 : Bool) (x21 : Int) (x31 : Int) (x41 : Int),
    CellsX [] w bO (Int.toNat i * 5) [.int .i64 x01, .bool x11, .int .i64 x21, .int .i64 x31, .int .i64 x41] ∧
    (∃ (eqShel : Bool),
    PureX [] Tryz.prog fn_laws_eqShelf #[.agg #[.int .i64 x0, .bool x1, .int .i64 x2, .int .i64 x3, .int .i64 x4], .agg #[.int .i64 x01, .bool x11, .int .i64 x21, .int .i64 x31, .int .i64 x41]] w (.bool eqShel) ∧
    ((!eqShel) = true →
    R (.bool false) w) ∧
    ((!eqShel) = false →
    InR .i64 (i + 1) ∧
    xInv [.int .i64 (i + 1)] ∧ mu [.int .i64 (i + 1)] < mu [.int .i64 i]))))) ∧
    ((decide (i < ((aL : Nat) : Int))) = false →
    R (.bool true) w)))
theorem v_laws_eqShelfS (aO : Option Addr) (aL : Nat) (aC : Nat) (bO : Option Addr) (bL : Nat) (bC : Nat) (w : World) (R : Value → World → Prop) : evFn c_laws_eqShelfS s_laws_eqShelfS [.slice aO aL aC, .slice bO bL bC] (bodyOf Tryz.f111) Tryz.f111.results.toList w R = V_laws_eqShelfS aO aL aC bO bL bC w R := by kernel_rfl
theorem p_laws_eqShelfS (aO : Option Addr) (aL : Nat) (aC : Nat) (bO : Option Addr) (bL : Nat) (bC : Nat) {w : World} {bs : List Nat} {ret : Value} (hvc : ∀ wr0, ExtX bs w wr0 → V_laws_eqShelfS aO aL aC bO bL bC wr0 fun v0 _ => v0 = ret) : PureX bs Tryz.prog fn_laws_eqShelfS #[.slice aO aL aC, .slice bO bL bC] w ret :=
  pure_of_ev (C := c_laws_eqShelfS) (sps := s_laws_eqShelfS) (body := bodyOf Tryz.f111) (env _ _ _ _ _) Tryz.func111 rfl rfl (of_decide_eq_true (by kernel_rfl)) (of_decide_eq_true (by kernel_rfl)) rfl rfl fun wr0 hx0 => by rw [v_laws_eqShelfS]; exact hvc wr0 hx0
noncomputable def c_laws_eqGroup : Cfg := { P := Tryz.prog, T := tblGet tbl, pf := pfT, ef := efT, tt := ttT, vis := [], n := 57, pm := true, wr := false }
noncomputable def s_laws_eqGroup : List (Nat × LSpec) := []
def V_laws_eqGroup (a0 : Bool) (a1 : Int) (a2 : ByteArray) (a3 : Int) (a4 : Int) (a5 : Int) (a6 : Int) (a7 : Int) (a8 : Int) (a9 : Int) (a10 : Int) (a11O : Option Addr) (a11L : Nat) (a11C : Nat) (a12O : Option Addr) (a12L : Nat) (a12C : Nat) (a13O : Option Addr) (a13L : Nat) (a13C : Nat) (b0 : Bool) (b1 : Int) (b2 : ByteArray) (b3 : Int) (b4 : Int) (b5 : Int) (b6 : Int) (b7 : Int) (b8 : Int) (b9 : Int) (b10 : Int) (b11O : Option Addr) (b11L : Nat) (b11C : Nat) (b12O : Option Addr) (b12L : Nat) (b12C : Nat) (b13O : Option Addr) (b13L : Nat) (b13C : Nat) (w : World) (R : Value → World → Prop) : Prop :=
    (∀ b, w.heap.size ≤ b →
    (∀ b14, w.heap.size ≤ b14 →
    ((!(a0 == b0)) = true →
    R (.bool false) w) ∧
    ((!(a0 == b0)) = false →
    ((a1 != b1) = true →
    R (.bool false) w) ∧
    ((a1 != b1) = false →
    ((!strEq a2 b2) = true →
    R (.bool false) w) ∧
    ((!strEq a2 b2) = false →
    ((a3 != b3) = true →
    R (.bool false) w) ∧
    ((a3 != b3) = false →
    ((a4 != b4) = true →
    R (.bool false) w) ∧
    ((a4 != b4) = false →
    ((a5 != b5) = true →
    R (.bool false) w) ∧
    ((a5 != b5) = false →
    ((a6 != b6) = true →
    R (.bool false) w) ∧
    ((a6 != b6) = false →
    ((a7 != b7) = true →
    R (.bool false) w) ∧
    ((a7 != b7) = false →
    (∃ (eqBand : Bool),
    PureX [] Tryz.prog fn_laws_eqBand #[.agg #[.int .i64 a8, .int .i64 a9, .int .i64 a10, .slice a11O a11L a11C, .slice a12O a12L a12C], .agg #[.int .i64 b8, .int .i64 b9, .int .i64 b10, .slice b11O b11L b11C, .slice b12O b12L b12C]] w (.bool eqBand) ∧
    ((!eqBand) = true →
    R (.bool false) w) ∧
    ((!eqBand) = false →
    (∃ (eqShel : Bool),
    PureX [] Tryz.prog fn_laws_eqShelfS #[.slice a13O a13L a13C, .slice b13O b13L b13C] w (.bool eqShel) ∧
    ((!eqShel) = true →
    R (.bool false) w) ∧
    ((!eqShel) = false →
    R (.bool true) w))))))))))))))
theorem v_laws_eqGroup (a0 : Bool) (a1 : Int) (a2 : ByteArray) (a3 : Int) (a4 : Int) (a5 : Int) (a6 : Int) (a7 : Int) (a8 : Int) (a9 : Int) (a10 : Int) (a11O : Option Addr) (a11L : Nat) (a11C : Nat) (a12O : Option Addr) (a12L : Nat) (a12C : Nat) (a13O : Option Addr) (a13L : Nat) (a13C : Nat) (b0 : Bool) (b1 : Int) (b2 : ByteArray) (b3 : Int) (b4 : Int) (b5 : Int) (b6 : Int) (b7 : Int) (b8 : Int) (b9 : Int) (b10 : Int) (b11O : Option Addr) (b11L : Nat) (b11C : Nat) (b12O : Option Addr) (b12L : Nat) (b12C : Nat) (b13O : Option Addr) (b13L : Nat) (b13C : Nat) (w : World) (R : Value → World → Prop) : evFn c_laws_eqGroup s_laws_eqGroup [.agg #[.bool a0, .int .i64 a1, .string a2, .int .i64 a3, .int .i64 a4, .int .i64 a5, .int .i64 a6, .int .i64 a7, .int .i64 a8, .int .i64 a9, .int .i64 a10, .slice a11O a11L a11C, .slice a12O a12L a12C, .slice a13O a13L a13C], .agg #[.bool b0, .int .i64 b1, .string b2, .int .i64 b3, .int .i64 b4, .int .i64 b5, .int .i64 b6, .int .i64 b7, .int .i64 b8, .int .i64 b9, .int .i64 b10, .slice b11O b11L b11C, .slice b12O b12L b12C, .slice b13O b13L b13C]] (bodyOf Tryz.f62) Tryz.f62.results.toList w R = V_laws_eqGroup a0 a1 a2 a3 a4 a5 a6 a7 a8 a9 a10 a11O a11L a11C a12O a12L a12C a13O a13L a13C b0 b1 b2 b3 b4 b5 b6 b7 b8 b9 b10 b11O b11L b11C b12O b12L b12C b13O b13L b13C w R := by kernel_rfl
theorem p_laws_eqGroup (a0 : Bool) (a1 : Int) (a2 : ByteArray) (a3 : Int) (a4 : Int) (a5 : Int) (a6 : Int) (a7 : Int) (a8 : Int) (a9 : Int) (a10 : Int) (a11O : Option Addr) (a11L : Nat) (a11C : Nat) (a12O : Option Addr) (a12L : Nat) (a12C : Nat) (a13O : Option Addr) (a13L : Nat) (a13C : Nat) (b0 : Bool) (b1 : Int) (b2 : ByteArray) (b3 : Int) (b4 : Int) (b5 : Int) (b6 : Int) (b7 : Int) (b8 : Int) (b9 : Int) (b10 : Int) (b11O : Option Addr) (b11L : Nat) (b11C : Nat) (b12O : Option Addr) (b12L : Nat) (b12C : Nat) (b13O : Option Addr) (b13L : Nat) (b13C : Nat) {w : World} {bs : List Nat} {ret : Value} (hvc : ∀ wr0, ExtX bs w wr0 → V_laws_eqGroup a0 a1 a2 a3 a4 a5 a6 a7 a8 a9 a10 a11O a11L a11C a12O a12L a12C a13O a13L a13C b0 b1 b2 b3 b4 b5 b6 b7 b8 b9 b10 b11O b11L b11C b12O b12L b12C b13O b13L b13C wr0 fun v0 _ => v0 = ret) : PureX bs Tryz.prog fn_laws_eqGroup #[.agg #[.bool a0, .int .i64 a1, .string a2, .int .i64 a3, .int .i64 a4, .int .i64 a5, .int .i64 a6, .int .i64 a7, .int .i64 a8, .int .i64 a9, .int .i64 a10, .slice a11O a11L a11C, .slice a12O a12L a12C, .slice a13O a13L a13C], .agg #[.bool b0, .int .i64 b1, .string b2, .int .i64 b3, .int .i64 b4, .int .i64 b5, .int .i64 b6, .int .i64 b7, .int .i64 b8, .int .i64 b9, .int .i64 b10, .slice b11O b11L b11C, .slice b12O b12L b12C, .slice b13O b13L b13C]] w ret :=
  pure_of_ev (C := c_laws_eqGroup) (sps := s_laws_eqGroup) (body := bodyOf Tryz.f62) (env _ _ _ _ _) Tryz.func62 rfl rfl (of_decide_eq_true (by kernel_rfl)) (of_decide_eq_true (by kernel_rfl)) rfl rfl fun wr0 hx0 => by rw [v_laws_eqGroup]; exact hvc wr0 hx0
noncomputable def c_laws_eqGroupS : Cfg := { P := Tryz.prog, T := tblGet tbl, pf := pfT, ef := efT, tt := ttT, vis := [], n := 27, pm := true, wr := false }
noncomputable def s_laws_eqGroupS : List (Nat × LSpec) := [(4, { chg := [(5, .int .i64)], chgL := [], keep := [0, 1] })]
def V_laws_eqGroupS (aO : Option Addr) (aL : Nat) (aC : Nat) (bO : Option Addr) (bL : Nat) (bC : Nat) (w : World) (R : Value → World → Prop) : Prop :=
    ((((aL : Nat) : Int) != ((bL : Nat) : Int)) = true →
    R (.bool false) w) ∧
    ((((aL : Nat) : Int) != ((bL : Nat) : Int)) = false →
    (∃ (xInv : List Value → Prop) (mu : List Value → Nat), xInv [.int .i64 0] ∧
    ∀ (i : Int), xInv [.int .i64 i] →
    ((decide (i < ((aL : Nat) : Int))) = true →
    Ix aO aL i ∧
    (∃ (x0 : Bool) (x1 : Int) (x2 : ByteArray) (x3 : Int) (x4 : Int) (x5 : Int) (x6 : Int) (x7 : Int) (x8 : Int) (x9 : Int) (x10 : Int) (x11O : Option Addr) (x11L : Nat) (x11C : Nat) (x12O : Option Addr) (x12L : Nat) (x12C : Nat) (x13O : Option Addr) (x13L : Nat) (x13C : Nat),
    CellsX [] w aO (Int.toNat i * 14) [.bool x0, .int .i64 x1, .string x2, .int .i64 x3, .int .i64 x4, .int .i64 x5, .int .i64 x6, .int .i64 x7, .int .i64 x8, .int .i64 x9, .int .i64 x10, .slice x11O x11L x11C, .slice x12O x12L x12C, .slice x13O x13L x13C] ∧
    Ix bO bL i ∧
    (∃ (x01 : Bool) (x14 : Int) (x21 : ByteArray) (x31 : Int) (x41 : Int) (x51 : Int) (x61 : Int) (x71 : Int) (x81 : Int) (x91 : Int) (x101 : Int) (x111O : Option Addr) (x111L : Nat) (x111C : Nat) (x121O : Option Addr) (x121L : Nat) (x121C : Nat) (x131O : Option Addr) (x131L : Nat) (x131C : Nat),
    CellsX [] w bO (Int.toNat i * 14) [.bool x01, .int .i64 x14, .string x21, .int .i64 x31, .int .i64 x41, .int .i64 x51, .int .i64 x61, .int .i64 x71, .int .i64 x81, .int .i64 x91, .int .i64 x101, .slice x111O x111L x111C, .slice x121O x121L x121C, .slice x131O x131L x131C] ∧
    (∃ (eqGrou : Bool),
    PureX [] Tryz.prog fn_laws_eqGroup #[.agg #[.bool x0, .int .i64 x1, .string x2, .int .i64 x3, .int .i64 x4, .int .i64 x5, .int .i64 x6, .int .i64 x7, .int .i64 x8, .int .i64 x9, .int .i64 x10, .slice x11O x11L x11C, .slice x12O x12L x12C, .slice x13O x13L x13C], .agg #[.bool x01, .int .i64 x14, .string x21, .int .i64 x31, .int .i64 x41, .int .i64 x51, .int .i64 x61, .int .i64 x71, .int .i64 x81, .int .i64 x91, .int .i64 x101, .slice x111O x111L x111C, .slice x121O x121L x121C, .slice x131O x131L x131C]] w (.bool eqGrou) ∧
    ((!eqGrou) = true →
    R (.bool false) w) ∧
    ((!eqGrou) = false →
    InR .i64 (i + 1) ∧
    xInv [.int .i64 (i + 1)] ∧ mu [.int .i64 (i + 1)] < mu [.int .i64 i]))))) ∧
    ((decide (i < ((aL : Nat) : Int))) = false →
    R (.bool true) w)))
theorem v_laws_eqGroupS (aO : Option Addr) (aL : Nat) (aC : Nat) (bO : Option Addr) (bL : Nat) (bC : Nat) (w : World) (R : Value → World → Prop) : evFn c_laws_eqGroupS s_laws_eqGroupS [.slice aO aL aC, .slice bO bL bC] (bodyOf Tryz.f32) Tryz.f32.results.toList w R = V_laws_eqGroupS aO aL aC bO bL bC w R := by kernel_rfl
theorem p_laws_eqGroupS (aO : Option Addr) (aL : Nat) (aC : Nat) (bO : Option Addr) (bL : Nat) (bC : Nat) {w : World} {bs : List Nat} {ret : Value} (hvc : ∀ wr0, ExtX bs w wr0 → V_laws_eqGroupS aO aL aC bO bL bC wr0 fun v0 _ => v0 = ret) : PureX bs Tryz.prog fn_laws_eqGroupS #[.slice aO aL aC, .slice bO bL bC] w ret :=
  pure_of_ev (C := c_laws_eqGroupS) (sps := s_laws_eqGroupS) (body := bodyOf Tryz.f32) (env _ _ _ _ _) Tryz.func32 rfl rfl (of_decide_eq_true (by kernel_rfl)) (of_decide_eq_true (by kernel_rfl)) rfl rfl fun wr0 hx0 => by rw [v_laws_eqGroupS]; exact hvc wr0 hx0
noncomputable def c_laws_eqWorld : Cfg := { P := Tryz.prog, T := tblGet tbl, pf := pfT, ef := efT, tt := ttT, vis := [], n := 28, pm := true, wr := false }
noncomputable def s_laws_eqWorld : List (Nat × LSpec) := []
def V_laws_eqWorld (a0 : Int) (a1O : Option Addr) (a1L : Nat) (a1C : Nat) (a2O : Option Addr) (a2L : Nat) (a2C : Nat) (a3O : Option Addr) (a3L : Nat) (a3C : Nat) (b0 : Int) (b1O : Option Addr) (b1L : Nat) (b1C : Nat) (b2O : Option Addr) (b2L : Nat) (b2C : Nat) (b3O : Option Addr) (b3L : Nat) (b3C : Nat) (w : World) (R : Value → World → Prop) : Prop :=
    (∀ b, w.heap.size ≤ b →
    (∀ b4, w.heap.size ≤ b4 →
    ((a0 != b0) = true →
    R (.bool false) w) ∧
    ((a0 != b0) = false →
    (∃ (eqCpuS : Bool),
    PureX [] Tryz.prog fn_laws_eqCpuS #[.slice a1O a1L a1C, .slice b1O b1L b1C] w (.bool eqCpuS) ∧
    ((!eqCpuS) = true →
    R (.bool false) w) ∧
    ((!eqCpuS) = false →
    (∃ (eqTask : Bool),
    PureX [] Tryz.prog fn_laws_eqTaskS #[.slice a2O a2L a2C, .slice b2O b2L b2C] w (.bool eqTask) ∧
    ((!eqTask) = true →
    R (.bool false) w) ∧
    ((!eqTask) = false →
    (∃ (eqGrou : Bool),
    PureX [] Tryz.prog fn_laws_eqGroupS #[.slice a3O a3L a3C, .slice b3O b3L b3C] w (.bool eqGrou) ∧
    ((!eqGrou) = true →
    R (.bool false) w) ∧
    ((!eqGrou) = false →
    R (.bool true) w)))))))))
theorem v_laws_eqWorld (a0 : Int) (a1O : Option Addr) (a1L : Nat) (a1C : Nat) (a2O : Option Addr) (a2L : Nat) (a2C : Nat) (a3O : Option Addr) (a3L : Nat) (a3C : Nat) (b0 : Int) (b1O : Option Addr) (b1L : Nat) (b1C : Nat) (b2O : Option Addr) (b2L : Nat) (b2C : Nat) (b3O : Option Addr) (b3L : Nat) (b3C : Nat) (w : World) (R : Value → World → Prop) : evFn c_laws_eqWorld s_laws_eqWorld [.agg #[.int .i64 a0, .slice a1O a1L a1C, .slice a2O a2L a2C, .slice a3O a3L a3C], .agg #[.int .i64 b0, .slice b1O b1L b1C, .slice b2O b2L b2C, .slice b3O b3L b3C]] (bodyOf Tryz.f9) Tryz.f9.results.toList w R = V_laws_eqWorld a0 a1O a1L a1C a2O a2L a2C a3O a3L a3C b0 b1O b1L b1C b2O b2L b2C b3O b3L b3C w R := by kernel_rfl
theorem p_laws_eqWorld (a0 : Int) (a1O : Option Addr) (a1L : Nat) (a1C : Nat) (a2O : Option Addr) (a2L : Nat) (a2C : Nat) (a3O : Option Addr) (a3L : Nat) (a3C : Nat) (b0 : Int) (b1O : Option Addr) (b1L : Nat) (b1C : Nat) (b2O : Option Addr) (b2L : Nat) (b2C : Nat) (b3O : Option Addr) (b3L : Nat) (b3C : Nat) {w : World} {bs : List Nat} {ret : Value} (hvc : ∀ wr0, ExtX bs w wr0 → V_laws_eqWorld a0 a1O a1L a1C a2O a2L a2C a3O a3L a3C b0 b1O b1L b1C b2O b2L b2C b3O b3L b3C wr0 fun v0 _ => v0 = ret) : PureX bs Tryz.prog fn_laws_eqWorld #[.agg #[.int .i64 a0, .slice a1O a1L a1C, .slice a2O a2L a2C, .slice a3O a3L a3C], .agg #[.int .i64 b0, .slice b1O b1L b1C, .slice b2O b2L b2C, .slice b3O b3L b3C]] w ret :=
  pure_of_ev (C := c_laws_eqWorld) (sps := s_laws_eqWorld) (body := bodyOf Tryz.f9) (env _ _ _ _ _) Tryz.func9 rfl rfl (of_decide_eq_true (by kernel_rfl)) (of_decide_eq_true (by kernel_rfl)) rfl rfl fun wr0 hx0 => by rw [v_laws_eqWorld]; exact hvc wr0 hx0
noncomputable def c_spec_l12Fits : Cfg := { P := Tryz.prog, T := tblGet tbl, pf := pfT, ef := efT, tt := ttT, vis := [], n := 34, pm := true, wr := false }
noncomputable def s_spec_l12Fits : List (Nat × LSpec) := []
def V_spec_l12Fits (w0 : Int) (w1O : Option Addr) (w1L : Nat) (w1C : Nat) (w2O : Option Addr) (w2L : Nat) (w2C : Nat) (w3O : Option Addr) (w3L : Nat) (w3C : Nat) (t : Int) (fromv : Int) (tov : Int) (w : World) (R : Value → World → Prop) : Prop :=
    (∀ b, w.heap.size ≤ b →
    (∃ (l12Loa : Int),
    PureX [] Tryz.prog fn_spec_l12Load #[.agg #[.int .i64 w0, .slice w1O w1L w1C, .slice w2O w2L w2C, .slice w3O w3L w3C], .int .i64 tov] w (.int .i64 l12Loa) ∧
    Ix w2O w2L t ∧
    (∃ (nice : Int),
    CellsX [] w w2O (Int.toNat t * 9 + 3) [.int .i64 nice] ∧
    (∃ (xWeight : Int),
    PureX [] Tryz.prog fn_spec_WeightOf #[.int .i64 nice] w (.int .i64 xWeight) ∧
    ((l12Loa == 0) = false → InR .i64 (l12Loa + xWeight)) ∧
    (∃ (l12Loa1 : Int),
    ((l12Loa == 0) = false → PureX [] Tryz.prog fn_spec_l12Load #[.agg #[.int .i64 w0, .slice w1O w1L w1C, .slice w2O w2L w2C, .slice w3O w3L w3C], .int .i64 fromv] w (.int .i64 l12Loa1)) ∧
    ((l12Loa == 0) = false → InR .i64 (l12Loa1 - xWeight)) ∧
    R (.bool ((l12Loa == 0) || (decide (l12Loa + xWeight ≤ l12Loa1 - xWeight)))) w)))))
theorem v_spec_l12Fits (w0 : Int) (w1O : Option Addr) (w1L : Nat) (w1C : Nat) (w2O : Option Addr) (w2L : Nat) (w2C : Nat) (w3O : Option Addr) (w3L : Nat) (w3C : Nat) (t : Int) (fromv : Int) (tov : Int) (w : World) (R : Value → World → Prop) : evFn c_spec_l12Fits s_spec_l12Fits [.agg #[.int .i64 w0, .slice w1O w1L w1C, .slice w2O w2L w2C, .slice w3O w3L w3C], .int .i64 t, .int .i64 fromv, .int .i64 tov] (bodyOf Tryz.f63) Tryz.f63.results.toList w R = V_spec_l12Fits w0 w1O w1L w1C w2O w2L w2C w3O w3L w3C t fromv tov w R := by kernel_rfl
theorem p_spec_l12Fits (w0 : Int) (w1O : Option Addr) (w1L : Nat) (w1C : Nat) (w2O : Option Addr) (w2L : Nat) (w2C : Nat) (w3O : Option Addr) (w3L : Nat) (w3C : Nat) (t : Int) (fromv : Int) (tov : Int) {w : World} {bs : List Nat} {ret : Value} (hvc : ∀ wr0, ExtX bs w wr0 → V_spec_l12Fits w0 w1O w1L w1C w2O w2L w2C w3O w3L w3C t fromv tov wr0 fun v0 _ => v0 = ret) : PureX bs Tryz.prog fn_spec_l12Fits #[.agg #[.int .i64 w0, .slice w1O w1L w1C, .slice w2O w2L w2C, .slice w3O w3L w3C], .int .i64 t, .int .i64 fromv, .int .i64 tov] w ret :=
  pure_of_ev (C := c_spec_l12Fits) (sps := s_spec_l12Fits) (body := bodyOf Tryz.f63) (env _ _ _ _ _) Tryz.func63 rfl rfl (of_decide_eq_true (by kernel_rfl)) (of_decide_eq_true (by kernel_rfl)) rfl rfl fun wr0 hx0 => by rw [v_spec_l12Fits]; exact hvc wr0 hx0
noncomputable def c_spec_l12Pull : Cfg := { P := Tryz.prog, T := tblGet tbl, pf := pfT, ef := efT, tt := ttT, vis := [], n := 56, pm := true, wr := false }
noncomputable def s_spec_l12Pull : List (Nat × LSpec) := [(2, { chg := [(5, .int .i64)], chgL := [], keep := [1, 2] }), (7, { chg := [(7, .int .i64)], chgL := [], keep := [1, 2, 5, 6] })]
def V_spec_l12Pull (w0 : Int) (w1O : Option Addr) (w1L : Nat) (w1C : Nat) (w2O : Option Addr) (w2L : Nat) (w2C : Nat) (w3O : Option Addr) (w3L : Nat) (w3C : Nat) (c : Int) (w : World) (R : Value → World → Prop) : Prop :=
    (∀ b, w.heap.size ≤ b →
    (∃ (xInv : List Value → Prop) (mu : List Value → Nat), xInv [.int .i64 0] ∧
    ∀ (k : Int), xInv [.int .i64 k] →
    (∃ (xDomain : Int),
    PureX [] Tryz.prog fn_spec_DomainLevels #[.int .i64 ((w1L : Nat) : Int)] w (.int .i64 xDomain) ∧
    ((decide (k < xDomain)) = true →
    (∃ (xDomain1 : Int),
    PureX [] Tryz.prog fn_spec_DomainSpan #[.int .i64 ((w1L : Nat) : Int), .int .i64 c, .int .i64 k] w (.int .i64 xDomain1) ∧
    (∃ (l12Bus : Int),
    PureX [] Tryz.prog fn_spec_l12Busiest #[.agg #[.int .i64 w0, .slice w1O w1L w1C, .slice w2O w2L w2C, .slice w3O w3L w3C], .int .i64 xDomain1, .int .i64 c] w (.int .i64 l12Bus) ∧
    ((decide (l12Bus < 0)) = true →
    InR .i64 (k + 1) ∧
    xInv [.int .i64 (k + 1)] ∧ mu [.int .i64 (k + 1)] < mu [.int .i64 k]) ∧
    ((decide (l12Bus < 0)) = false →
    (∃ (xInv1 : List Value → Prop) (mu1 : List Value → Nat), xInv1 [.int .i64 0] ∧
    ∀ (t : Int), xInv1 [.int .i64 t] →
    ((decide (t < ((w2L : Nat) : Int))) = true →
    Ix w2O w2L t ∧
    (∃ (cpu : Int),
    CellsX [] w w2O (Int.toNat t * 9 + 2) [.int .i64 cpu] ∧
    (∃ (l12Cou : Bool),
    ((cpu == l12Bus) = true → PureX [] Tryz.prog fn_spec_l12Could #[.agg #[.int .i64 w0, .slice w1O w1L w1C, .slice w2O w2L w2C, .slice w3O w3L w3C], .int .i64 t, .int .i64 c] w (.bool l12Cou)) ∧
    (∃ (l12Fit : Bool),
    (((cpu == l12Bus) && l12Cou) = true → PureX [] Tryz.prog fn_spec_l12Fits #[.agg #[.int .i64 w0, .slice w1O w1L w1C, .slice w2O w2L w2C, .slice w3O w3L w3C], .int .i64 t, .int .i64 l12Bus, .int .i64 c] w (.bool l12Fit)) ∧
    ((((cpu == l12Bus) && l12Cou) && l12Fit) = true →
    R (.int .i64 t) w) ∧
    ((((cpu == l12Bus) && l12Cou) && l12Fit) = false →
    InR .i64 (t + 1) ∧
    xInv1 [.int .i64 (t + 1)] ∧ mu1 [.int .i64 (t + 1)] < mu1 [.int .i64 t]))))) ∧
    ((decide (t < ((w2L : Nat) : Int))) = false →
    InR .i64 (k + 1) ∧
    xInv [.int .i64 (k + 1)] ∧ mu [.int .i64 (k + 1)] < mu [.int .i64 k])))))) ∧
    ((decide (k < xDomain)) = false →
    R (.int .i64 (-1)) w))))
theorem v_spec_l12Pull (w0 : Int) (w1O : Option Addr) (w1L : Nat) (w1C : Nat) (w2O : Option Addr) (w2L : Nat) (w2C : Nat) (w3O : Option Addr) (w3L : Nat) (w3C : Nat) (c : Int) (w : World) (R : Value → World → Prop) : evFn c_spec_l12Pull s_spec_l12Pull [.agg #[.int .i64 w0, .slice w1O w1L w1C, .slice w2O w2L w2C, .slice w3O w3L w3C], .int .i64 c] (bodyOf Tryz.f33) Tryz.f33.results.toList w R = V_spec_l12Pull w0 w1O w1L w1C w2O w2L w2C w3O w3L w3C c w R := by kernel_rfl
theorem p_spec_l12Pull (w0 : Int) (w1O : Option Addr) (w1L : Nat) (w1C : Nat) (w2O : Option Addr) (w2L : Nat) (w2C : Nat) (w3O : Option Addr) (w3L : Nat) (w3C : Nat) (c : Int) {w : World} {bs : List Nat} {ret : Value} (hvc : ∀ wr0, ExtX bs w wr0 → V_spec_l12Pull w0 w1O w1L w1C w2O w2L w2C w3O w3L w3C c wr0 fun v0 _ => v0 = ret) : PureX bs Tryz.prog fn_spec_l12Pull #[.agg #[.int .i64 w0, .slice w1O w1L w1C, .slice w2O w2L w2C, .slice w3O w3L w3C], .int .i64 c] w ret :=
  pure_of_ev (C := c_spec_l12Pull) (sps := s_spec_l12Pull) (body := bodyOf Tryz.f33) (env _ _ _ _ _) Tryz.func33 rfl rfl (of_decide_eq_true (by kernel_rfl)) (of_decide_eq_true (by kernel_rfl)) rfl rfl fun wr0 hx0 => by rw [v_spec_l12Pull]; exact hvc wr0 hx0
noncomputable def c_spec_CpuPull : Cfg := { P := Tryz.prog, T := tblGet tbl, pf := pfT, ef := efT, tt := ttT, vis := [], n := 22, pm := true, wr := false }
noncomputable def s_spec_CpuPull : List (Nat × LSpec) := []
def V_spec_CpuPull (w0 : Int) (w1O : Option Addr) (w1L : Nat) (w1C : Nat) (w2O : Option Addr) (w2L : Nat) (w2C : Nat) (w3O : Option Addr) (w3L : Nat) (w3C : Nat) (cpu : Int) (w : World) (R : Value → World → Prop) : Prop :=
    (∀ b, w.heap.size ≤ b →
    (∃ (xWorldO : Bool),
    PureX [] Tryz.prog fn_spec_WorldOk #[.agg #[.int .i64 w0, .slice w1O w1L w1C, .slice w2O w2L w2C, .slice w3O w3L w3C]] w (.bool xWorldO) ∧
    (∃ (l9Up : Bool),
    ((!xWorldO) = false → PureX [] Tryz.prog fn_spec_l9Up #[.agg #[.int .i64 w0, .slice w1O w1L w1C, .slice w2O w2L w2C, .slice w3O w3L w3C], .int .i64 cpu] w (.bool l9Up)) ∧
    (((!xWorldO) || (!l9Up)) = true →
    R (.tuple #[.int .i64 0, .bool false]) w) ∧
    (((!xWorldO) || (!l9Up)) = false →
    (∃ (l12Pul : Int),
    PureX [] Tryz.prog fn_spec_l12Pull #[.agg #[.int .i64 w0, .slice w1O w1L w1C, .slice w2O w2L w2C, .slice w3O w3L w3C], .int .i64 cpu] w (.int .i64 l12Pul) ∧
    ((decide (l12Pul < 0)) = true →
    R (.tuple #[.int .i64 0, .bool false]) w) ∧
    ((decide (l12Pul < 0)) = false →
    R (.tuple #[.int .i64 l12Pul, .bool true]) w))))))
theorem v_spec_CpuPull (w0 : Int) (w1O : Option Addr) (w1L : Nat) (w1C : Nat) (w2O : Option Addr) (w2L : Nat) (w2C : Nat) (w3O : Option Addr) (w3L : Nat) (w3C : Nat) (cpu : Int) (w : World) (R : Value → World → Prop) : evFn c_spec_CpuPull s_spec_CpuPull [.agg #[.int .i64 w0, .slice w1O w1L w1C, .slice w2O w2L w2C, .slice w3O w3L w3C], .int .i64 cpu] (bodyOf Tryz.f10) Tryz.f10.results.toList w R = V_spec_CpuPull w0 w1O w1L w1C w2O w2L w2C w3O w3L w3C cpu w R := by kernel_rfl
theorem p_spec_CpuPull (w0 : Int) (w1O : Option Addr) (w1L : Nat) (w1C : Nat) (w2O : Option Addr) (w2L : Nat) (w2C : Nat) (w3O : Option Addr) (w3L : Nat) (w3C : Nat) (cpu : Int) {w : World} {bs : List Nat} {ret : Value} (hvc : ∀ wr0, ExtX bs w wr0 → V_spec_CpuPull w0 w1O w1L w1C w2O w2L w2C w3O w3L w3C cpu wr0 fun v0 _ => v0 = ret) : PureX bs Tryz.prog fn_spec_CpuPull #[.agg #[.int .i64 w0, .slice w1O w1L w1C, .slice w2O w2L w2C, .slice w3O w3L w3C], .int .i64 cpu] w ret :=
  pure_of_ev (C := c_spec_CpuPull) (sps := s_spec_CpuPull) (body := bodyOf Tryz.f10) (env _ _ _ _ _) Tryz.func10 rfl rfl (of_decide_eq_true (by kernel_rfl)) (of_decide_eq_true (by kernel_rfl)) rfl rfl fun wr0 hx0 => by rw [v_spec_CpuPull]; exact hvc wr0 hx0
noncomputable def c_impl_lane_cpu : Cfg := { P := Tryz.prog, T := tblGet tbl, pf := pfT, ef := efT, tt := ttT, vis := [], n := 11, pm := true, wr := false }
noncomputable def s_impl_lane_cpu : List (Nat × LSpec) := []
def V_impl_lane_cpu (p0 : Option Addr) (p1 : Int) (w : World) (R : Value → World → Prop) : Prop :=
    (∀ b, w.heap.size ≤ b →
    p0.isSome = true ∧
    (∃ (cpusO : Option Addr) (cpusL : Nat) (cpusC : Nat),
    CellsX [] w p0 (0 + 1) [.slice cpusO cpusL cpusC] ∧
    Ix cpusO cpusL p1 ∧
    R (.pointer (cpusO.map (·.add (Int.toNat p1 * 5)))) w))
theorem v_impl_lane_cpu (p0 : Option Addr) (p1 : Int) (w : World) (R : Value → World → Prop) : evFn c_impl_lane_cpu s_impl_lane_cpu [.agg #[.pointer p0, .int .i64 p1]] (bodyOf Tryz.f108) Tryz.f108.results.toList w R = V_impl_lane_cpu p0 p1 w R := by kernel_rfl
theorem p_impl_lane_cpu (p0 : Option Addr) (p1 : Int) {w : World} {bs : List Nat} {ret : Value} (hvc : ∀ wr0, ExtX bs w wr0 → V_impl_lane_cpu p0 p1 wr0 fun v0 _ => v0 = ret) : PureX bs Tryz.prog fn_impl_lane_cpu #[.agg #[.pointer p0, .int .i64 p1]] w ret :=
  pure_of_ev (C := c_impl_lane_cpu) (sps := s_impl_lane_cpu) (body := bodyOf Tryz.f108) (env _ _ _ _ _) Tryz.func108 rfl rfl (of_decide_eq_true (by kernel_rfl)) (of_decide_eq_true (by kernel_rfl)) rfl rfl fun wr0 hx0 => by rw [v_impl_lane_cpu]; exact hvc wr0 hx0
noncomputable def c_impl_lane_couldRun : Cfg := { P := Tryz.prog, T := tblGet tbl, pf := pfT, ef := efT, tt := ttT, vis := [], n := 70, pm := true, wr := false }
noncomputable def s_impl_lane_couldRun : List (Nat × LSpec) := [(8, { chg := [(7, .int .i64)], chgL := [], keep := [2] })]
def V_impl_lane_couldRun (p0 : Option Addr) (p1 : Int) (task : Int) (w : World) (R : Value → World → Prop) : Prop :=
    (∀ b, w.heap.size ≤ b →
    p0.isSome = true ∧
    (∃ (tasksO : Option Addr) (tasksL : Nat) (tasksC : Nat),
    CellsX [] w p0 (0 + 2) [.slice tasksO tasksL tasksC] ∧
    Ix tasksO tasksL task ∧
    (∃ (x0 : Int) (x1 : Int) (x2 : Int) (x3 : Int) (x4 : Int) (x5 : Int) (x6 : Int) (x7 : Int) (x8 : Int),
    CellsX [] w tasksO (Int.toNat task * 9) [.int .i64 x0, .int .i64 x1, .int .i64 x2, .int .i64 x3, .int .i64 x4, .int .i64 x5, .int .i64 x6, .int .i64 x7, .int .i64 x8] ∧
    (∀ b1, w.heap.size ≤ b1 →
    (((x0 != 1) || (x2 == p1)) = true →
    R (.bool false) w) ∧
    (((x0 != 1) || (x2 == p1)) = false →
    (∃ (lane : Option Addr) (lane1 : Int),
    PureX [] Tryz.prog fn_impl_World_lane #[.pointer p0, .int .i64 x2] w (.agg #[.pointer lane, .int .i64 lane1]) ∧
    (∀ b2, w.heap.size ≤ b2 →
    (∃ (inLine : Bool),
    PureX [] Tryz.prog fn_impl_lane_inLine #[.agg #[.pointer lane, .int .i64 lane1], .int .i64 task] w (.bool inLine) ∧
    (∃ (cpu : Option Addr),
    ((!inLine) = false → PureX [] Tryz.prog fn_impl_lane_cpu #[.agg #[.pointer lane, .int .i64 lane1]] w (.pointer cpu)) ∧
    ((!inLine) = false → cpu.isSome = true) ∧
    (∃ (cur : Int),
    ((!inLine) = false → CellsX [] w cpu (0 + 1) [.int .i64 cur]) ∧
    (∃ (allowe : Int),
    (((!inLine) || (cur == task)) = false → PureX [] Tryz.prog fn_impl_World_allowed #[.pointer p0, .int .i64 task] w (.int .i64 allowe)) ∧
    (∃ (xMaskHa : Bool),
    (((!inLine) || (cur == task)) = false → PureX [] Tryz.prog fn_impl_MaskHas #[.int .i64 allowe, .int .i64 p1] w (.bool xMaskHa)) ∧
    ((((!inLine) || (cur == task)) || (!xMaskHa)) = true →
    R (.bool false) w) ∧
    ((((!inLine) || (cur == task)) || (!xMaskHa)) = false →
    (∃ (xInv : List Value → Prop) (mu : List Value → Nat), xInv [.int .i64 x1] ∧
    ∀ (g : Int), xInv [.int .i64 g] →
    ((g != (-1)) = true →
    (∃ (dry : Bool),
    PureX [] Tryz.prog fn_impl_lane_dry #[.agg #[.pointer p0, .int .i64 p1], .int .i64 g] w (.bool dry) ∧
    (dry = true →
    R (.bool false) w) ∧
    (dry = false →
    p0.isSome = true ∧
    (∃ (groupsO : Option Addr) (groupsL : Nat) (groupsC : Nat),
    CellsX [] w p0 (0 + 3) [.slice groupsO groupsL groupsC] ∧
    Ix groupsO groupsL g ∧
    (∃ (parent : Int),
    CellsX [] w groupsO (Int.toNat g * 14 + 1) [.int .i64 parent] ∧
    xInv [.int .i64 parent] ∧ mu [.int .i64 parent] < mu [.int .i64 g]))))) ∧
    ((g != (-1)) = false →
    R (.bool true) w)))))))))))))))
theorem v_impl_lane_couldRun (p0 : Option Addr) (p1 : Int) (task : Int) (w : World) (R : Value → World → Prop) : evFn c_impl_lane_couldRun s_impl_lane_couldRun [.agg #[.pointer p0, .int .i64 p1], .int .i64 task] (bodyOf Tryz.f56) Tryz.f56.results.toList w R = V_impl_lane_couldRun p0 p1 task w R := by kernel_rfl
theorem p_impl_lane_couldRun (p0 : Option Addr) (p1 : Int) (task : Int) {w : World} {bs : List Nat} {ret : Value} (hvc : ∀ wr0, ExtX bs w wr0 → V_impl_lane_couldRun p0 p1 task wr0 fun v0 _ => v0 = ret) : PureX bs Tryz.prog fn_impl_lane_couldRun #[.agg #[.pointer p0, .int .i64 p1], .int .i64 task] w ret :=
  pure_of_ev (C := c_impl_lane_couldRun) (sps := s_impl_lane_couldRun) (body := bodyOf Tryz.f56) (env _ _ _ _ _) Tryz.func56 rfl rfl (of_decide_eq_true (by kernel_rfl)) (of_decide_eq_true (by kernel_rfl)) rfl rfl fun wr0 hx0 => by rw [v_impl_lane_couldRun]; exact hvc wr0 hx0
noncomputable def c_impl_World_weight : Cfg := { P := Tryz.prog, T := tblGet tbl, pf := pfT, ef := efT, tt := ttT, vis := [], n := 14, pm := true, wr := false }
noncomputable def s_impl_World_weight : List (Nat × LSpec) := []
def V_impl_World_weight (wv : Option Addr) (task : Int) (w : World) (R : Value → World → Prop) : Prop :=
    wv.isSome = true ∧
    (∃ (tasksO : Option Addr) (tasksL : Nat) (tasksC : Nat),
    CellsX [] w wv (0 + 2) [.slice tasksO tasksL tasksC] ∧
    Ix tasksO tasksL task ∧
    (∃ (nice : Int),
    CellsX [] w tasksO (Int.toNat task * 9 + 3) [.int .i64 nice] ∧
    (∃ (xWeight : Int),
    PureX [] Tryz.prog fn_impl_WeightOf #[.int .i64 nice] w (.int .i64 xWeight) ∧
    R (.int .i64 xWeight) w)))
theorem v_impl_World_weight (wv : Option Addr) (task : Int) (w : World) (R : Value → World → Prop) : evFn c_impl_World_weight s_impl_World_weight [.pointer wv, .int .i64 task] (bodyOf Tryz.f64) Tryz.f64.results.toList w R = V_impl_World_weight wv task w R := by kernel_rfl
theorem p_impl_World_weight (wv : Option Addr) (task : Int) {w : World} {bs : List Nat} {ret : Value} (hvc : ∀ wr0, ExtX bs w wr0 → V_impl_World_weight wv task wr0 fun v0 _ => v0 = ret) : PureX bs Tryz.prog fn_impl_World_weight #[.pointer wv, .int .i64 task] w ret :=
  pure_of_ev (C := c_impl_World_weight) (sps := s_impl_World_weight) (body := bodyOf Tryz.f64) (env _ _ _ _ _) Tryz.func64 rfl rfl (of_decide_eq_true (by kernel_rfl)) (of_decide_eq_true (by kernel_rfl)) rfl rfl fun wr0 hx0 => by rw [v_impl_World_weight]; exact hvc wr0 hx0
noncomputable def c_impl_total : Cfg := { P := Tryz.prog, T := tblGet tbl, pf := pfT, ef := efT, tt := ttT, vis := [], n := 17, pm := true, wr := false }
noncomputable def s_impl_total : List (Nat × LSpec) := [(3, { chg := [(3, .int .i64), (8, .int .i64)], chgL := [], keep := [6, 7] })]
def V_impl_total (partsO : Option Addr) (partsL : Nat) (partsC : Nat) (w : World) (R : Value → World → Prop) : Prop :=
    (∃ (xInv : List Value → Prop) (mu : List Value → Nat), xInv [.int .i64 0, .int .i64 0] ∧
    ∀ (sum : Int) (x : Int), xInv [.int .i64 sum, .int .i64 x] →
    ((decide (x < ((partsL : Nat) : Int))) = true →
    Ix partsO partsL x ∧
    (∃ (x1 : Int),
    CellsX [] w partsO (Int.toNat x * 1) [.int .i64 x1] ∧
    InR .i64 (sum + x1) ∧
    InR .i64 (x + 1) ∧
    xInv [.int .i64 (sum + x1), .int .i64 (x + 1)] ∧ mu [.int .i64 (sum + x1), .int .i64 (x + 1)] < mu [.int .i64 sum, .int .i64 x])) ∧
    ((decide (x < ((partsL : Nat) : Int))) = false →
    R (.int .i64 sum) w))
theorem v_impl_total (partsO : Option Addr) (partsL : Nat) (partsC : Nat) (w : World) (R : Value → World → Prop) : evFn c_impl_total s_impl_total [.slice partsO partsL partsC] (bodyOf Tryz.f109) Tryz.f109.results.toList w R = V_impl_total partsO partsL partsC w R := by kernel_rfl
theorem p_impl_total (partsO : Option Addr) (partsL : Nat) (partsC : Nat) {w : World} {bs : List Nat} {ret : Value} (hvc : ∀ wr0, ExtX bs w wr0 → V_impl_total partsO partsL partsC wr0 fun v0 _ => v0 = ret) : PureX bs Tryz.prog fn_impl_total #[.slice partsO partsL partsC] w ret :=
  pure_of_ev (C := c_impl_total) (sps := s_impl_total) (body := bodyOf Tryz.f109) (env _ _ _ _ _) Tryz.func109 rfl rfl (of_decide_eq_true (by kernel_rfl)) (of_decide_eq_true (by kernel_rfl)) rfl rfl fun wr0 hx0 => by rw [v_impl_total]; exact hvc wr0 hx0
noncomputable def c_impl_lane_load : Cfg := { P := Tryz.prog, T := tblGet tbl, pf := pfT, ef := efT, tt := ttT, vis := [], n := 27, pm := false, wr := false }
noncomputable def s_impl_lane_load : List (Nat × LSpec) := [(3, { chg := [(3, .slice), (11, .int .i64)], chgL := [], keep := [1, 10] })]
def V_impl_lane_load (p0 : Option Addr) (p1 : Int) (w : World) (R : Value → World → Prop) : Prop :=
    (∀ b, w.heap.size ≤ b →
    p0.isSome = true ∧
    (∃ (tasksO : Option Addr) (tasksL : Nat) (tasksC : Nat),
    CellsX [] w p0 (0 + 2) [.slice tasksO tasksL tasksC] ∧
    (∃ (xInv : List Value → World → Prop) (mu : List Value → World → Nat), (∀ wr, ExtX [] w wr → (∀ bq ∈ ([b] : List Nat), bq < wr.heap.size) → xInv [.slice none 0 0, .int .i64 0] wr) ∧
    ∀ (weightsO : Option Addr) (weightsL : Nat) (weightsC : Nat) (x : Int) wv, (∀ bq ∈ ([b] : List Nat), bq < wv.heap.size) → xInv [.slice weightsO weightsL weightsC, .int .i64 x] wv →
    ((decide (x < ((tasksL : Nat) : Int))) = true →
    (∃ (inLine : Bool),
    PureX [b] Tryz.prog fn_impl_lane_inLine #[.agg #[.pointer p0, .int .i64 p1], .int .i64 x] wv (.bool inLine) ∧
    (inLine = true →
    (∃ (weight : Int),
    PureX [b] Tryz.prog fn_impl_World_weight #[.pointer p0, .int .i64 x] wv (.int .i64 weight) ∧
    (∀ b1, wv.heap.size ≤ b1 →
    (∀ wr1, ExtX [b] wv wr1 → (∀ bq ∈ ([b, b1] : List Nat), bq < wr1.heap.size) → wr1.heap[b1]? = some (Obj.cells ([.int .i64 weight] : List Value).toArray ty_int (0, 0)) →
    (∃ (apO : Option Addr) (apL : Nat) (apC : Nat),
    ∃ wv1, (builtin .append #[ty_sl_int, ty_sl_int] ty_sl_int #[false, false] #[.slice weightsO weightsL weightsC, .slice (some (Addr.mk b1 0 none)) 1 1]).run Tryz.prog wr1 = .ok (.value (.slice apO apL apC)) wv1 ∧ Kept [b, b1] wr1 wv1 ∧
    InR .i64 (x + 1) ∧
    (∀ wr2, ExtX [b, b1] wv1 wr2 → (∀ bq ∈ ([b, b1] : List Nat), bq < wr2.heap.size) → xInv [.slice apO apL apC, .int .i64 (x + 1)] wr2 ∧ mu [.slice apO apL apC, .int .i64 (x + 1)] wr2 < mu [.slice weightsO weightsL weightsC, .int .i64 x] wv)))))) ∧
    (inLine = false →
    InR .i64 (x + 1) ∧
    (∀ wr3, ExtX [b] wv wr3 → (∀ bq ∈ ([b] : List Nat), bq < wr3.heap.size) → xInv [.slice weightsO weightsL weightsC, .int .i64 (x + 1)] wr3 ∧ mu [.slice weightsO weightsL weightsC, .int .i64 (x + 1)] wr3 < mu [.slice weightsO weightsL weightsC, .int .i64 x] wv)))) ∧
    ((decide (x < ((tasksL : Nat) : Int))) = false →
    (∃ (total : Int),
    PureX [b] Tryz.prog fn_impl_total #[.slice weightsO weightsL weightsC] wv (.int .i64 total) ∧
    (∀ wr4, ExtX [b] wv wr4 → R (.int .i64 total) wr4))))))
theorem v_impl_lane_load (p0 : Option Addr) (p1 : Int) (w : World) (R : Value → World → Prop) : evFn c_impl_lane_load s_impl_lane_load [.agg #[.pointer p0, .int .i64 p1]] (bodyOf Tryz.f59) Tryz.f59.results.toList w R = V_impl_lane_load p0 p1 w R := by kernel_rfl
theorem e_impl_lane_load (p0 : Option Addr) (p1 : Int) {w : World} {R : Value → World → Prop} (hvc : V_impl_lane_load p0 p1 w R) : Calls Tryz.prog fn_impl_lane_load #[.agg #[.pointer p0, .int .i64 p1]] w fun e0 wr0 => ∃ v0, e0 = .returned v0 ∧ R v0 wr0 :=
  eff_of_ev (C := c_impl_lane_load) (sps := s_impl_lane_load) (body := bodyOf Tryz.f59) (env _ _ _ _ _) Tryz.func59 rfl rfl (of_decide_eq_true (by kernel_rfl)) (of_decide_eq_true (by kernel_rfl)) rfl rfl (by rw [v_impl_lane_load]; exact hvc)
noncomputable def c_impl_lane_pull : Cfg := { P := Tryz.prog, T := tblGet tbl, pf := pfT, ef := efT, tt := ttT, vis := [], n := 72, pm := true, wr := false }
noncomputable def s_impl_lane_pull : List (Nat × LSpec) := [(3, { chg := [(20, .int .i64)], chgL := [], keep := [1, 4, 19] }), (9, { chg := [(39, .int .i64)], chgL := [], keep := [1, 4, 6, 7, 19, 20, 37, 38] })]
def V_impl_lane_pull (p0 : Option Addr) (p1 : Int) (w : World) (R : Value → World → Prop) : Prop :=
    (∀ b, w.heap.size ≤ b →
    (∃ (load : Int),
    PureX [] Tryz.prog fn_impl_lane_load #[.agg #[.pointer p0, .int .i64 p1]] w (.int .i64 load) ∧
    p0.isSome = true ∧
    (∃ (cpusO : Option Addr) (cpusL : Nat) (cpusC : Nat),
    CellsX [] w p0 (0 + 1) [.slice cpusO cpusL cpusC] ∧
    (∃ (xDomain : Int),
    PureX [] Tryz.prog fn_impl_DomainLevels #[.int .i64 ((cpusL : Nat) : Int)] w (.int .i64 xDomain) ∧
    (∃ (xInv : List Value → Prop) (mu : List Value → Nat), xInv [.int .i64 0] ∧
    ∀ (x : Int), xInv [.int .i64 x] →
    ((decide (x < xDomain)) = true →
    (∃ (busies : Int),
    PureX [] Tryz.prog fn_impl_lane_busiest #[.agg #[.pointer p0, .int .i64 p1], .int .i64 x] w (.int .i64 busies) ∧
    ((decide (busies < 0)) = true →
    InR .i64 (x + 1) ∧
    xInv [.int .i64 (x + 1)] ∧ mu [.int .i64 (x + 1)] < mu [.int .i64 x]) ∧
    ((decide (busies < 0)) = false →
    (∃ (lane : Option Addr) (lane1 : Int),
    PureX [] Tryz.prog fn_impl_World_lane #[.pointer p0, .int .i64 busies] w (.agg #[.pointer lane, .int .i64 lane1]) ∧
    (∃ (load1 : Int),
    PureX [] Tryz.prog fn_impl_lane_load #[.agg #[.pointer lane, .int .i64 lane1]] w (.int .i64 load1) ∧
    p0.isSome = true ∧
    (∃ (tasksO : Option Addr) (tasksL : Nat) (tasksC : Nat),
    CellsX [] w p0 (0 + 2) [.slice tasksO tasksL tasksC] ∧
    (∃ (xInv1 : List Value → Prop) (mu1 : List Value → Nat), xInv1 [.int .i64 0] ∧
    ∀ (x1 : Int), xInv1 [.int .i64 x1] →
    ((decide (x1 < ((tasksL : Nat) : Int))) = true →
    Ix tasksO tasksL x1 ∧
    (∃ (x0 : Int) (x11 : Int) (x2 : Int) (x3 : Int) (x4 : Int) (x5 : Int) (x6 : Int) (x7 : Int) (x8 : Int),
    CellsX [] w tasksO (Int.toNat x1 * 9) [.int .i64 x0, .int .i64 x11, .int .i64 x2, .int .i64 x3, .int .i64 x4, .int .i64 x5, .int .i64 x6, .int .i64 x7, .int .i64 x8] ∧
    (∀ b1, w.heap.size ≤ b1 →
    (∃ (couldR : Bool),
    ((x2 != busies) = false → PureX [] Tryz.prog fn_impl_lane_couldRun #[.agg #[.pointer p0, .int .i64 p1], .int .i64 x1] w (.bool couldR)) ∧
    (((x2 != busies) || (!couldR)) = true →
    InR .i64 (x1 + 1) ∧
    xInv1 [.int .i64 (x1 + 1)] ∧ mu1 [.int .i64 (x1 + 1)] < mu1 [.int .i64 x1]) ∧
    (((x2 != busies) || (!couldR)) = false →
    (∃ (weight : Int),
    PureX [] Tryz.prog fn_impl_World_weight #[.pointer p0, .int .i64 x1] w (.int .i64 weight) ∧
    ((load == 0) = false → InR .i64 (load + weight)) ∧
    ((load == 0) = false → InR .i64 (load1 - weight)) ∧
    (((load == 0) || (decide (load + weight ≤ load1 - weight))) = true →
    R (.tuple #[.int .i64 x1, .bool true]) w) ∧
    (((load == 0) || (decide (load + weight ≤ load1 - weight))) = false →
    InR .i64 (x1 + 1) ∧
    xInv1 [.int .i64 (x1 + 1)] ∧ mu1 [.int .i64 (x1 + 1)] < mu1 [.int .i64 x1]))))))) ∧
    ((decide (x1 < ((tasksL : Nat) : Int))) = false →
    InR .i64 (x + 1) ∧
    xInv [.int .i64 (x + 1)] ∧ mu [.int .i64 (x + 1)] < mu [.int .i64 x])))))))) ∧
    ((decide (x < xDomain)) = false →
    R (.tuple #[.int .i64 0, .bool false]) w))))))
theorem v_impl_lane_pull (p0 : Option Addr) (p1 : Int) (w : World) (R : Value → World → Prop) : evFn c_impl_lane_pull s_impl_lane_pull [.agg #[.pointer p0, .int .i64 p1]] (bodyOf Tryz.f34) Tryz.f34.results.toList w R = V_impl_lane_pull p0 p1 w R := by kernel_rfl
theorem p_impl_lane_pull (p0 : Option Addr) (p1 : Int) {w : World} {bs : List Nat} {ret : Value} (hvc : ∀ wr0, ExtX bs w wr0 → V_impl_lane_pull p0 p1 wr0 fun v0 _ => v0 = ret) : PureX bs Tryz.prog fn_impl_lane_pull #[.agg #[.pointer p0, .int .i64 p1]] w ret :=
  pure_of_ev (C := c_impl_lane_pull) (sps := s_impl_lane_pull) (body := bodyOf Tryz.f34) (env _ _ _ _ _) Tryz.func34 rfl rfl (of_decide_eq_true (by kernel_rfl)) (of_decide_eq_true (by kernel_rfl)) rfl rfl fun wr0 hx0 => by rw [v_impl_lane_pull]; exact hvc wr0 hx0
noncomputable def c_impl_CpuPull : Cfg := { P := Tryz.prog, T := tblGet tbl, pf := pfT, ef := efT, tt := ttT, vis := [2], n := 28, pm := false, wr := false }
noncomputable def s_impl_CpuPull : List (Nat × LSpec) := []
def V_impl_CpuPull (w0 : Int) (w1O : Option Addr) (w1L : Nat) (w1C : Nat) (w2O : Option Addr) (w2L : Nat) (w2C : Nat) (w3O : Option Addr) (w3L : Nat) (w3C : Nat) (cpu : Int) (w : World) (R : Value → World → Prop) : Prop :=
    (∀ b wb, ExtX [] w wb → w.heap.size ≤ b → wb.heap[b]? = some (Obj.cells ([.int .i64 w0, .slice w1O w1L w1C, .slice w2O w2L w2C, .slice w3O w3L w3C] : List Value).toArray ty_impl_World (0, 0)) → b ∉ ([] : List Nat) →
    (∃ (x0 : Int) (x1O : Option Addr) (x1L : Nat) (x1C : Nat) (x2O : Option Addr) (x2L : Nat) (x2C : Nat) (x3O : Option Addr) (x3L : Nat) (x3C : Nat),
    CellsX [] wb (some (Addr.mk b 0 none)) 0 [.int .i64 x0, .slice x1O x1L x1C, .slice x2O x2L x2C, .slice x3O x3L x3C] ∧
    (∃ (xWorldO : Bool),
    PureX [] Tryz.prog fn_impl_WorldOk #[.agg #[.int .i64 x0, .slice x1O x1L x1C, .slice x2O x2L x2C, .slice x3O x3L x3C]] wb (.bool xWorldO) ∧
    (∃ (cpuThe : Bool),
    ((!xWorldO) = false → PureX [] Tryz.prog fn_impl_World_cpuThere #[.pointer ((some (Addr.mk b 0 none)).map (·.add 0)), .int .i64 cpu] wb (.bool cpuThe)) ∧
    (∃ (cpusO : Option Addr) (cpusL : Nat) (cpusC : Nat),
    (((!xWorldO) || (!cpuThe)) = false → CellsX [] wb (some (Addr.mk b 0 none)) (0 + 1) [.slice cpusO cpusL cpusC]) ∧
    (((!xWorldO) || (!cpuThe)) = false → Ix cpusO cpusL cpu) ∧
    (∃ (up : Bool),
    (((!xWorldO) || (!cpuThe)) = false → CellsX [] wb cpusO (Int.toNat cpu * 5 + 0) [.bool up]) ∧
    ((((!xWorldO) || (!cpuThe)) || (!up)) = true →
    (∀ wr, ExtX [] wb wr → R (.tuple #[.int .i64 0, .bool false]) wr)) ∧
    ((((!xWorldO) || (!cpuThe)) || (!up)) = false →
    (∃ (lane : Option Addr) (lane1 : Int),
    PureX [] Tryz.prog fn_impl_World_lane #[.pointer ((some (Addr.mk b 0 none)).map (·.add 0)), .int .i64 cpu] wb (.agg #[.pointer lane, .int .i64 lane1]) ∧
    (∃ (pull : Int) (pull1 : Bool),
    PureX [] Tryz.prog fn_impl_lane_pull #[.agg #[.pointer lane, .int .i64 lane1]] wb (.tuple #[.int .i64 pull, .bool pull1]) ∧
    (∀ wr1, ExtX [] wb wr1 → R (.tuple #[.int .i64 pull, .bool pull1]) wr1))))))))))
theorem v_impl_CpuPull (w0 : Int) (w1O : Option Addr) (w1L : Nat) (w1C : Nat) (w2O : Option Addr) (w2L : Nat) (w2C : Nat) (w3O : Option Addr) (w3L : Nat) (w3C : Nat) (cpu : Int) (w : World) (R : Value → World → Prop) : evFn c_impl_CpuPull s_impl_CpuPull [.agg #[.int .i64 w0, .slice w1O w1L w1C, .slice w2O w2L w2C, .slice w3O w3L w3C], .int .i64 cpu] (bodyOf Tryz.f11) Tryz.f11.results.toList w R = V_impl_CpuPull w0 w1O w1L w1C w2O w2L w2C w3O w3L w3C cpu w R := by kernel_rfl
theorem e_impl_CpuPull (w0 : Int) (w1O : Option Addr) (w1L : Nat) (w1C : Nat) (w2O : Option Addr) (w2L : Nat) (w2C : Nat) (w3O : Option Addr) (w3L : Nat) (w3C : Nat) (cpu : Int) {w : World} {R : Value → World → Prop} (hvc : V_impl_CpuPull w0 w1O w1L w1C w2O w2L w2C w3O w3L w3C cpu w R) : Calls Tryz.prog fn_impl_CpuPull #[.agg #[.int .i64 w0, .slice w1O w1L w1C, .slice w2O w2L w2C, .slice w3O w3L w3C], .int .i64 cpu] w fun e0 wr0 => ∃ v0, e0 = .returned v0 ∧ R v0 wr0 :=
  eff_of_ev (C := c_impl_CpuPull) (sps := s_impl_CpuPull) (body := bodyOf Tryz.f11) (env _ _ _ _ _) Tryz.func11 rfl rfl (of_decide_eq_true (by kernel_rfl)) (of_decide_eq_true (by kernel_rfl)) rfl rfl (by rw [v_impl_CpuPull]; exact hvc)
noncomputable def c_laws_FnExactCpuPull : Cfg := { P := Tryz.prog, T := tblGet tbl, pf := pfT, ef := efT, tt := ttT, vis := [], n := 44, pm := false, wr := false }
noncomputable def s_laws_FnExactCpuPull : List (Nat × LSpec) := []
def V_laws_FnExactCpuPull (aW0 : Int) (aW1O : Option Addr) (aW1L : Nat) (aW1C : Nat) (aW2O : Option Addr) (aW2L : Nat) (aW2C : Nat) (aW3O : Option Addr) (aW3L : Nat) (aW3C : Nat) (aCpu : Int) (w : World) (R : Value → World → Prop) : Prop :=
    (∀ b, w.heap.size ≤ b →
    (∃ (szWorl : Int),
    PureX [] Tryz.prog fn_laws_szWorld #[.agg #[.int .i64 aW0, .slice aW1O aW1L aW1C, .slice aW2O aW2L aW2C, .slice aW3O aW3L aW3C], .int .i64 1048576] w (.int .i64 szWorl) ∧
    ((decide (szWorl < 0)) = true →
    (∀ wr, ExtX [] w wr → R (.bool true) wr)) ∧
    ((decide (szWorl < 0)) = false →
    (∀ wr1, ExtX [] w wr1 → (∀ bq ∈ ([b] : List Nat), bq < wr1.heap.size) →
    Calls Tryz.prog fn_laws_toWorld #[.agg #[.int .i64 aW0, .slice aW1O aW1L aW1C, .slice aW2O aW2L aW2C, .slice aW3O aW3L aW3C]] wr1 fun e wv =>
    (∃ (toWorl : Int) (toWorl1O : Option Addr) (toWorl1L : Nat) (toWorl1C : Nat) (toWorl2O : Option Addr) (toWorl2L : Nat) (toWorl2C : Nat) (toWorl3O : Option Addr) (toWorl3L : Nat) (toWorl3C : Nat),
    e = .returned (.agg #[.int .i64 toWorl, .slice toWorl1O toWorl1L toWorl1C, .slice toWorl2O toWorl2L toWorl2C, .slice toWorl3O toWorl3L toWorl3C]) ∧ Kept [b] wr1 wv ∧
    (∃ (xCpuPul : Int) (xCpuPul1 : Bool),
    PureX [b] Tryz.prog fn_spec_CpuPull #[.agg #[.int .i64 toWorl, .slice toWorl1O toWorl1L toWorl1C, .slice toWorl2O toWorl2L toWorl2C, .slice toWorl3O toWorl3L toWorl3C], .int .i64 aCpu] wv (.tuple #[.int .i64 xCpuPul, .bool xCpuPul1]) ∧
    (∀ wr2, ExtX [b] wv wr2 → (∀ bq ∈ ([b] : List Nat), bq < wr2.heap.size) →
    Calls Tryz.prog fn_laws_toWorld #[.agg #[.int .i64 aW0, .slice aW1O aW1L aW1C, .slice aW2O aW2L aW2C, .slice aW3O aW3L aW3C]] wr2 fun e1 wv1 =>
    (∃ (toWorl4 : Int) (toWorl5O : Option Addr) (toWorl5L : Nat) (toWorl5C : Nat) (toWorl6O : Option Addr) (toWorl6L : Nat) (toWorl6C : Nat) (toWorl7O : Option Addr) (toWorl7L : Nat) (toWorl7C : Nat),
    e1 = .returned (.agg #[.int .i64 toWorl4, .slice toWorl5O toWorl5L toWorl5C, .slice toWorl6O toWorl6L toWorl6C, .slice toWorl7O toWorl7L toWorl7C]) ∧ Kept [b] wr2 wv1 ∧
    (∀ b1, wv1.heap.size ≤ b1 →
    (∃ (xCpuPul2 : Int) (xCpuPul3 : Bool),
    PureX [b] Tryz.prog fn_impl_CpuPull #[.agg #[.int .i64 toWorl4, .slice toWorl5O toWorl5L toWorl5C, .slice toWorl6O toWorl6L toWorl6C, .slice toWorl7O toWorl7L toWorl7C], .int .i64 aCpu] wv1 (.tuple #[.int .i64 xCpuPul2, .bool xCpuPul3]) ∧
    (((xCpuPul2 != xCpuPul) || (!(xCpuPul3 == xCpuPul1))) = true →
    (∀ wr3, ExtX [b] wv1 wr3 → R (.bool false) wr3)) ∧
    (((xCpuPul2 != xCpuPul) || (!(xCpuPul3 == xCpuPul1))) = false →
    (∀ wr4, ExtX [b] wv1 wr4 → (∀ bq ∈ ([b, b1] : List Nat), bq < wr4.heap.size) →
    Calls Tryz.prog fn_laws_toWorld #[.agg #[.int .i64 aW0, .slice aW1O aW1L aW1C, .slice aW2O aW2L aW2C, .slice aW3O aW3L aW3C]] wr4 fun e2 wv2 =>
    (∃ (toWorl8 : Int) (toWorl9O : Option Addr) (toWorl9L : Nat) (toWorl9C : Nat) (toWorl10O : Option Addr) (toWorl10L : Nat) (toWorl10C : Nat) (toWorl11O : Option Addr) (toWorl11L : Nat) (toWorl11C : Nat),
    e2 = .returned (.agg #[.int .i64 toWorl8, .slice toWorl9O toWorl9L toWorl9C, .slice toWorl10O toWorl10L toWorl10C, .slice toWorl11O toWorl11L toWorl11C]) ∧ Kept [b, b1] wr4 wv2 ∧
    (some (ty_impl_World, ([.int .i64 toWorl4, .slice toWorl5O toWorl5L toWorl5C, .slice toWorl6O toWorl6L toWorl6C, .slice toWorl7O toWorl7L toWorl7C] : List Value)) = some (ty_impl_World, ([.int .i64 toWorl4, .slice toWorl5O toWorl5L toWorl5C, .slice toWorl6O toWorl6L toWorl6C, .slice toWorl7O toWorl7L toWorl7C] : List Value))) ∧
    (∃ (eqWorl : Bool),
    PureX [b, b1] Tryz.prog fn_laws_eqWorld #[.agg #[.int .i64 toWorl4, .slice toWorl5O toWorl5L toWorl5C, .slice toWorl6O toWorl6L toWorl6C, .slice toWorl7O toWorl7L toWorl7C], .agg #[.int .i64 toWorl8, .slice toWorl9O toWorl9L toWorl9C, .slice toWorl10O toWorl10L toWorl10C, .slice toWorl11O toWorl11L toWorl11C]] wv2 (.bool eqWorl) ∧
    ((!eqWorl) = true →
    (∀ wr5, ExtX [b, b1] wv2 wr5 → R (.bool false) wr5)) ∧
    ((!eqWorl) = false →
    (∀ wr6, ExtX [b, b1] wv2 wr6 → R (.bool true) wr6))))))))))))))))
theorem v_laws_FnExactCpuPull (aW0 : Int) (aW1O : Option Addr) (aW1L : Nat) (aW1C : Nat) (aW2O : Option Addr) (aW2L : Nat) (aW2C : Nat) (aW3O : Option Addr) (aW3L : Nat) (aW3C : Nat) (aCpu : Int) (w : World) (R : Value → World → Prop) : evFn c_laws_FnExactCpuPull s_laws_FnExactCpuPull [.agg #[.int .i64 aW0, .slice aW1O aW1L aW1C, .slice aW2O aW2L aW2C, .slice aW3O aW3L aW3C], .int .i64 aCpu] (bodyOf Tryz.f4) Tryz.f4.results.toList w R = V_laws_FnExactCpuPull aW0 aW1O aW1L aW1C aW2O aW2L aW2C aW3O aW3L aW3C aCpu w R := by kernel_rfl
theorem e_laws_FnExactCpuPull (aW0 : Int) (aW1O : Option Addr) (aW1L : Nat) (aW1C : Nat) (aW2O : Option Addr) (aW2L : Nat) (aW2C : Nat) (aW3O : Option Addr) (aW3L : Nat) (aW3C : Nat) (aCpu : Int) {w : World} {R : Value → World → Prop} (hvc : V_laws_FnExactCpuPull aW0 aW1O aW1L aW1C aW2O aW2L aW2C aW3O aW3L aW3C aCpu w R) : Calls Tryz.prog fn_laws_FnExactCpuPull #[.agg #[.int .i64 aW0, .slice aW1O aW1L aW1C, .slice aW2O aW2L aW2C, .slice aW3O aW3L aW3C], .int .i64 aCpu] w fun e0 wr0 => ∃ v0, e0 = .returned v0 ∧ R v0 wr0 :=
  eff_of_ev (C := c_laws_FnExactCpuPull) (sps := s_laws_FnExactCpuPull) (body := bodyOf Tryz.f4) (env _ _ _ _ _) Tryz.func4 rfl rfl (of_decide_eq_true (by kernel_rfl)) (of_decide_eq_true (by kernel_rfl)) rfl rfl (by rw [v_laws_FnExactCpuPull]; exact hvc)
noncomputable def c_impl_neighbors : Cfg := { P := Tryz.prog, T := tblGet tbl, pf := pfT, ef := efT, tt := ttT, vis := [], n := 26, pm := true, wr := false }
noncomputable def s_impl_neighbors : List (Nat × LSpec) := [(3, { chg := [(10, .int .i64)], chgL := [(1, [.bool, .bool, .bool, .bool])], keep := [1, 2, 6, 7, 9] })]
def V_impl_neighbors (cpus : Int) (cpu : Int) (level : Int) (w : World) (R : Value → World → Prop) : Prop :=
    (∀ b, w.heap.size ≤ b →
    (∀ b1, w.heap.size ≤ b1 →
    (∃ (xInv1 : List Value → Prop) (mu1 : List Value → Nat), xInv1 [.int .i64 0, .bool false, .bool false, .bool false, .bool false] ∧
    ∀ (x1 : Int) (l : Bool) (l1 : Bool) (l2 : Bool) (l3 : Bool), xInv1 [.int .i64 x1, .bool l, .bool l1, .bool l2, .bool l3] →
    ((decide (x1 < cpus)) = true →
    InR .i64 (level + 1) ∧
    0 ≤ level + 1 ∧
    InR .i64 (level + 1) ∧
    0 ≤ level + 1 ∧
    (0 ≤ x1 ∧ x1 < ((4 : Nat) : Int)) ∧
    (Int.toNat x1 + 0 < 4) ∧
    (∃ (l4 : Bool) (l5 : Bool) (l6 : Bool) (l7 : Bool),
    ([.bool l, .bool l1, .bool l2, .bool l3] : List Value).set (Int.toNat x1 + 0) (.bool ((Int.fdiv x1 (2 ^ (min (Int.toNat (level + 1)) 64))) == (Int.fdiv cpu (2 ^ (min (Int.toNat (level + 1)) 64))))) = [.bool l4, .bool l5, .bool l6, .bool l7] ∧
    InR .i64 (x1 + 1) ∧
    xInv1 [.int .i64 (x1 + 1), .bool l4, .bool l5, .bool l6, .bool l7] ∧ mu1 [.int .i64 (x1 + 1), .bool l4, .bool l5, .bool l6, .bool l7] < mu1 [.int .i64 x1, .bool l, .bool l1, .bool l2, .bool l3])) ∧
    ((decide (x1 < cpus)) = false →
    R (.agg #[.bool l, .bool l1, .bool l2, .bool l3]) w))))
theorem v_impl_neighbors (cpus : Int) (cpu : Int) (level : Int) (w : World) (R : Value → World → Prop) : evFn c_impl_neighbors s_impl_neighbors [.int .i64 cpus, .int .i64 cpu, .int .i64 level] (bodyOf Tryz.f105) Tryz.f105.results.toList w R = V_impl_neighbors cpus cpu level w R := by kernel_rfl
theorem p_impl_neighbors (cpus : Int) (cpu : Int) (level : Int) {w : World} {bs : List Nat} {ret : Value} (hvc : ∀ wr0, ExtX bs w wr0 → V_impl_neighbors cpus cpu level wr0 fun v0 _ => v0 = ret) : PureX bs Tryz.prog fn_impl_neighbors #[.int .i64 cpus, .int .i64 cpu, .int .i64 level] w ret :=
  pure_of_ev (C := c_impl_neighbors) (sps := s_impl_neighbors) (body := bodyOf Tryz.f105) (env _ _ _ _ _) Tryz.func105 rfl rfl (of_decide_eq_true (by kernel_rfl)) (of_decide_eq_true (by kernel_rfl)) rfl rfl fun wr0 hx0 => by rw [v_impl_neighbors]; exact hvc wr0 hx0
noncomputable def c_impl_DomainSpan : Cfg := { P := Tryz.prog, T := tblGet tbl, pf := pfT, ef := efT, tt := ttT, vis := [], n := 43, pm := true, wr := false }
noncomputable def s_impl_DomainSpan : List (Nat × LSpec) := [(5, { chg := [(7, .int .i64), (32, .int .i64)], chgL := [], keep := [31] })]
def V_impl_DomainSpan (cpus : Int) (cpu : Int) (level : Int) (w : World) (R : Value → World → Prop) : Prop :=
    (∃ (inRang : Bool),
    PureX [] Tryz.prog fn_impl_inRange #[.int .i64 cpus, .int .i64 1, .int .i64 4] w (.bool inRang) ∧
    ((!inRang) = false → InR .i64 (cpus - 1)) ∧
    (∃ (inRang1 : Bool),
    ((!inRang) = false → PureX [] Tryz.prog fn_impl_inRange #[.int .i64 cpu, .int .i64 0, .int .i64 (cpus - 1)] w (.bool inRang1)) ∧
    (∃ (xDomain : Int),
    (((!inRang) || (!inRang1)) = false → PureX [] Tryz.prog fn_impl_DomainLevels #[.int .i64 cpus] w (.int .i64 xDomain)) ∧
    (((!inRang) || (!inRang1)) = false → InR .i64 (xDomain - 1)) ∧
    (∃ (inRang2 : Bool),
    (((!inRang) || (!inRang1)) = false → PureX [] Tryz.prog fn_impl_inRange #[.int .i64 level, .int .i64 0, .int .i64 (xDomain - 1)] w (.bool inRang2)) ∧
    ((((!inRang) || (!inRang1)) || (!inRang2)) = true →
    R (.int .i64 0) w) ∧
    ((((!inRang) || (!inRang1)) || (!inRang2)) = false →
    (∃ (neighb : Bool) (neighb1 : Bool) (neighb2 : Bool) (neighb3 : Bool),
    PureX [] Tryz.prog fn_impl_neighbors #[.int .i64 cpus, .int .i64 cpu, .int .i64 level] w (.agg #[.bool neighb, .bool neighb1, .bool neighb2, .bool neighb3]) ∧
    (∃ (xInv : List Value → Prop) (mu : List Value → Nat), xInv [.int .i64 0, .int .i64 0] ∧
    ∀ (set : Int) (x : Int), xInv [.int .i64 set, .int .i64 x] →
    ((decide (x < 4)) = true →
    (∃ (x1 : Bool),
    (0 ≤ x ∧ x < ((4 : Nat) : Int) ∧ (#[.bool neighb, .bool neighb1, .bool neighb2, .bool neighb3] : Array Value)[Int.toNat x]? = some (.bool x1)) ∧
    (x1 = true →
    (0 ≤ x ∧ InR .i64 (1 * 2 ^ (min (Int.toNat x) 64))) ∧
    InR .i64 (x + 1) ∧
    xInv [.int .i64 (BitI .or .i64 set (1 * 2 ^ (min (Int.toNat x) 64))), .int .i64 (x + 1)] ∧ mu [.int .i64 (BitI .or .i64 set (1 * 2 ^ (min (Int.toNat x) 64))), .int .i64 (x + 1)] < mu [.int .i64 set, .int .i64 x]) ∧
    (x1 = false →
    InR .i64 (x + 1) ∧
    xInv [.int .i64 set, .int .i64 (x + 1)] ∧ mu [.int .i64 set, .int .i64 (x + 1)] < mu [.int .i64 set, .int .i64 x]))) ∧
    ((decide (x < 4)) = false →
    R (.int .i64 set) w))))))))
theorem v_impl_DomainSpan (cpus : Int) (cpu : Int) (level : Int) (w : World) (R : Value → World → Prop) : evFn c_impl_DomainSpan s_impl_DomainSpan [.int .i64 cpus, .int .i64 cpu, .int .i64 level] (bodyOf Tryz.f54) Tryz.f54.results.toList w R = V_impl_DomainSpan cpus cpu level w R := by kernel_rfl
theorem p_impl_DomainSpan (cpus : Int) (cpu : Int) (level : Int) {w : World} {bs : List Nat} {ret : Value} (hvc : ∀ wr0, ExtX bs w wr0 → V_impl_DomainSpan cpus cpu level wr0 fun v0 _ => v0 = ret) : PureX bs Tryz.prog fn_impl_DomainSpan #[.int .i64 cpus, .int .i64 cpu, .int .i64 level] w ret :=
  pure_of_ev (C := c_impl_DomainSpan) (sps := s_impl_DomainSpan) (body := bodyOf Tryz.f54) (env _ _ _ _ _) Tryz.func54 rfl rfl (of_decide_eq_true (by kernel_rfl)) (of_decide_eq_true (by kernel_rfl)) rfl rfl fun wr0 hx0 => by rw [v_impl_DomainSpan]; exact hvc wr0 hx0
noncomputable def c_impl_cpuSet_members : Cfg := { P := Tryz.prog, T := tblGet tbl, pf := pfT, ef := efT, tt := ttT, vis := [1], n := 4, pm := false, wr := false }
noncomputable def s_impl_cpuSet_members : List (Nat × LSpec) := []
def V_impl_cpuSet_members (m : Int) (w : World) (R : Value → World → Prop) : Prop :=
    (∀ b wb, ExtX [] w wb → w.heap.size ≤ b → wb.heap[b]? = some (Obj.cells ([.int .i64 m] : List Value).toArray ty_impl_cpuSet (0, 0)) → b ∉ ([] : List Nat) →
    (∀ wr, ExtX [] wb wr → R (.func (.func fn_impl_cpuSet_members_1) #[] #[.pointer ((some (Addr.mk b 0 none)).map (·.add 0))]) wr))
theorem v_impl_cpuSet_members (m : Int) (w : World) (R : Value → World → Prop) : evFn c_impl_cpuSet_members s_impl_cpuSet_members [.int .i64 m] (bodyOf Tryz.f55) Tryz.f55.results.toList w R = V_impl_cpuSet_members m w R := by kernel_rfl
theorem e_impl_cpuSet_members (m : Int) {w : World} {R : Value → World → Prop} (hvc : V_impl_cpuSet_members m w R) : Calls Tryz.prog fn_impl_cpuSet_members #[.int .i64 m] w fun e0 wr0 => ∃ v0, e0 = .returned v0 ∧ R v0 wr0 :=
  eff_of_ev (C := c_impl_cpuSet_members) (sps := s_impl_cpuSet_members) (body := bodyOf Tryz.f55) (env _ _ _ _ _) Tryz.func55 rfl rfl (of_decide_eq_true (by kernel_rfl)) (of_decide_eq_true (by kernel_rfl)) rfl rfl (by rw [v_impl_cpuSet_members]; exact hvc)
noncomputable def c_impl_lane_busiest_2 : Cfg := { P := Tryz.prog, T := tblGet tbl, pf := pfT, ef := efT, tt := ttT, vis := [], n := 17, pm := true, wr := false }
noncomputable def s_impl_lane_busiest_2 : List (Nat × LSpec) := []
def V_impl_lane_busiest_2 (a : Int) (b : Int) (cap : Option Addr) (w : World) (R : Value → World → Prop) : Prop :=
    cap.isSome = true ∧
    (∃ (world : Option Addr),
    CellsX [] w cap 0 [.pointer world] ∧
    (∃ (lane : Option Addr) (lane1 : Int),
    PureX [] Tryz.prog fn_impl_World_lane #[.pointer world, .int .i64 a] w (.agg #[.pointer lane, .int .i64 lane1]) ∧
    (∃ (load : Int),
    PureX [] Tryz.prog fn_impl_lane_load #[.agg #[.pointer lane, .int .i64 lane1]] w (.int .i64 load) ∧
    cap.isSome = true ∧
    (∃ (world1 : Option Addr),
    CellsX [] w cap 0 [.pointer world1] ∧
    (∃ (lane2 : Option Addr) (lane3 : Int),
    PureX [] Tryz.prog fn_impl_World_lane #[.pointer world1, .int .i64 b] w (.agg #[.pointer lane2, .int .i64 lane3]) ∧
    (∃ (load1 : Int),
    PureX [] Tryz.prog fn_impl_lane_load #[.agg #[.pointer lane2, .int .i64 lane3]] w (.int .i64 load1) ∧
    R (.bool (decide (load > load1))) w))))))
theorem v_impl_lane_busiest_2 (a : Int) (b : Int) (cap : Option Addr) (w : World) (R : Value → World → Prop) : evFn c_impl_lane_busiest_2 s_impl_lane_busiest_2 [.int .i64 a, .int .i64 b, .pointer cap] (bodyOf Tryz.f58) Tryz.f58.results.toList w R = V_impl_lane_busiest_2 a b cap w R := by kernel_rfl
theorem p_impl_lane_busiest_2 (a : Int) (b : Int) (cap : Option Addr) {w : World} {bs : List Nat} {ret : Value} (hvc : ∀ wr0, ExtX bs w wr0 → V_impl_lane_busiest_2 a b cap wr0 fun v0 _ => v0 = ret) : PureX bs Tryz.prog fn_impl_lane_busiest_2 #[.int .i64 a, .int .i64 b, .pointer cap] w ret :=
  pure_of_ev (C := c_impl_lane_busiest_2) (sps := s_impl_lane_busiest_2) (body := bodyOf Tryz.f58) (env _ _ _ _ _) Tryz.func58 rfl rfl (of_decide_eq_true (by kernel_rfl)) (of_decide_eq_true (by kernel_rfl)) rfl rfl fun wr0 hx0 => by rw [v_impl_lane_busiest_2]; exact hvc wr0 hx0
noncomputable def c_impl_cpuSet_members_1 : Cfg := { P := Tryz.prog, T := tblGet tbl, pf := pfT, ef := efT, tt := ttT, vis := [], n := 17, pm := false, wr := false }
noncomputable def s_impl_cpuSet_members_1 : List (Nat × LSpec) := [(1, { chg := [(4, .int .i64)], chgL := [], keep := [0, 1] })]
def V_impl_cpuSet_members_1 (yieldF : Fn) (yieldA : Array Value) (yieldK : Array Value) (cap : Option Addr) (w : World) (R : Value → World → Prop) : Prop :=
    (∃ (xInv : List Value → World → Prop) (mu : List Value → World → Nat), (∀ wr, ExtX [] w wr → (∀ bq ∈ ([] : List Nat), bq < wr.heap.size) → xInv [.int .i64 0] wr) ∧
    ∀ (x : Int) wv, (∀ bq ∈ ([] : List Nat), bq < wv.heap.size) → xInv [.int .i64 x] wv →
    ((decide (x < 4)) = true →
    (∃ (x1 : Int),
    CellsX [] wv cap 0 [.int .i64 x1] ∧
    (∃ (has : Bool),
    PureX [] Tryz.prog fn_impl_cpuSet_has #[.int .i64 x1, .int .i64 x] wv (.bool has) ∧
    (has = true → (∀ wr1, ExtX [] wv wr1 → (∀ bq ∈ ([] : List Nat), bq < wr1.heap.size) →
    CallF Tryz.prog (.func yieldF yieldA yieldK) [.int .i64 x] wr1 fun e wv1 =>
    (∃ (rv : Bool),
    e = .returned (.bool rv) ∧ Kept [] wr1 wv1 ∧
    ((has && (!rv)) = true →
    (∀ wr2, ExtX [] wv1 wr2 → R (.tuple #[]) wr2)) ∧
    ((has && (!rv)) = false →
    InR .i64 (x + 1) ∧
    (∀ wr3, ExtX [] wv1 wr3 → (∀ bq ∈ ([] : List Nat), bq < wr3.heap.size) → xInv [.int .i64 (x + 1)] wr3 ∧ mu [.int .i64 (x + 1)] wr3 < mu [.int .i64 x] wv))))) ∧
    ((has = true → False) →
    (false = true →
    (∀ wr4, ExtX [] wv wr4 → R (.tuple #[]) wr4)) ∧
    (false = false →
    InR .i64 (x + 1) ∧
    (∀ wr5, ExtX [] wv wr5 → (∀ bq ∈ ([] : List Nat), bq < wr5.heap.size) → xInv [.int .i64 (x + 1)] wr5 ∧ mu [.int .i64 (x + 1)] wr5 < mu [.int .i64 x] wv)))))) ∧
    ((decide (x < 4)) = false →
    (∀ wr6, ExtX [] wv wr6 → R (.tuple #[]) wr6)))
theorem v_impl_cpuSet_members_1 (yieldF : Fn) (yieldA : Array Value) (yieldK : Array Value) (cap : Option Addr) (w : World) (R : Value → World → Prop) : evFn c_impl_cpuSet_members_1 s_impl_cpuSet_members_1 [.func yieldF yieldA yieldK, .pointer cap] (bodyOf Tryz.f106) Tryz.f106.results.toList w R = V_impl_cpuSet_members_1 yieldF yieldA yieldK cap w R := by kernel_rfl
theorem e_impl_cpuSet_members_1 (yieldF : Fn) (yieldA : Array Value) (yieldK : Array Value) (cap : Option Addr) {w : World} {R : Value → World → Prop} (hvc : V_impl_cpuSet_members_1 yieldF yieldA yieldK cap w R) : Calls Tryz.prog fn_impl_cpuSet_members_1 #[.func yieldF yieldA yieldK, .pointer cap] w fun e0 wr0 => ∃ v0, e0 = .returned v0 ∧ R v0 wr0 :=
  eff_of_ev (C := c_impl_cpuSet_members_1) (sps := s_impl_cpuSet_members_1) (body := bodyOf Tryz.f106) (env _ _ _ _ _) Tryz.func106 rfl rfl (of_decide_eq_true (by kernel_rfl)) (of_decide_eq_true (by kernel_rfl)) rfl rfl (by rw [v_impl_cpuSet_members_1]; exact hvc)
noncomputable def c_impl_best_int_pre (l : Option Nat) : Cfg := { P := Tryz.prog, T := tblGet tbl, pf := pfT, ef := efT, tt := ttT, vis := [3, 6, 7], n := 22, pm := false, wr := false, rd := l }
noncomputable def s_impl_best_int_pre : List (Nat × LSpec) := []
noncomputable def t_impl_best_int_pre : List Code := [cL ((bodyOf Tryz.f57)), cL (cR ((bodyOf Tryz.f57))), cL (cR (cR ((bodyOf Tryz.f57))))]
def V_impl_best_int_pre (beforeF : Fn) (beforeA : Array Value) (beforeK : Array Value) (w : World) (R : Exit → List Value → World → Prop) : Prop :=
    (∀ b wb, ExtX [] w wb → w.heap.size ≤ b → wb.heap[b]? = some (Obj.cells ([.func beforeF beforeA beforeK] : List Value).toArray 79 (0, 0)) → b ∉ ([] : List Nat) →
    (∀ b1 wb1, ExtX [] wb wb1 → wb.heap.size ≤ b1 → wb1.heap[b1]? = some (Obj.cells ([.int .i64 0] : List Value).toArray ty_int (0, 0)) → b1 ∉ ([] : List Nat) →
    (∀ b2 wb2, ExtX [] wb1 wb2 → wb1.heap.size ≤ b2 → wb2.heap[b2]? = some (Obj.cells ([.bool false] : List Value).toArray ty_bool (0, 0)) → b2 ∉ ([] : List Nat) →
    WrX [] wb2 (some (Addr.mk b2 0 none)) 0 1 ∧
    (∀ wr, ExtX [] (sto wb2 (some (Addr.mk b2 0 none)) 0 [.bool false]) wr → R .normal [.pointer ((some (Addr.mk b 0 none)).map (·.add 0)), .pointer ((some (Addr.mk b1 0 none)).map (·.add 0)), .pointer ((some (Addr.mk b2 0 none)).map (·.add 0))] wr))))
theorem v_impl_best_int_pre (l : Option Nat) (beforeF : Fn) (beforeA : Array Value) (beforeK : Array Value) (w : World) (R : Exit → List Value → World → Prop) : evL (c_impl_best_int_pre l) s_impl_best_int_pre t_impl_best_int_pre (fragSt [(1, .func beforeF beforeA beforeK)]) w (fragK [3, 6, 7] R) = V_impl_best_int_pre beforeF beforeA beforeK w R := by kernel_rfl
theorem g_impl_best_int_pre (l : Option Nat) (beforeF : Fn) (beforeA : Array Value) (beforeK : Array Value) {w : World} {R : Exit → List Value → World → Prop} {X : Code} {Q : Exit → Act → World → Prop} {a : Act} (hn : a.tmps.size = 22) (hin : insOk [(1, .func beforeF beforeA beforeK)] a) (hvc : V_impl_best_int_pre beforeF beforeA beforeK w R) (hX : ∀ vs a1 w1, R .normal vs w1 → FrO (dstsLs t_impl_best_int_pre) [3, 6, 7] a a1 vs → X.wpIn (fnc l) 0 Tryz.prog Q a1 w1) (hQ : ∀ e vs a1 w1, e ≠ .normal → R e vs w1 → FrO (dstsLs t_impl_best_int_pre) [3, 6, 7] a a1 vs → Q e a1 w1) : (seqs t_impl_best_int_pre X).wpIn (fnc l) 0 Tryz.prog Q a w :=
  fragL (C := c_impl_best_int_pre l) (env _ _ _ _ _) hn hin (by rw [v_impl_best_int_pre]; exact hvc) hX hQ
noncomputable def c_impl_best_int_mid (l : Option Nat) : Cfg := { P := Tryz.prog, T := tblGet tbl, pf := pfT, ef := efT, tt := ttT, vis := [], n := 22, pm := false, wr := false, rd := l }
noncomputable def s_impl_best_int_mid : List (Nat × LSpec) := []
noncomputable def t_impl_best_int_mid : Code := (cL (cL (cR (cR (cR ((bodyOf Tryz.f57)))))))
def V_impl_best_int_mid (fromvF : Fn) (fromvA : Array Value) (fromvK : Array Value) (w : World) (R : Exit → List Value → World → Prop) : Prop :=
    (∀ wr, ExtX [] w wr → R .normal [.func fromvF fromvA fromvK] wr)
theorem v_impl_best_int_mid (l : Option Nat) (fromvF : Fn) (fromvA : Array Value) (fromvK : Array Value) (w : World) (R : Exit → List Value → World → Prop) : evC (c_impl_best_int_mid l) s_impl_best_int_mid t_impl_best_int_mid (fragSt [(0, .func fromvF fromvA fromvK)]) w (fragK [9] R) = V_impl_best_int_mid fromvF fromvA fromvK w R := by kernel_rfl
theorem g_impl_best_int_mid (l : Option Nat) (fromvF : Fn) (fromvA : Array Value) (fromvK : Array Value) {w : World} {R : Exit → List Value → World → Prop} {Q : Exit → Act → World → Prop} {a : Act} (hn : a.tmps.size = 22) (hin : insOk [(0, .func fromvF fromvA fromvK)] a) (hvc : V_impl_best_int_mid fromvF fromvA fromvK w R) (hQ : ∀ e vs a1 w1, R e vs w1 → FrO (dstsC t_impl_best_int_mid) [9] a a1 vs → Q e a1 w1) : t_impl_best_int_mid.wpIn (fnc l) 0 Tryz.prog Q a w :=
  fragC (C := c_impl_best_int_mid l) (env _ _ _ _ _) hn hin (by rw [v_impl_best_int_mid]; exact hvc) hQ
noncomputable def c_impl_best_int_asg (l : Option Nat) : Cfg := { P := Tryz.prog, T := tblGet tbl, pf := pfT, ef := efT, tt := ttT, vis := [], n := 22, pm := false, wr := false, rd := l }
noncomputable def s_impl_best_int_asg : List (Nat × LSpec) := []
noncomputable def t_impl_best_int_asg : Code := (rfA (cB (cR (cL (cR (cR (cR ((bodyOf Tryz.f57)))))))))
def V_impl_best_int_asg (x : Int) (w : World) (R : Exit → List Value → World → Prop) : Prop :=
    (∀ wr, ExtX [] w wr → R .normal [.int .i64 x] wr)
theorem v_impl_best_int_asg (l : Option Nat) (x : Int) (w : World) (R : Exit → List Value → World → Prop) : evC (c_impl_best_int_asg l) s_impl_best_int_asg t_impl_best_int_asg (fragSt [(10, .int .i64 x)]) w (fragK [8] R) = V_impl_best_int_asg x w R := by kernel_rfl
theorem g_impl_best_int_asg (l : Option Nat) (x : Int) {w : World} {R : Exit → List Value → World → Prop} {Q : Exit → Act → World → Prop} {a : Act} (hn : a.tmps.size = 22) (hin : insOk [(10, .int .i64 x)] a) (hvc : V_impl_best_int_asg x w R) (hQ : ∀ e vs a1 w1, R e vs w1 → FrO (dstsC t_impl_best_int_asg) [8] a a1 vs → Q e a1 w1) : t_impl_best_int_asg.wpIn (fnc l) 0 Tryz.prog Q a w :=
  fragC (C := c_impl_best_int_asg l) (env _ _ _ _ _) hn hin (by rw [v_impl_best_int_asg]; exact hvc) hQ
noncomputable def c_impl_best_int_body (l : Option Nat) : Cfg := { P := Tryz.prog, T := tblGet tbl, pf := pfT, ef := efT, tt := ttT, vis := [], n := 22, pm := false, wr := false, rd := l }
noncomputable def s_impl_best_int_body : List (Nat × LSpec) := []
noncomputable def t_impl_best_int_body : Code := (rfB (cB (cR (cL (cR (cR (cR ((bodyOf Tryz.f57)))))))))
def V_impl_best_int_body (before : Option Addr) (firstv : Option Addr) (somev : Option Addr) (x : Int) (w : World) (R : Exit → List Value → World → Prop) : Prop :=
    (∃ (x1 : Bool),
    CellsX [] w somev 0 [.bool x1] ∧
    (∃ (x2F : Fn) (x2A : Array Value) (x2K : Array Value),
    ((!x1) = false → CellsX [] w before 0 [.func x2F x2A x2K]) ∧
    (∃ (x3 : Int),
    ((!x1) = false → CellsX [] w firstv 0 [.int .i64 x3]) ∧
    ((!x1) = false → (∀ wr, ExtX [] w wr → (∀ bq ∈ ([] : List Nat), bq < wr.heap.size) →
    CallF Tryz.prog (.func x2F x2A x2K) [.int .i64 x, .int .i64 x3] wr fun e wv =>
    (∃ (rv : Bool),
    e = .returned (.bool rv) ∧ Kept [] wr wv ∧
    (((!x1) || rv) = true →
    WrX [] wv firstv 0 1 ∧
    WrX [] (sto wv firstv 0 [.int .i64 x]) somev 0 1 ∧
    (∀ wr1, ExtX [] (sto (sto wv firstv 0 [.int .i64 x]) somev 0 [.bool true]) wr1 → R .normal [] wr1)) ∧
    (((!x1) || rv) = false →
    (∀ wr2, ExtX [] wv wr2 → R .normal [] wr2))))) ∧
    (((!x1) = false → False) →
    (true = true →
    WrX [] w firstv 0 1 ∧
    WrX [] (sto w firstv 0 [.int .i64 x]) somev 0 1 ∧
    (∀ wr3, ExtX [] (sto (sto w firstv 0 [.int .i64 x]) somev 0 [.bool true]) wr3 → R .normal [] wr3)) ∧
    (true = false →
    (∀ wr4, ExtX [] w wr4 → R .normal [] wr4))))))
theorem v_impl_best_int_body (l : Option Nat) (before : Option Addr) (firstv : Option Addr) (somev : Option Addr) (x : Int) (w : World) (R : Exit → List Value → World → Prop) : evC (c_impl_best_int_body l) s_impl_best_int_body t_impl_best_int_body (fragSt [(3, .pointer before), (6, .pointer firstv), (7, .pointer somev), (8, .int .i64 x)]) w (fragK [] R) = V_impl_best_int_body before firstv somev x w R := by kernel_rfl
theorem g_impl_best_int_body (l : Option Nat) (before : Option Addr) (firstv : Option Addr) (somev : Option Addr) (x : Int) {w : World} {R : Exit → List Value → World → Prop} {Q : Exit → Act → World → Prop} {a : Act} (hn : a.tmps.size = 22) (hin : insOk [(3, .pointer before), (6, .pointer firstv), (7, .pointer somev), (8, .int .i64 x)] a) (hvc : V_impl_best_int_body before firstv somev x w R) (hQ : ∀ e vs a1 w1, R e vs w1 → FrO (dstsC t_impl_best_int_body) [] a a1 vs → Q e a1 w1) : t_impl_best_int_body.wpIn (fnc l) 0 Tryz.prog Q a w :=
  fragC (C := c_impl_best_int_body l) (env _ _ _ _ _) hn hin (by rw [v_impl_best_int_body]; exact hvc) hQ
noncomputable def c_impl_best_int_post (l : Option Nat) : Cfg := { P := Tryz.prog, T := tblGet tbl, pf := pfT, ef := efT, tt := ttT, vis := [], n := 22, pm := false, wr := false, rd := l }
noncomputable def s_impl_best_int_post : List (Nat × LSpec) := []
noncomputable def t_impl_best_int_post : Code := (cR (cR (cR (cR ((bodyOf Tryz.f57))))))
def V_impl_best_int_post (firstv : Option Addr) (somev : Option Addr) (w : World) (R : Exit → List Value → World → Prop) : Prop :=
    (∃ (x : Int),
    CellsX [] w firstv 0 [.int .i64 x] ∧
    (∃ (x1 : Bool),
    CellsX [] w somev 0 [.bool x1] ∧
    (∀ wr, ExtX [] w wr → R .ret [.int .i64 x, .bool x1] wr)))
theorem v_impl_best_int_post (l : Option Nat) (firstv : Option Addr) (somev : Option Addr) (w : World) (R : Exit → List Value → World → Prop) : evC (c_impl_best_int_post l) s_impl_best_int_post t_impl_best_int_post (fragSt [(6, .pointer firstv), (7, .pointer somev)]) w (fragK [4, 5] R) = V_impl_best_int_post firstv somev w R := by kernel_rfl
theorem g_impl_best_int_post (l : Option Nat) (firstv : Option Addr) (somev : Option Addr) {w : World} {R : Exit → List Value → World → Prop} {Q : Exit → Act → World → Prop} {a : Act} (hn : a.tmps.size = 22) (hin : insOk [(6, .pointer firstv), (7, .pointer somev)] a) (hvc : V_impl_best_int_post firstv somev w R) (hQ : ∀ e vs a1 w1, R e vs w1 → FrO (dstsC t_impl_best_int_post) [4, 5] a a1 vs → Q e a1 w1) : t_impl_best_int_post.wpIn (fnc l) 0 Tryz.prog Q a w :=
  fragC (C := c_impl_best_int_post l) (env _ _ _ _ _) hn hin (by rw [v_impl_best_int_post]; exact hvc) hQ
noncomputable def c_impl_lane_busiest_1_pre (l : Option Nat) : Cfg := { P := Tryz.prog, T := tblGet tbl, pf := pfT, ef := efT, tt := ttT, vis := [3], n := 44, pm := false, wr := false, rd := l }
noncomputable def s_impl_lane_busiest_1_pre : List (Nat × LSpec) := []
noncomputable def t_impl_lane_busiest_1_pre : List Code := [cL ((bodyOf Tryz.f53)), cL (cR ((bodyOf Tryz.f53)))]
def V_impl_lane_busiest_1_pre (yieldF : Fn) (yieldA : Array Value) (yieldK : Array Value) (x : Option Addr) (x1 : Option Addr) (w : World) (R : Exit → List Value → World → Prop) : Prop :=
    (∀ b wb, ExtX [] w wb → w.heap.size ≤ b → wb.heap[b]? = some (Obj.cells ([.func yieldF yieldA yieldK] : List Value).toArray 51 (0, 0)) → b ∉ ([] : List Nat) →
    x.isSome = true ∧
    (∃ (world : Option Addr),
    CellsX [] wb x 0 [.pointer world] ∧
    world.isSome = true ∧
    (∃ (cpusO : Option Addr) (cpusL : Nat) (cpusC : Nat),
    CellsX [] wb world (0 + 1) [.slice cpusO cpusL cpusC] ∧
    x.isSome = true ∧
    (∃ (atv : Int),
    CellsX [] wb x 1 [.int .i64 atv] ∧
    (∃ (x2 : Int),
    CellsX [] wb x1 0 [.int .i64 x2] ∧
    (∃ (xDomain : Int),
    PureX [] Tryz.prog fn_impl_DomainSpan #[.int .i64 ((cpusL : Nat) : Int), .int .i64 atv, .int .i64 x2] wb (.int .i64 xDomain) ∧
    (∀ wr, ExtX [] wb wr → (∀ bq ∈ ([] : List Nat), bq < wr.heap.size) →
    Calls Tryz.prog fn_impl_cpuSet_members #[.int .i64 xDomain] wr fun e wv =>
    (∃ (memberF : Fn) (memberA : Array Value) (memberK : Array Value),
    e = .returned (.func memberF memberA memberK) ∧ Kept [] wr wv ∧
    (∀ wr1, ExtX [] wv wr1 → R .normal [.func memberF memberA memberK, .pointer ((some (Addr.mk b 0 none)).map (·.add 0))] wr1)))))))))
theorem v_impl_lane_busiest_1_pre (l : Option Nat) (yieldF : Fn) (yieldA : Array Value) (yieldK : Array Value) (x : Option Addr) (x1 : Option Addr) (w : World) (R : Exit → List Value → World → Prop) : evL (c_impl_lane_busiest_1_pre l) s_impl_lane_busiest_1_pre t_impl_lane_busiest_1_pre (fragSt [(0, .func yieldF yieldA yieldK), (1, .pointer x), (2, .pointer x1)]) w (fragK [17, 3] R) = V_impl_lane_busiest_1_pre yieldF yieldA yieldK x x1 w R := by kernel_rfl
theorem g_impl_lane_busiest_1_pre (l : Option Nat) (yieldF : Fn) (yieldA : Array Value) (yieldK : Array Value) (x : Option Addr) (x1 : Option Addr) {w : World} {R : Exit → List Value → World → Prop} {X : Code} {Q : Exit → Act → World → Prop} {a : Act} (hn : a.tmps.size = 44) (hin : insOk [(0, .func yieldF yieldA yieldK), (1, .pointer x), (2, .pointer x1)] a) (hvc : V_impl_lane_busiest_1_pre yieldF yieldA yieldK x x1 w R) (hX : ∀ vs a1 w1, R .normal vs w1 → FrO (dstsLs t_impl_lane_busiest_1_pre) [17, 3] a a1 vs → X.wpIn (fnc l) 0 Tryz.prog Q a1 w1) (hQ : ∀ e vs a1 w1, e ≠ .normal → R e vs w1 → FrO (dstsLs t_impl_lane_busiest_1_pre) [17, 3] a a1 vs → Q e a1 w1) : (seqs t_impl_lane_busiest_1_pre X).wpIn (fnc l) 0 Tryz.prog Q a w :=
  fragL (C := c_impl_lane_busiest_1_pre l) (env _ _ _ _ _) hn hin (by rw [v_impl_lane_busiest_1_pre]; exact hvc) hX hQ
noncomputable def c_impl_lane_busiest_1_asg (l : Option Nat) : Cfg := { P := Tryz.prog, T := tblGet tbl, pf := pfT, ef := efT, tt := ttT, vis := [], n := 44, pm := false, wr := false, rd := l }
noncomputable def s_impl_lane_busiest_1_asg : List (Nat × LSpec) := []
noncomputable def t_impl_lane_busiest_1_asg : Code := (rfA (cB (cR (cR ((bodyOf Tryz.f53))))))
def V_impl_lane_busiest_1_asg (x : Int) (w : World) (R : Exit → List Value → World → Prop) : Prop :=
    (∀ wr, ExtX [] w wr → R .normal [.int .i64 x] wr)
theorem v_impl_lane_busiest_1_asg (l : Option Nat) (x : Int) (w : World) (R : Exit → List Value → World → Prop) : evC (c_impl_lane_busiest_1_asg l) s_impl_lane_busiest_1_asg t_impl_lane_busiest_1_asg (fragSt [(18, .int .i64 x)]) w (fragK [4] R) = V_impl_lane_busiest_1_asg x w R := by kernel_rfl
theorem g_impl_lane_busiest_1_asg (l : Option Nat) (x : Int) {w : World} {R : Exit → List Value → World → Prop} {Q : Exit → Act → World → Prop} {a : Act} (hn : a.tmps.size = 44) (hin : insOk [(18, .int .i64 x)] a) (hvc : V_impl_lane_busiest_1_asg x w R) (hQ : ∀ e vs a1 w1, R e vs w1 → FrO (dstsC t_impl_lane_busiest_1_asg) [4] a a1 vs → Q e a1 w1) : t_impl_lane_busiest_1_asg.wpIn (fnc l) 0 Tryz.prog Q a w :=
  fragC (C := c_impl_lane_busiest_1_asg l) (env _ _ _ _ _) hn hin (by rw [v_impl_lane_busiest_1_asg]; exact hvc) hQ
noncomputable def c_impl_lane_busiest_1_body (l : Option Nat) : Cfg := { P := Tryz.prog, T := tblGet tbl, pf := pfT, ef := efT, tt := ttT, vis := [], n := 44, pm := false, wr := false, rd := l }
noncomputable def s_impl_lane_busiest_1_body : List (Nat × LSpec) := [(4, { chg := [(25, .int .i64)], chgL := [], keep := [1, 3, 4, 23, 24] })]
noncomputable def t_impl_lane_busiest_1_body : Code := (rfB (cB (cR (cR ((bodyOf Tryz.f53))))))
def V_impl_lane_busiest_1_body (x : Option Addr) (yield : Option Addr) (other : Int) (w : World) (R : Exit → List Value → World → Prop) : Prop :=
    x.isSome = true ∧
    (∃ (world : Option Addr),
    CellsX [] w x 0 [.pointer world] ∧
    world.isSome = true ∧
    (∃ (tasksO : Option Addr) (tasksL : Nat) (tasksC : Nat),
    CellsX [] w world (0 + 2) [.slice tasksO tasksL tasksC] ∧
    (∃ (xInv : List Value → World → Prop) (mu : List Value → World → Nat), (∀ wr, ExtX [] w wr → (∀ bq ∈ ([] : List Nat), bq < wr.heap.size) → xInv [.int .i64 0] wr) ∧
    ∀ (x1 : Int) wv, (∀ bq ∈ ([] : List Nat), bq < wv.heap.size) → xInv [.int .i64 x1] wv →
    ((decide (x1 < ((tasksL : Nat) : Int))) = true →
    Ix tasksO tasksL x1 ∧
    (∃ (x0 : Int) (x11 : Int) (x2 : Int) (x3 : Int) (x4 : Int) (x5 : Int) (x6 : Int) (x7 : Int) (x8 : Int),
    CellsX [] wv tasksO (Int.toNat x1 * 9) [.int .i64 x0, .int .i64 x11, .int .i64 x2, .int .i64 x3, .int .i64 x4, .int .i64 x5, .int .i64 x6, .int .i64 x7, .int .i64 x8] ∧
    (∀ b, wv.heap.size ≤ b →
    (∃ (x01 : Option Addr) (x12 : Int),
    ((x2 == other) = true → CellsX [] wv x 0 [.pointer x01, .int .i64 x12]) ∧
    (∃ (couldR : Bool),
    ((x2 == other) = true → PureX [] Tryz.prog fn_impl_lane_couldRun #[.agg #[.pointer x01, .int .i64 x12], .int .i64 x1] wv (.bool couldR)) ∧
    (((x2 == other) && couldR) = true →
    (∃ (x9F : Fn) (x9A : Array Value) (x9K : Array Value),
    CellsX [] wv yield 0 [.func x9F x9A x9K] ∧
    (∀ wr1, ExtX [] wv wr1 → (∀ bq ∈ ([b] : List Nat), bq < wr1.heap.size) →
    CallF Tryz.prog (.func x9F x9A x9K) [.int .i64 other] wr1 fun e wv1 =>
    (∃ (rv : Bool),
    e = .returned (.bool rv) ∧ Kept [b] wr1 wv1 ∧
    ((!rv) = true →
    (∀ wr2, ExtX [b] wv1 wr2 → R .ret [] wr2)) ∧
    ((!rv) = false →
    (∀ wr3, ExtX [b] wv1 wr3 → R .normal [] wr3)))))) ∧
    (((x2 == other) && couldR) = false →
    InR .i64 (x1 + 1) ∧
    (∀ wr4, ExtX [] wv wr4 → (∀ bq ∈ ([b] : List Nat), bq < wr4.heap.size) → xInv [.int .i64 (x1 + 1)] wr4 ∧ mu [.int .i64 (x1 + 1)] wr4 < mu [.int .i64 x1] wv))))))) ∧
    ((decide (x1 < ((tasksL : Nat) : Int))) = false →
    (∀ wr5, ExtX [] wv wr5 → R .normal [] wr5)))))
theorem v_impl_lane_busiest_1_body (l : Option Nat) (x : Option Addr) (yield : Option Addr) (other : Int) (w : World) (R : Exit → List Value → World → Prop) : evC (c_impl_lane_busiest_1_body l) s_impl_lane_busiest_1_body t_impl_lane_busiest_1_body (fragSt [(1, .pointer x), (3, .pointer yield), (4, .int .i64 other)]) w (fragK [] R) = V_impl_lane_busiest_1_body x yield other w R := by kernel_rfl
theorem g_impl_lane_busiest_1_body (l : Option Nat) (x : Option Addr) (yield : Option Addr) (other : Int) {w : World} {R : Exit → List Value → World → Prop} {Q : Exit → Act → World → Prop} {a : Act} (hn : a.tmps.size = 44) (hin : insOk [(1, .pointer x), (3, .pointer yield), (4, .int .i64 other)] a) (hvc : V_impl_lane_busiest_1_body x yield other w R) (hQ : ∀ e vs a1 w1, R e vs w1 → FrO (dstsC t_impl_lane_busiest_1_body) [] a a1 vs → Q e a1 w1) : t_impl_lane_busiest_1_body.wpIn (fnc l) 0 Tryz.prog Q a w :=
  fragC (C := c_impl_lane_busiest_1_body l) (env _ _ _ _ _) hn hin (by rw [v_impl_lane_busiest_1_body]; exact hvc) hQ
end Go.Proofs.YtnofpcbjpcoghaaGreat
namespace Go.Proofs.YtnofpcbjpcoghaaGreat
open Go.RowKit
set_option linter.unusedVariables false
set_option linter.unusedSimpArgs false
set_option maxRecDepth 10000
theorem k_szIntS {o : Option Addr} {n c : Nat} {left : Int} {w : World} {bs : List Nat} (hn : n ≤ maxLen) (hl : 0 ≤ left) (hl2 : left ≤ 1048576) : PureX bs Tryz.prog fn_laws_szIntS #[.slice o n c, .int .i64 left] w (.int .i64 (szN n left)) :=
  p_laws_szIntS o n c left fun wr hx => by
    have := maxLen_le
    exact ⟨⟨by omega, by omega⟩, fun h => by rw [szN, if_pos (of_decide_eq_true h)], fun h => by rw [szN, if_neg (of_decide_eq_false h)]⟩
theorem k_eqIntS {a b : List Int} {aO bO : Option Addr} {aC bC : Nat} {w : World} {bs : List Nat} (ha : RdI bs w aO a) (hb : RdI bs w bO b) (ha9 : a.length ≤ maxLen) : PureX bs Tryz.prog fn_laws_eqIntS #[.slice aO a.length aC, .slice bO b.length bC] w (.bool (decide (a = b))) :=
  p_laws_eqIntS aO a.length aC bO b.length bC fun wr hx => by
    have ha := (ha.ext hx).less (cs := []) (by simp)
    have hb := (hb.ext hx).less (cs := []) (by simp)
    refine ⟨fun h => ?_, fun h => ?_⟩
    · have h : a.length ≠ b.length := by simpa [Int.ofNat_inj] using h
      rw [decide_eq_false fun e => h (by rw [e])]
    · have hl : a.length = b.length := by simpa [Int.ofNat_inj] using h
      refine loop1 a.length 0 rfl (fun k => k ≤ a.length ∧ ∀ j : Nat, j < k → gi a (j : Int) = gi b (j : Int)) ⟨Nat.zero_le _, fun j hj => absurd hj (Nat.not_lt_zero j)⟩ fun k ⟨hk, hI⟩ => ⟨fun hlt => ?_, fun hge => ?_⟩
      · have hlt := of_decide_eq_true hlt
        refine ⟨ha.ix encI_c (by omega) hlt, _, ha k (by omega) hlt, hb.ix encI_c (by omega) (by omega), _, hb k (by omega) (by omega), fun hne => ?_, fun heq => ⟨inR_nat hlt ha9, loop1_next (by omega) ?_⟩⟩
        · have hne : gi a (k : Int) ≠ gi b (k : Int) := by simpa using hne
          rw [decide_eq_false fun e => hne (by rw [e])]
        · have heq : gi a (k : Int) = gi b (k : Int) := by simpa using heq
          exact ⟨by omega, fun j hj => by
            by_cases hjk : j < k
            · exact hI j hjk
            · have : j = k := by omega
              subst this; exact heq⟩
      · have hge := of_decide_eq_false hge
        have hk : k = a.length := by omega
        subst hk
        rw [decide_eq_true (gi_ext hl hI)]
theorem k_toIntS {l : List Int} {o : Option Addr} {c : Nat} {w : World} (h : RdI [] w o l) (hl : l.length ≤ 1048576) :
    Calls Tryz.prog fn_laws_toIntS #[.slice o l.length c] w fun e w' => ∃ o' c', e = .returned (.slice o' l.length c') ∧ Own encI 1 ty_int w.heap.size w' o' c' l ∧ ExtX [] w w' := by
  refine (e_laws_toIntS o l.length c (R := fun v w' => ∃ o' c', v = .slice o' l.length c' ∧ Own encI 1 ty_int w.heap.size w' o' c' l ∧ ExtX [] w w') ?_).mono fun e w' ⟨v, he, o', c', hv, h1, h2⟩ => ⟨o', c', by rw [he, hv], h1, h2⟩
  have hm := maxLen_big
  refine fun wr hx _ => ⟨_, _, _, _, run_mk elt_Int u_sl_int l.length (by omega) (by omega) wr, kept_nil, ?_⟩
  refine loop1w l.length 0 rfl (fun k w1 => k ≤ l.length ∧ Own encI 1 ty_int wr.heap.size w1 (some ⟨wr.heap.size, 0, none⟩) l.length (l.take k ++ List.replicate (l.length - k) 0) ∧ ExtX [] wr w1) (fun w1 hx1 _ => ⟨Nat.zero_le _, by simpa using (own_made (enc := encI) elt_Int.len ty_int l.length 0 wr).ext0 hx1, (ext_alloc wr _).trans hx1⟩) fun k w1 _ ⟨hk, hO, hX⟩ => ⟨fun hlt => ?_, fun hge => ?_⟩
  · have hlt := of_decide_eq_true hlt
    have hr := (h.ext hx).ext hX
    have hlen : (l.take k ++ List.replicate (l.length - k) 0).length = l.length := by simp; omega
    have hi : ((k : Int)) < ((l.take k ++ List.replicate (l.length - k) 0).length : Int) := by rw [hlen]; exact hlt
    refine ⟨hr.ix encI_c (by omega) hlt, _, hr k (by omega) hlt, by have := hO.ix (i := (k : Int)) (by omega) hi; rwa [hlen] at this, hO.wr elt_Int.len (by simp) (by omega) hi (j := 0) (by omega), inR_nat hlt (by omega), fun w2 hx2 _ => loop1w_next (by omega) ⟨by omega, ?_, ?_⟩⟩
    · have := (hO.sto elt_Int.len (i := (k : Int)) (by omega) hi (j := 0) (vs := encI (gi l k)) (x := gi l k) (by rw [List.take_zero, List.nil_append, List.drop_eq_nil_iff.2 (by rw [Nat.zero_add, elt_Int.len, elt_Int.len]; exact Nat.le_refl _), List.append_nil]) (by rw [Nat.zero_add, elt_Int.len]; exact Nat.le_refl _)).ext0 hx2
      rwa [Int.toNat_natCast, fill_step l k (by omega)] at this
    · exact (hO.stoB _ _ hX (Nat.le_refl _)).trans hx2
  · have hge := of_decide_eq_false hge
    have hk : k = l.length := by omega
    subst hk
    simp only [List.take_length, Nat.sub_self, List.replicate_zero, List.append_nil] at hO
    exact fun w2 hx2 => ⟨_, _, rfl, (hO.ext0 hx2).mono hx.size, (hx.trans hX).trans hx2⟩
theorem k_szBoolS {o : Option Addr} {n c : Nat} {left : Int} {w : World} {bs : List Nat} (hn : n ≤ maxLen) (hl : 0 ≤ left) (hl2 : left ≤ 1048576) : PureX bs Tryz.prog fn_laws_szBoolS #[.slice o n c, .int .i64 left] w (.int .i64 (szN n left)) :=
  p_laws_szBoolS o n c left fun wr hx => by
    have := maxLen_le
    exact ⟨⟨by omega, by omega⟩, fun h => by rw [szN, if_pos (of_decide_eq_true h)], fun h => by rw [szN, if_neg (of_decide_eq_false h)]⟩
theorem k_eqBoolS {a b : List Bool} {aO bO : Option Addr} {aC bC : Nat} {w : World} {bs : List Nat} (ha : RdB bs w aO a) (hb : RdB bs w bO b) (ha9 : a.length ≤ maxLen) : PureX bs Tryz.prog fn_laws_eqBoolS #[.slice aO a.length aC, .slice bO b.length bC] w (.bool (decide (a = b))) :=
  p_laws_eqBoolS aO a.length aC bO b.length bC fun wr hx => by
    have ha := (ha.ext hx).less (cs := []) (by simp)
    have hb := (hb.ext hx).less (cs := []) (by simp)
    refine ⟨fun h => ?_, fun h => ?_⟩
    · have h : a.length ≠ b.length := by simpa [Int.ofNat_inj] using h
      rw [decide_eq_false fun e => h (by rw [e])]
    · have hl : a.length = b.length := by simpa [Int.ofNat_inj] using h
      refine loop1 a.length 0 rfl (fun k => k ≤ a.length ∧ ∀ j : Nat, j < k → gi a (j : Int) = gi b (j : Int)) ⟨Nat.zero_le _, fun j hj => absurd hj (Nat.not_lt_zero j)⟩ fun k ⟨hk, hI⟩ => ⟨fun hlt => ?_, fun hge => ?_⟩
      · have hlt := of_decide_eq_true hlt
        refine ⟨ha.ix encB_c (by omega) hlt, _, ha k (by omega) hlt, hb.ix encB_c (by omega) (by omega), _, hb k (by omega) (by omega), fun hne => ?_, fun heq => ⟨inR_nat hlt ha9, loop1_next (by omega) ?_⟩⟩
        · have hne : gi a (k : Int) ≠ gi b (k : Int) := by simpa using hne
          rw [decide_eq_false fun e => hne (by rw [e])]
        · have heq : gi a (k : Int) = gi b (k : Int) := by simpa using heq
          exact ⟨by omega, fun j hj => by
            by_cases hjk : j < k
            · exact hI j hjk
            · have : j = k := by omega
              subst this; exact heq⟩
      · have hge := of_decide_eq_false hge
        have hk : k = a.length := by omega
        subst hk
        rw [decide_eq_true (gi_ext hl hI)]
theorem k_toBoolS {l : List Bool} {o : Option Addr} {c : Nat} {w : World} (h : RdB [] w o l) (hl : l.length ≤ 1048576) :
    Calls Tryz.prog fn_laws_toBoolS #[.slice o l.length c] w fun e w' => ∃ o' c', e = .returned (.slice o' l.length c') ∧ Own encB 1 ty_bool w.heap.size w' o' c' l ∧ ExtX [] w w' := by
  refine (e_laws_toBoolS o l.length c (R := fun v w' => ∃ o' c', v = .slice o' l.length c' ∧ Own encB 1 ty_bool w.heap.size w' o' c' l ∧ ExtX [] w w') ?_).mono fun e w' ⟨v, he, o', c', hv, h1, h2⟩ => ⟨o', c', by rw [he, hv], h1, h2⟩
  have hm := maxLen_big
  refine fun wr hx _ => ⟨_, _, _, _, run_mk elt_Bool u_sl_bool l.length (by omega) (by omega) wr, kept_nil, ?_⟩
  refine loop1w l.length 0 rfl (fun k w1 => k ≤ l.length ∧ Own encB 1 ty_bool wr.heap.size w1 (some ⟨wr.heap.size, 0, none⟩) l.length (l.take k ++ List.replicate (l.length - k) false) ∧ ExtX [] wr w1) (fun w1 hx1 _ => ⟨Nat.zero_le _, by simpa using (own_made (enc := encB) elt_Bool.len ty_bool l.length false wr).ext0 hx1, (ext_alloc wr _).trans hx1⟩) fun k w1 _ ⟨hk, hO, hX⟩ => ⟨fun hlt => ?_, fun hge => ?_⟩
  · have hlt := of_decide_eq_true hlt
    have hr := (h.ext hx).ext hX
    have hlen : (l.take k ++ List.replicate (l.length - k) false).length = l.length := by simp; omega
    have hi : ((k : Int)) < ((l.take k ++ List.replicate (l.length - k) false).length : Int) := by rw [hlen]; exact hlt
    refine ⟨hr.ix encB_c (by omega) hlt, _, hr k (by omega) hlt, by have := hO.ix (i := (k : Int)) (by omega) hi; rwa [hlen] at this, hO.wr elt_Bool.len (by simp) (by omega) hi (j := 0) (by omega), inR_nat hlt (by omega), fun w2 hx2 _ => loop1w_next (by omega) ⟨by omega, ?_, ?_⟩⟩
    · have := (hO.sto elt_Bool.len (i := (k : Int)) (by omega) hi (j := 0) (vs := encB (gi l k)) (x := gi l k) (by rw [List.take_zero, List.nil_append, List.drop_eq_nil_iff.2 (by rw [Nat.zero_add, elt_Bool.len, elt_Bool.len]; exact Nat.le_refl _), List.append_nil]) (by rw [Nat.zero_add, elt_Bool.len]; exact Nat.le_refl _)).ext0 hx2
      rwa [Int.toNat_natCast, fill_step l k (by omega)] at this
    · exact (hO.stoB _ _ hX (Nat.le_refl _)).trans hx2
  · have hge := of_decide_eq_false hge
    have hk : k = l.length := by omega
    subst hk
    simp only [List.take_length, Nat.sub_self, List.replicate_zero, List.append_nil] at hO
    exact fun w2 hx2 => ⟨_, _, rfl, (hO.ext0 hx2).mono hx.size, (hx.trans hX).trans hx2⟩
theorem elt_Shelf : Elt Tryz.prog encS 5 ty_impl_Shelf 40 (⟨0, false, 0, 0, 0⟩ : Shf) := elt_of (by kernel_rfl) fun _ => rfl
theorem u_sl_impl_Shelf : Tryz.prog.underlying ty_sl_impl_Shelf = some (.slice ty_impl_Shelf) := by kernel_rfl
theorem k_szShelfS {o : Option Addr} {n c : Nat} {left : Int} {w : World} {bs : List Nat} (hn : n ≤ maxLen) (hl : 0 ≤ left) (hl2 : left ≤ 1048576) : PureX bs Tryz.prog fn_laws_szShelfS #[.slice o n c, .int .i64 left] w (.int .i64 (szN n left)) :=
  p_laws_szShelfS o n c left fun wr hx => by
    have := maxLen_le
    exact ⟨⟨by omega, by omega⟩, fun h => by rw [szN, if_pos (of_decide_eq_true h)], fun h => by rw [szN, if_neg (of_decide_eq_false h)]⟩
theorem k_eqShelf {a b : Shf} {w : World} {bs : List Nat} : PureX bs Tryz.prog fn_laws_eqShelf #[.agg (encS a).toArray, .agg (encS b).toArray] w (.bool (decide (a = b))) :=
  p_laws_eqShelf a.floor a.on a.v a.w a.sum b.floor b.on b.v b.w b.sum fun wr hx => by
    cases a; cases b
    intro _ _ _ _
    repeat' (apply And.intro <;> intro h)
    all_goals (congr 1; simp_all)
theorem k_toShelf {a : Shf} {w : World} {bs : List Nat} : PureX bs Tryz.prog fn_laws_toShelf #[.agg (encS a).toArray] w (.agg (encS a).toArray) :=
  p_laws_toShelf a.floor a.on a.v a.w a.sum fun wr hx => by
    intro _ _ _ _ _ _
    rfl
theorem k_eqShelfS {a b : List Shf} {aO bO : Option Addr} {aC bC : Nat} {w : World} {bs : List Nat} (ha : RdS bs w aO a) (hb : RdS bs w bO b) (ha9 : a.length ≤ maxLen) : PureX bs Tryz.prog fn_laws_eqShelfS #[.slice aO a.length aC, .slice bO b.length bC] w (.bool (decide (a = b))) :=
  p_laws_eqShelfS aO a.length aC bO b.length bC fun wr hx => by
    have ha := (ha.ext hx).less (cs := []) (by simp)
    have hb := (hb.ext hx).less (cs := []) (by simp)
    refine ⟨fun h => ?_, fun h => ?_⟩
    · have h : a.length ≠ b.length := by simpa [Int.ofNat_inj] using h
      rw [decide_eq_false fun e => h (by rw [e])]
    · have hl : a.length = b.length := by simpa [Int.ofNat_inj] using h
      refine loop1 a.length 0 rfl (fun k => k ≤ a.length ∧ ∀ j : Nat, j < k → gi a (j : Int) = gi b (j : Int)) ⟨Nat.zero_le _, fun j hj => absurd hj (Nat.not_lt_zero j)⟩ fun k ⟨hk, hI⟩ => ⟨fun hlt => ?_, fun hge => ?_⟩
      · have hlt := of_decide_eq_true hlt
        refine ⟨ha.ix encS_c (by omega) hlt, _, _, _, _, _, ha k (by omega) hlt, hb.ix encS_c (by omega) (by omega), _, _, _, _, _, hb k (by omega) (by omega), _, k_eqShelf (a := gi a k) (b := gi b k), fun hne => ?_, fun heq => ⟨inR_nat hlt ha9, loop1_next (by omega) ?_⟩⟩
        · have hne : gi a (k : Int) ≠ gi b (k : Int) := by simpa using hne
          rw [decide_eq_false fun e => hne (by rw [e])]
        · have heq : gi a (k : Int) = gi b (k : Int) := by simpa using heq
          exact ⟨by omega, fun j hj => by
            by_cases hjk : j < k
            · exact hI j hjk
            · have : j = k := by omega
              subst this; exact heq⟩
      · have hge := of_decide_eq_false hge
        have hk : k = a.length := by omega
        subst hk
        rw [decide_eq_true (gi_ext hl hI)]
theorem k_toShelfS {l : List Shf} {o : Option Addr} {c : Nat} {w : World} (h : RdS [] w o l) (hl : l.length ≤ 1048576) :
    Calls Tryz.prog fn_laws_toShelfS #[.slice o l.length c] w fun e w' => ∃ o' c', e = .returned (.slice o' l.length c') ∧ Own encS 5 ty_impl_Shelf w.heap.size w' o' c' l ∧ ExtX [] w w' := by
  refine (e_laws_toShelfS o l.length c (R := fun v w' => ∃ o' c', v = .slice o' l.length c' ∧ Own encS 5 ty_impl_Shelf w.heap.size w' o' c' l ∧ ExtX [] w w') ?_).mono fun e w' ⟨v, he, o', c', hv, h1, h2⟩ => ⟨o', c', by rw [he, hv], h1, h2⟩
  have hm := maxLen_big
  refine fun wr hx _ => ⟨_, _, _, _, run_mk elt_Shelf u_sl_impl_Shelf l.length (by omega) (by omega) wr, kept_nil, ?_⟩
  refine loop1w l.length 0 rfl (fun k w1 => k ≤ l.length ∧ Own encS 5 ty_impl_Shelf wr.heap.size w1 (some ⟨wr.heap.size, 0, none⟩) l.length (l.take k ++ List.replicate (l.length - k) (⟨0, false, 0, 0, 0⟩ : Shf)) ∧ ExtX [] wr w1) (fun w1 hx1 _ => ⟨Nat.zero_le _, by simpa using (own_made (enc := encS) elt_Shelf.len ty_impl_Shelf l.length (⟨0, false, 0, 0, 0⟩ : Shf) wr).ext0 hx1, (ext_alloc wr _).trans hx1⟩) fun k w1 _ ⟨hk, hO, hX⟩ => ⟨fun hlt => ?_, fun hge => ?_⟩
  · have hlt := of_decide_eq_true hlt
    have hr := (h.ext hx).ext hX
    have hlen : (l.take k ++ List.replicate (l.length - k) (⟨0, false, 0, 0, 0⟩ : Shf)).length = l.length := by simp; omega
    have hi : ((k : Int)) < ((l.take k ++ List.replicate (l.length - k) (⟨0, false, 0, 0, 0⟩ : Shf)).length : Int) := by rw [hlen]; exact hlt
    refine ⟨hr.ix encS_c (by omega) hlt, _, _, _, _, _, hr k (by omega) hlt, _, _, _, _, _, (k_toShelf (a := gi l k)), by have := hO.ix (i := (k : Int)) (by omega) hi; rwa [hlen] at this, hO.wr elt_Shelf.len (by simp) (by omega) hi (j := 0) (by omega), inR_nat hlt (by omega), fun w2 hx2 _ => loop1w_next (by omega) ⟨by omega, ?_, ?_⟩⟩
    · have := (hO.sto elt_Shelf.len (i := (k : Int)) (by omega) hi (j := 0) (vs := encS (gi l k)) (x := gi l k) (by rw [List.take_zero, List.nil_append, List.drop_eq_nil_iff.2 (by rw [Nat.zero_add, elt_Shelf.len, elt_Shelf.len]; exact Nat.le_refl _), List.append_nil]) (by rw [Nat.zero_add, elt_Shelf.len]; exact Nat.le_refl _)).ext0 hx2
      rwa [Int.toNat_natCast, fill_step l k (by omega)] at this
    · exact (hO.stoB _ _ hX (Nat.le_refl _)).trans hx2
  · have hge := of_decide_eq_false hge
    have hk : k = l.length := by omega
    subst hk
    simp only [List.take_length, Nat.sub_self, List.replicate_zero, List.append_nil] at hO
    exact fun w2 hx2 => ⟨_, _, rfl, (hO.ext0 hx2).mono hx.size, (hx.trans hX).trans hx2⟩
end Go.Proofs.YtnofpcbjpcoghaaGreat
namespace Go.Proofs.YtnofpcbjpcoghaaGreat
open Go.RowKit
set_option linter.unusedVariables false
set_option linter.unusedSimpArgs false
set_option maxRecDepth 10000
def encBd (b : Bnd) (m : MG) : List Value := [.int .i64 b.quota, .int .i64 b.pool, .int .i64 b.spent, .slice m.lO b.locals.length m.lC, .slice m.dO b.dry.length m.dC]
structure SmG (g : Grp) : Prop where
  nm : g.name.size ≤ 1048576
  lo : g.band.locals.length ≤ 1048576
  dr : g.band.dry.length ≤ 1048576
  sh : g.shelves.length ≤ 1048576
def szBd (b : Bnd) (left : Int) : Int := if szN b.locals.length left < 0 then -1 else if szN b.dry.length (szN b.locals.length left) < 0 then -1 else szN b.dry.length (szN b.locals.length left)
theorem szN_le {n : Nat} {left : Int} (h : 0 ≤ left) : szN n left ≤ left := by unfold szN; split <;> omega
theorem k_szBand {b : Bnd} {m : MG} {left : Int} {w : World} {bs : List Nat} (h1 : b.locals.length ≤ maxLen) (h2 : b.dry.length ≤ maxLen) (hl : 0 ≤ left) (hl2 : left ≤ 1048576) : PureX bs Tryz.prog fn_laws_szBand #[.agg (encBd b m).toArray, .int .i64 left] w (.int .i64 (szBd b left)) :=
  p_laws_szBand b.quota b.pool b.spent m.lO b.locals.length m.lC m.dO b.dry.length m.dC left fun wr hx => by
    intro _ _
    have hn := szN_le (n := b.locals.length) hl
    refine ⟨_, k_szIntS h1 hl hl2, fun h => ?_, fun h => ?_⟩
    · have h := of_decide_eq_true h
      rw [szBd, if_pos h]
    · have h := of_decide_eq_false h
      refine ⟨_, k_szBoolS h2 (by omega) (by omega), fun h' => ?_, fun h' => ?_⟩
      · rw [szBd, if_neg h, if_pos (of_decide_eq_true h')]
      · rw [szBd, if_neg h, if_neg (of_decide_eq_false h')]
theorem szBd_nn {b : Bnd} {left : Int} (hl : 0 ≤ left) (h : 0 ≤ szBd b left) : szBd b left ≤ left ∧ (b.locals.length : Int) ≤ left ∧ (b.dry.length : Int) ≤ left := by
  unfold szBd at h ⊢
  split at h
  · omega
  · split at h
    · omega
    · rename_i h1 h2
      rw [if_neg h1, if_neg h2]
      have a := szN_nn (n := b.locals.length) (left := left) (by omega)
      have c := szN_nn (n := b.dry.length) h
      omega
def szGp (g : Grp) (left : Int) : Int :=
  if left - (g.name.size : Int) < 0 then -1 else if szBd g.band (left - (g.name.size : Int)) < 0 then -1 else if szN g.shelves.length (szBd g.band (left - (g.name.size : Int))) < 0 then -1 else szN g.shelves.length (szBd g.band (left - (g.name.size : Int)))
theorem szGp_nn {g : Grp} {left : Int} (hl2 : left ≤ 1048576) (h : 0 ≤ szGp g left) : szGp g left ≤ left ∧ SmG g := by
  unfold szGp at h ⊢
  split at h
  · omega
  · split at h
    · omega
    · split at h
      · omega
      · rename_i h1 h2 h3
        rw [if_neg h1, if_neg h2, if_neg h3]
        have hb := szBd_nn (b := g.band) (left := left - (g.name.size : Int)) (by omega) (by omega)
        have hs := szN_nn h
        exact ⟨by omega, by omega, by omega, by omega, by omega⟩
theorem k_szGroup {g : Grp} {m : MG} {left : Int} {w : World} {bs : List Nat} (hf : FitG g) (hl : 0 ≤ left) (hl2 : left ≤ 1048576) :
    PureX bs Tryz.prog fn_laws_szGroup #[.agg (encG g m).toArray, .int .i64 left] w (.int .i64 (szGp g left)) :=
  p_laws_szGroup g.used g.parent g.name g.weight g.cpus g.period g.next g.sum g.band.quota g.band.pool g.band.spent m.lO g.band.locals.length m.lC m.dO g.band.dry.length m.dC m.sO g.shelves.length m.sC left fun wr hx => by
    have hm := maxLen_le
    have hnm := hf.nm
    intro _ _
    refine ⟨⟨by omega, by omega⟩, fun h => by rw [szGp, if_pos (of_decide_eq_true h)], fun h => ?_⟩
    have h := of_decide_eq_false h
    refine ⟨_, k_szBand (m := m) hf.lo hf.dr (by omega) (by omega), fun h2 => by rw [szGp, if_neg h, if_pos (of_decide_eq_true h2)], fun h2 => ?_⟩
    have h2 := of_decide_eq_false h2
    have hb := szBd_nn (b := g.band) (left := left - (g.name.size : Int)) (by omega) (by omega)
    exact ⟨_, k_szShelfS hf.sh (by omega) (by omega), fun h3 => by rw [szGp, if_neg h, if_neg h2, if_pos (of_decide_eq_true h3)], fun h3 => by rw [szGp, if_neg h, if_neg h2, if_neg (of_decide_eq_false h3)]⟩
def szGs : List Grp → Int → Int
  | [], x => x
  | g :: r, x => if szGp g x < 0 then -1 else szGs r (szGp g x)
theorem szGs_nn : ∀ {gs : List Grp} {x : Int}, x ≤ 1048576 → 0 ≤ szGs gs x → szGs gs x ≤ x ∧ ∀ g ∈ gs, SmG g
  | [], x, _, h => ⟨Int.le_refl _, fun g hg => by cases hg⟩
  | g :: r, x, hx, h => by
    simp only [szGs] at h ⊢
    split at h
    · omega
    · rename_i h1
      rw [if_neg h1]
      obtain ⟨a, b⟩ := szGp_nn (g := g) hx (by omega)
      obtain ⟨c, d⟩ := szGs_nn (gs := r) (x := szGp g x) (by omega) h
      exact ⟨by omega, fun y hy => by
        rcases List.mem_cons.1 hy with rfl | hy
        · exact b
        · exact d y hy⟩
def szGS (gs : List Grp) (left : Int) : Int := if left - (gs.length : Int) < 0 then -1 else szGs gs (left - (gs.length : Int))
theorem szGS_nn {gs : List Grp} {left : Int} (hl2 : left ≤ 1048576) (h : 0 ≤ szGS gs left) : szGS gs left ≤ left ∧ gs.length ≤ 1048576 ∧ ∀ i : Int, 0 ≤ i → i < (gs.length : Int) → SmG (gi gs i) := by
  unfold szGS at h ⊢
  split at h
  · omega
  · rename_i h1
    rw [if_neg h1]
    obtain ⟨a, b⟩ := szGs_nn (gs := gs) (x := left - (gs.length : Int)) (by omega) h
    exact ⟨by omega, by omega, fun i h0 hi => b _ (gi_mem h0 hi)⟩
theorem k_szGroupS {gs : List Grp} {ms : Nat → MG} {o : Option Addr} {c : Nat} {left : Int} {w : World} (h : RdG [] w o gs ms) (hf : ∀ i : Int, 0 ≤ i → i < (gs.length : Int) → FitG (gi gs i)) (hl : 0 ≤ left) (hl2 : left ≤ 1048576) (hm : gs.length ≤ maxLen) :
    PureX [] Tryz.prog fn_laws_szGroupS #[.slice o gs.length c, .int .i64 left] w (.int .i64 (szGS gs left)) :=
  p_laws_szGroupS o gs.length c left fun wr hx => by
    have hml := maxLen_le
    have h := h.ext hx
    refine ⟨⟨by omega, by omega⟩, fun h1 => by rw [szGS, if_pos (of_decide_eq_true h1)], fun h1 => ?_⟩
    have h1 := of_decide_eq_false h1
    refine loop2 gs.length 0 rfl (fun x k => k ≤ gs.length ∧ 0 ≤ x ∧ x ≤ left ∧ szGs (gs.drop k) x = szGS gs left) ⟨Nat.zero_le _, by omega, by omega, by rw [szGS, if_neg h1]; rfl⟩ fun x k ⟨hk, hx0, hx1, he⟩ => ⟨fun hlt => ?_, fun hge => ?_⟩
    · have hlt := of_decide_eq_true hlt
      have hd : gs.drop k = gi gs (k : Int) :: gs.drop (k + 1) := by rw [List.drop_eq_getElem_cons (by omega), gi_lt (by omega)]
      rw [hd] at he
      simp only [szGs] at he
      refine ⟨h.ix (by omega) hlt, _, _, _, _, _, _, _, _, _, _, _, _, _, _, _, _, _, _, _, _, h.cells k (by omega) hlt, _, k_szGroup (m := ms k) (hf k (by omega) hlt) hx0 (by omega), fun h2 => ?_, fun h2 => ?_⟩
      · rw [if_pos (of_decide_eq_true h2)] at he
        rw [← he]
      · have h2 := of_decide_eq_false h2
        rw [if_neg h2] at he
        have := (szGp_nn (g := gi gs (k : Int)) (left := x) (by omega) (by omega)).1
        exact ⟨inR_nat hlt hm, loop2_next (by omega) ⟨by omega, by omega, by omega, he⟩⟩
    · have hge := of_decide_eq_false hge
      have hk : k = gs.length := by omega
      subst hk
      rw [List.drop_length] at he
      rw [← he]; rfl
theorem strEq_iff {a b : ByteArray} : strEq a b = true ↔ a = b := by
  unfold strEq
  rw [beq_iff_eq]
  constructor
  · intro h
    have h1 : ∀ x : ByteArray, x.toList = x.data.toList := fun x => by
      have key : ∀ (n i : Nat) (r : List UInt8), n = x.size - i → ByteArray.toList.loop x i r = r.reverse ++ x.data.toList.drop i := by
        intro n
        induction n with
        | zero =>
          intro i r hn
          unfold ByteArray.toList.loop
          rw [if_neg (by omega), List.drop_eq_nil_iff.2 (by simp only [Array.length_toList]; show x.size ≤ i; omega), List.append_nil]
        | succ n ih =>
          intro i r hn
          unfold ByteArray.toList.loop
          have hi : i < x.data.toList.length := by simp only [Array.length_toList]; show i < x.size; omega
          rw [if_pos (by omega), ih (i + 1) _ (by omega), List.reverse_cons, List.append_assoc, List.singleton_append, List.drop_eq_getElem_cons hi]
          have : x.get! i = x.data.toList[i] := by
            have hi' : i < x.data.size := by simpa using hi
            simp [ByteArray.get!, getElem!_pos x.data i hi']
          rw [this]
      have := key _ 0 [] rfl
      simpa [ByteArray.toList] using this
    rw [h1, h1] at h
    cases a; cases b
    simp only at h
    congr 1
    exact Array.ext' h
  · rintro rfl; rfl
theorem strEq_eq (a b : ByteArray) : strEq a b = decide (a = b) := by
  cases h : strEq a b with
  | true => rw [decide_eq_true (strEq_iff.1 h)]
  | false => rw [decide_eq_false fun e => by rw [strEq_iff.2 e] at h; cases h]
theorem k_eqBand {a b : Bnd} {m n : MG} {w : World} {bs : List Nat} (h1 : RdI bs w m.lO a.locals) (h2 : RdB bs w m.dO a.dry) (k1 : RdI bs w n.lO b.locals) (k2 : RdB bs w n.dO b.dry) (l1 : a.locals.length ≤ maxLen) (l2 : a.dry.length ≤ maxLen) :
    PureX bs Tryz.prog fn_laws_eqBand #[.agg (encBd a m).toArray, .agg (encBd b n).toArray] w (.bool (decide (a = b))) :=
  p_laws_eqBand a.quota a.pool a.spent m.lO a.locals.length m.lC m.dO a.dry.length m.dC b.quota b.pool b.spent n.lO b.locals.length n.lC n.dO b.dry.length n.dC fun wr hx => by
    have h1 := (h1.ext hx).less (cs := []) (by simp)
    have h2 := (h2.ext hx).less (cs := []) (by simp)
    have k1 := (k1.ext hx).less (cs := []) (by simp)
    have k2 := (k2.ext hx).less (cs := []) (by simp)
    cases a; cases b
    intro _ _ _ _
    refine ⟨fun q => ?_, fun q1 => ⟨fun q => ?_, fun q2 => ⟨fun q => ?_, fun q3 => ⟨_, k_eqIntS h1 k1 l1, fun q => ?_, fun q4 => ⟨_, k_eqBoolS h2 k2 l2, fun q => ?_, fun q5 => ?_⟩⟩⟩⟩⟩ <;> (congr 1; simp_all)
theorem k_eqGroup {a b : Grp} {m n : MG} {w : World} {bs : List Nat} (h1 : RdI bs w m.lO a.band.locals) (h2 : RdB bs w m.dO a.band.dry) (h3 : RdS bs w m.sO a.shelves) (k1 : RdI bs w n.lO b.band.locals) (k2 : RdB bs w n.dO b.band.dry) (k3 : RdS bs w n.sO b.shelves)
    (l1 : a.band.locals.length ≤ maxLen) (l2 : a.band.dry.length ≤ maxLen) (l3 : a.shelves.length ≤ maxLen) :
    PureX bs Tryz.prog fn_laws_eqGroup #[.agg (encG a m).toArray, .agg (encG b n).toArray] w (.bool (decide (a = b))) :=
  p_laws_eqGroup a.used a.parent a.name a.weight a.cpus a.period a.next a.sum a.band.quota a.band.pool a.band.spent m.lO a.band.locals.length m.lC m.dO a.band.dry.length m.dC m.sO a.shelves.length m.sC
    b.used b.parent b.name b.weight b.cpus b.period b.next b.sum b.band.quota b.band.pool b.band.spent n.lO b.band.locals.length n.lC n.dO b.band.dry.length n.dC n.sO b.shelves.length n.sC fun wr hx => by
    have h1 := (h1.ext hx).less (cs := []) (by simp)
    have h2 := (h2.ext hx).less (cs := []) (by simp)
    have h3 := (h3.ext hx).less (cs := []) (by simp)
    have k1 := (k1.ext hx).less (cs := []) (by simp)
    have k2 := (k2.ext hx).less (cs := []) (by simp)
    have k3 := (k3.ext hx).less (cs := []) (by simp)
    cases a; cases b
    intro _ _ _ _
    simp only [strEq_eq]
    refine ⟨fun q => ?_, fun q1 => ⟨fun q => ?_, fun q2 => ⟨fun q => ?_, fun q3 => ⟨fun q => ?_, fun q4 => ⟨fun q => ?_, fun q5 => ⟨fun q => ?_, fun q6 => ⟨fun q => ?_, fun q7 => ⟨fun q => ?_, fun q8 => ⟨_, k_eqBand h1 h2 k1 k2 l1 l2, fun q => ?_, fun q9 => ⟨_, k_eqShelfS h3 k3 l3, fun q => ?_, fun q10 => ?_⟩⟩⟩⟩⟩⟩⟩⟩⟩⟩ <;> (congr 1; simp_all)
theorem k_eqGroupS {a b : List Grp} {am bm : Nat → MG} {aO bO : Option Addr} {aC bC : Nat} {w : World} {bs : List Nat} (ha : RdG bs w aO a am) (hb : RdG bs w bO b bm) (hs : ∀ i : Int, 0 ≤ i → i < (a.length : Int) → SmG (gi a i)) (ha9 : a.length ≤ maxLen) :
    PureX bs Tryz.prog fn_laws_eqGroupS #[.slice aO a.length aC, .slice bO b.length bC] w (.bool (decide (a = b))) :=
  p_laws_eqGroupS aO a.length aC bO b.length bC fun wr hx => by
    have ha := (ha.ext hx).less (cs := []) (by simp)
    have hb := (hb.ext hx).less (cs := []) (by simp)
    have hm := maxLen_big
    refine ⟨fun h => ?_, fun h => ?_⟩
    · have h : a.length ≠ b.length := by simpa [Int.ofNat_inj] using h
      rw [decide_eq_false fun e => h (by rw [e])]
    · have hl : a.length = b.length := by simpa [Int.ofNat_inj] using h
      refine loop1 a.length 0 rfl (fun k => k ≤ a.length ∧ ∀ j : Nat, j < k → gi a (j : Int) = gi b (j : Int)) ⟨Nat.zero_le _, fun j hj => absurd hj (Nat.not_lt_zero j)⟩ fun k ⟨hk, hI⟩ => ⟨fun hlt => ?_, fun hge => ?_⟩
      · have hlt := of_decide_eq_true hlt
        have h9 := hs k (by omega) hlt
        have hlt' : (k : Int) < (b.length : Int) := by omega
        refine ⟨ha.ix (by omega) hlt, _, _, _, _, _, _, _, _, _, _, _, _, _, _, _, _, _, _, _, _, ha.cells k (by omega) hlt, hb.ix (by omega) hlt', _, _, _, _, _, _, _, _, _, _, _, _, _, _, _, _, _, _, _, _, hb.cells k (by omega) hlt', _,
          k_eqGroup (a := gi a k) (b := gi b k) (ha.locals k (by omega) hlt) (ha.dry k (by omega) hlt) (ha.shelves k (by omega) hlt) (hb.locals k (by omega) hlt') (hb.dry k (by omega) hlt') (hb.shelves k (by omega) hlt') (by have := h9.lo; omega) (by have := h9.dr; omega) (by have := h9.sh; omega), fun hne => ?_, fun heq => ⟨inR_nat hlt ha9, loop1_next (by omega) ?_⟩⟩
        · have hne : gi a (k : Int) ≠ gi b (k : Int) := by simpa using hne
          rw [decide_eq_false fun e => hne (by rw [e])]
        · have heq : gi a (k : Int) = gi b (k : Int) := by simpa using heq
          exact ⟨by omega, fun j hj => by
            by_cases hjk : j < k
            · exact hI j hjk
            · have : j = k := by omega
              subst this; exact heq⟩
      · have hge := of_decide_eq_false hge
        have hk : k = a.length := by omega
        subst hk
        rw [decide_eq_true (gi_ext hl hI)]
def encP (p : Grp × MG) : List Value := encG p.1 p.2
def zeroG : Grp × MG := (⟨false, 0, ByteArray.empty, 0, 0, 0, 0, 0, ⟨0, 0, 0, [], []⟩, []⟩, ⟨none, 0, none, 0, none, 0⟩)
theorem elt_Group : Elt Tryz.prog encP 14 ty_impl_Group 168 zeroG := elt_of (by kernel_rfl) fun _ => rfl
theorem u_sl_impl_Group : Tryz.prog.underlying ty_sl_impl_Group = some (.slice ty_impl_Group) := by kernel_rfl
def grpBlks (m : MG) : List Nat := blkOf m.lO ++ blkOf m.dO ++ blkOf m.sO
structure OwnM (base : Nat) (w : World) (p : Grp × MG) : Prop where
  loc : Own encI 1 ty_int base w p.2.lO p.2.lC p.1.band.locals
  dry : Own encB 1 ty_bool base w p.2.dO p.2.dC p.1.band.dry
  shl : Own encS 5 ty_impl_Shelf base w p.2.sO p.2.sC p.1.shelves
theorem OwnM.ext {base : Nat} {w w' : World} {p : Grp × MG} {bs : List Nat} (h : OwnM base w p) (hx : ExtX bs w w') (hd : ∀ b ∈ grpBlks p.2, b ∉ bs) : OwnM base w' p :=
  ⟨h.loc.ext hx fun b hb => hd b (by simp [grpBlks, hb]), h.dry.ext hx fun b hb => hd b (by simp [grpBlks, hb]), h.shl.ext hx fun b hb => hd b (by simp [grpBlks, hb])⟩
theorem OwnM.ext0 {base : Nat} {w w' : World} {p : Grp × MG} (h : OwnM base w p) (hx : ExtX [] w w') : OwnM base w' p := h.ext hx (by simp)
theorem OwnM.mono {base base' : Nat} {w : World} {p : Grp × MG} (h : OwnM base w p) (hb : base' ≤ base) : OwnM base' w p := ⟨h.loc.mono hb, h.dry.mono hb, h.shl.mono hb⟩
theorem OwnM.lt {base : Nat} {w : World} {p : Grp × MG} (h : OwnM base w p) : ∀ b ∈ grpBlks p.2, base ≤ b ∧ b < w.heap.size := by
  intro b hb
  simp only [grpBlks, List.mem_append] at hb
  rcases hb with (hb | hb) | hb
  · exact h.loc.lt b hb
  · exact h.dry.lt b hb
  · exact h.shl.lt b hb
theorem OwnM.zero (base : Nat) (w : World) : OwnM base w zeroG := ⟨.inl ⟨rfl, rfl, rfl⟩, .inl ⟨rfl, rfl, rfl⟩, .inl ⟨rfl, rfl, rfl⟩⟩
structure OwnG (base : Nat) (w : World) (o : Option Addr) (cap : Nat) (ps : List (Grp × MG)) : Prop where
  row : Own encP 14 ty_impl_Group base w o cap ps
  each : ∀ i : Int, 0 ≤ i → i < (ps.length : Int) → OwnM base w (gi ps i)
  dj : ∀ i j : Int, 0 ≤ i → i < (ps.length : Int) → 0 ≤ j → j < (ps.length : Int) → i ≠ j → ∀ b ∈ grpBlks (gi ps i).2, b ∉ grpBlks (gi ps j).2
theorem OwnG.ext0 {base : Nat} {w w' : World} {o : Option Addr} {cap : Nat} {ps : List (Grp × MG)} (h : OwnG base w o cap ps) (hx : ExtX [] w w') : OwnG base w' o cap ps :=
  ⟨h.row.ext0 hx, fun i a b => (h.each i a b).ext0 hx, h.dj⟩
theorem OwnG.mono {base base' : Nat} {w : World} {o : Option Addr} {cap : Nat} {ps : List (Grp × MG)} (h : OwnG base w o cap ps) (hb : base' ≤ base) : OwnG base' w o cap ps :=
  ⟨h.row.mono hb, fun i a b => (h.each i a b).mono hb, h.dj⟩
theorem not_own_row {base : Nat} {w : World} {o : Option Addr} {cap : Nat} {ps : List (Grp × MG)} (h : Own encP 14 ty_impl_Group base w o cap ps) {base' : Nat} {p : Grp × MG} (hp : OwnM base' w p) : ∀ b ∈ grpBlks p.2, b ∉ blkOf o := by
  intro b hb hx
  simp only [grpBlks, List.mem_append] at hb
  rcases hb with (hb | hb) | hb
  · exact hp.loc.ty_ne h (by decide) b hb hx
  · exact hp.dry.ty_ne h (by decide) b hb hx
  · exact hp.shl.ty_ne h (by decide) b hb hx
theorem OwnG.rd {base : Nat} {w : World} {o : Option Addr} {cap : Nat} {ps : List (Grp × MG)} (h : OwnG base w o cap ps) {bs : List Nat} (hb : ∀ b, base ≤ b → b < w.heap.size → b ∉ bs) : RdG bs w o (ps.map (·.1)) (fun k => (gi ps (k : Int)).2) := by
  have hr := h.row.rd elt_Group.len (bs := bs) fun b hm => hb b (h.row.lt b hm).1 (h.row.lt b hm).2
  have e : ∀ i : Int, 0 ≤ i → i < (ps.length : Int) → (((i.toNat : Nat) : Int) = i) := fun i h0 _ => by omega
  refine ⟨fun i h0 hi => ?_, fun i h0 hi => ?_, fun i h0 hi => ?_, fun i h0 hi => ?_⟩
  all_goals
    rw [List.length_map] at hi
    rw [gi_map _ _ h0 hi]
    simp only [e i h0 hi]
  · exact hr i h0 hi
  · exact (h.each i h0 hi).loc.rd elt_Int.len fun b hm => hb b ((h.each i h0 hi).loc.lt b hm).1 ((h.each i h0 hi).loc.lt b hm).2
  · exact (h.each i h0 hi).dry.rd elt_Bool.len fun b hm => hb b ((h.each i h0 hi).dry.lt b hm).1 ((h.each i h0 hi).dry.lt b hm).2
  · exact (h.each i h0 hi).shl.rd elt_Shelf.len fun b hm => hb b ((h.each i h0 hi).shl.lt b hm).1 ((h.each i h0 hi).shl.lt b hm).2
theorem OwnG.put {base : Nat} {w : World} {o : Option Addr} {cap : Nat} {ps : List (Grp × MG)} (h : OwnG base w o cap ps) {i : Int} (h0 : 0 ≤ i) (hi : i < (ps.length : Int)) {p : Grp × MG} (hp : OwnM base w p)
    (hd : ∀ j : Int, 0 ≤ j → j < (ps.length : Int) → i ≠ j → ∀ b ∈ grpBlks (gi ps j).2, b ∉ grpBlks p.2) : OwnG base (sto w o (Int.toNat i * 14) (encP p)) o cap (ps.set i.toNat p) := by
  have hx := h.row.stoX (Int.toNat i * 14) (encP p)
  have hlen : (ps.set i.toNat p).length = ps.length := List.length_set
  refine ⟨?_, fun j hj hjl => ?_, fun j k hj hjl hk hkl hjk b hb hb' => ?_⟩
  · have := h.row.sto elt_Group.len h0 hi (j := 0) (vs := encP p) (x := p) (by rw [List.take_zero, List.nil_append, List.drop_eq_nil_iff.2 (by rw [Nat.zero_add, elt_Group.len, elt_Group.len]; exact Nat.le_refl _), List.append_nil]) (by rw [Nat.zero_add, elt_Group.len]; exact Nat.le_refl _)
    exact this
  · rw [hlen] at hjl
    rw [gi_set _ _ h0 hi hj]
    split
    · exact hp.ext hx (not_own_row h.row hp)
    · exact (h.each j hj hjl).ext hx (not_own_row h.row (h.each j hj hjl))
  · rw [hlen] at hjl hkl
    rw [gi_set _ _ h0 hi hj] at hb
    rw [gi_set _ _ h0 hi hk] at hb'
    by_cases e1 : i = j
    · rw [if_pos e1] at hb
      by_cases e2 : i = k
      · omega
      · rw [if_neg e2] at hb'
        exact hd k hk hkl e2 b hb' hb
    · rw [if_neg e1] at hb
      by_cases e2 : i = k
      · rw [if_pos e2] at hb'
        exact hd j hj hjl e1 b hb hb'
      · rw [if_neg e2] at hb'
        exact h.dj j k hj hjl hk hkl hjk b hb hb'
theorem k_toBand {b : Bnd} {m : MG} {w : World} (h1 : RdI [] w m.lO b.locals) (h2 : RdB [] w m.dO b.dry) (l1 : b.locals.length ≤ 1048576) (l2 : b.dry.length ≤ 1048576) :
    Calls Tryz.prog fn_laws_toBand #[.agg (encBd b m).toArray] w fun e w' => ∃ lO lC dO dC, e = .returned (.agg (encBd b ⟨lO, lC, dO, dC, none, 0⟩).toArray) ∧ Own encI 1 ty_int w.heap.size w' lO lC b.locals ∧ Own encB 1 ty_bool w.heap.size w' dO dC b.dry ∧ (∀ x ∈ blkOf lO, x ∉ blkOf dO) ∧ ExtX [] w w' := by
  refine (e_laws_toBand b.quota b.pool b.spent m.lO b.locals.length m.lC m.dO b.dry.length m.dC (R := fun v w' => ∃ lO lC dO dC, v = .agg (encBd b ⟨lO, lC, dO, dC, none, 0⟩).toArray ∧ Own encI 1 ty_int w.heap.size w' lO lC b.locals ∧ Own encB 1 ty_bool w.heap.size w' dO dC b.dry ∧ (∀ x ∈ blkOf lO, x ∉ blkOf dO) ∧ ExtX [] w w') ?_).mono fun e w' ⟨v, he, lO, lC, dO, dC, hv, h⟩ => ⟨lO, lC, dO, dC, by rw [he, hv], h⟩
  intro b0 hb0 b1 hb1 b2 hb2 wr hx hs
  refine (k_toIntS (h1.ext hx) l1).mono fun e w1 ⟨lO, lC, he, hO1, hx1⟩ => ⟨_, _, _, he, kept_of hx1 hs, fun wr1 hy1 hs1 => ?_⟩
  have hbs : ∀ x ∈ [b0, b1, b2], w.heap.size ≤ x ∨ x ∈ ([] : List Nat) := fun x hm => by
    simp only [List.mem_cons, List.not_mem_nil, or_false] at hm
    rcases hm with rfl | rfl | rfl <;> exact .inl (by assumption)
  have g1 : ExtX [] w wr1 := (hx.trans hx1).fresh hy1 hbs
  refine (k_toBoolS (h2.ext g1) l2).mono fun e w2 ⟨dO, dC, he2, hO2, hx2⟩ => ⟨_, _, _, he2, kept_of hx2 hs1, fun wr2 hy2 => ⟨lO, lC, dO, dC, rfl, ?_, ?_, ?_, (g1.trans hx2).fresh hy2 hbs⟩⟩
  · have hw : ∀ x ∈ blkOf lO, x ∉ [b0, b1, b2] := fun x hm hm' => by
      have := (hO1.lt x hm).1
      have := hs x hm'
      omega
    exact (((hO1.ext hy1 hw).ext0 hx2).ext hy2 hw).mono hx.size
  · have hw : ∀ x ∈ blkOf dO, x ∉ [b0, b1, b2] := fun x hm hm' => by
      have := (hO2.lt x hm).1
      have := hs1 x hm'
      omega
    exact (hO2.ext hy2 hw).mono g1.size
  · intro x hm hm'
    have := (hO1.lt x hm).2
    have := hy1.size
    have := (hO2.lt x hm').1
    omega
theorem k_toGroup {g : Grp} {m : MG} {w : World} (h1 : RdI [] w m.lO g.band.locals) (h2 : RdB [] w m.dO g.band.dry) (h3 : RdS [] w m.sO g.shelves) (hs : SmG g) :
    Calls Tryz.prog fn_laws_toGroup #[.agg (encG g m).toArray] w fun e w' => ∃ m', e = .returned (.agg (encG g m').toArray) ∧ OwnM w.heap.size w' (g, m') ∧ ExtX [] w w' := by
  refine (e_laws_toGroup g.used g.parent g.name g.weight g.cpus g.period g.next g.sum g.band.quota g.band.pool g.band.spent m.lO g.band.locals.length m.lC m.dO g.band.dry.length m.dC m.sO g.shelves.length m.sC (R := fun v w' => ∃ m', v = .agg (encG g m').toArray ∧ OwnM w.heap.size w' (g, m') ∧ ExtX [] w w') ?_).mono fun e w' ⟨v, he, m', hv, h⟩ => ⟨m', by rw [he, hv], h⟩
  intro b0 hb0 b1 hb1 b2 hb2 wr hx hs0
  refine (k_toBand (m := m) (h1.ext hx) (h2.ext hx) hs.lo hs.dr).mono fun e w1 ⟨lO, lC, dO, dC, he, hO1, hO2, _, hx1⟩ => ⟨_, _, _, _, _, _, _, _, _, he, kept_of hx1 hs0, fun wr1 hy1 hs1 => ?_⟩
  have hbs : ∀ x ∈ [b0, b1, b2], w.heap.size ≤ x ∨ x ∈ ([] : List Nat) := fun x hm => by
    simp only [List.mem_cons, List.not_mem_nil, or_false] at hm
    rcases hm with rfl | rfl | rfl <;> exact .inl (by assumption)
  have g1 : ExtX [] w wr1 := (hx.trans hx1).fresh hy1 hbs
  refine (k_toShelfS (h3.ext g1) hs.sh).mono fun e w2 ⟨sO, sC, he2, hO3, hx2⟩ => ⟨_, _, _, he2, kept_of hx2 hs1, fun wr2 hy2 => ⟨⟨lO, lC, dO, dC, sO, sC⟩, rfl, ⟨?_, ?_, ?_⟩, (g1.trans hx2).fresh hy2 hbs⟩⟩
  · have hw : ∀ x ∈ blkOf lO, x ∉ [b0, b1, b2] := fun x hm hm' => by
      have := (hO1.lt x hm).1
      have := hs0 x hm'
      omega
    exact (((hO1.ext hy1 hw).ext0 hx2).ext hy2 hw).mono hx.size
  · have hw : ∀ x ∈ blkOf dO, x ∉ [b0, b1, b2] := fun x hm hm' => by
      have := (hO2.lt x hm).1
      have := hs0 x hm'
      omega
    exact (((hO2.ext hy1 hw).ext0 hx2).ext hy2 hw).mono hx.size
  · have hw : ∀ x ∈ blkOf sO, x ∉ [b0, b1, b2] := fun x hm hm' => by
      have := (hO3.lt x hm).1
      have := hs1 x hm'
      omega
    exact (hO3.ext hy2 hw).mono g1.size
theorem k_toGroupS {gs : List Grp} {ms : Nat → MG} {o : Option Addr} {c : Nat} {w : World} (h : RdG [] w o gs ms) (hs : ∀ i : Int, 0 ≤ i → i < (gs.length : Int) → SmG (gi gs i)) (hl : gs.length ≤ 1048576) :
    Calls Tryz.prog fn_laws_toGroupS #[.slice o gs.length c] w fun e w' => ∃ o' c' ps, e = .returned (.slice o' gs.length c') ∧ ps.map (·.1) = gs ∧ OwnG w.heap.size w' o' c' ps ∧ ExtX [] w w' := by
  refine (e_laws_toGroupS o gs.length c (R := fun v w' => ∃ o' c' ps, v = .slice o' gs.length c' ∧ ps.map (·.1) = gs ∧ OwnG w.heap.size w' o' c' ps ∧ ExtX [] w w') ?_).mono fun e w' ⟨v, he, o', c', ps, hv, h⟩ => ⟨o', c', ps, by rw [he, hv], h⟩
  have hm := maxLen_big
  refine fun wr hx _ => ⟨_, _, _, _, run_mk elt_Group u_sl_impl_Group gs.length (by omega) (by omega) wr, kept_nil, ?_⟩
  refine loop1w gs.length 0 rfl (fun k w1 => k ≤ gs.length ∧ ExtX [] wr w1 ∧ ∃ ps : List (Grp × MG), ps.length = gs.length ∧ (∀ j : Nat, j < k → (gi ps (j : Int)).1 = gi gs (j : Int)) ∧ OwnG wr.heap.size w1 (some ⟨wr.heap.size, 0, none⟩) gs.length ps) (fun w1 hx1 _ => ⟨Nat.zero_le _, (ext_alloc wr _).trans hx1, List.replicate gs.length zeroG, by simp, fun j hj => absurd hj (Nat.not_lt_zero j), ?_⟩) fun k w1 _ ⟨hk, hX, ps, hpl, hpe, hO⟩ => ⟨fun hlt => ?_, fun hge => ?_⟩
  · have hz : ∀ i : Int, 0 ≤ i → i < ((List.replicate gs.length zeroG).length : Int) → gi (List.replicate gs.length zeroG) i = zeroG := fun i h0 hi => by
      have := gi_mem h0 hi
      exact List.eq_of_mem_replicate this
    refine ⟨(own_made (enc := encP) elt_Group.len ty_impl_Group gs.length zeroG wr).ext0 hx1, fun i h0 hi => by rw [hz i h0 hi]; exact OwnM.zero _ _, fun i j h0 hi hj hjl _ b hb => ?_⟩
    rw [hz i h0 hi] at hb
    cases hb
  · have hlt := of_decide_eq_true hlt
    have hr := (h.ext hx).ext hX
    have hi : (k : Int) < (ps.length : Int) := by omega
    refine ⟨hr.ix (by omega) hlt, _, _, _, _, _, _, _, _, _, _, _, _, _, _, _, _, _, _, _, _, hr.cells k (by omega) hlt, fun w2 hx2 _ => ?_⟩
    have hr2 := hr.ext hx2
    refine (k_toGroup (hr2.locals k (by omega) hlt) (hr2.dry k (by omega) hlt) (hr2.shelves k (by omega) hlt) (hs k (by omega) hlt)).mono fun e w3 ⟨m', he, hM, hx3⟩ => ?_
    have hO3 := hO.ext0 (hx2.trans hx3)
    have hb : wr.heap.size ≤ w2.heap.size := (hX.trans hx2).size
    have hdj : ∀ j : Int, 0 ≤ j → j < (ps.length : Int) → (k : Int) ≠ j → ∀ b ∈ grpBlks (gi ps j).2, b ∉ grpBlks m' := fun j hj hjl _ b hb hb' => by
      have h1 := ((hO.each j hj hjl).ext0 hx2).lt b hb
      have h2 := hM.lt b hb'
      omega
    have hput := hO3.put (i := (k : Int)) (by omega) hi (p := (gi gs (k : Int), m')) (hM.mono hb) hdj
    refine ⟨_, _, _, _, _, _, _, _, _, _, _, _, _, _, _, _, _, _, _, _, he, kept_nil, by have := hO.row.ix (i := (k : Int)) (by omega) hi; rwa [hpl] at this, hO3.row.wr elt_Group.len (by simp) (by omega) hi (j := 0) (n := 14) (by omega), inR_nat hlt (by omega), fun w4 hx4 _ => loop1w_next (by omega) ⟨by omega, ?_, ps.set k (gi gs (k : Int), m'), by rw [List.length_set]; exact hpl, fun j hj => ?_, hput.ext0 hx4⟩⟩
    · exact (hO3.row.stoB _ _ ((hX.trans hx2).trans hx3) (Nat.le_refl _)).trans hx4
    · have := gi_set ps (gi gs (k : Int), m') (i := (k : Int)) (by omega) hi (j := (j : Int)) (by omega)
      rw [Int.toNat_natCast] at this
      rw [this]
      by_cases hjk : (k : Int) = (j : Int)
      · have : k = j := by omega
        subst this; rw [if_pos rfl]
      · rw [if_neg hjk]; exact hpe j (by omega)
  · have hge := of_decide_eq_false hge
    have hk : k = gs.length := by omega
    subst hk
    refine fun w2 hx2 => ⟨_, _, ps, rfl, gi_ext (by simpa using hpl) fun j hj => ?_, (hO.ext0 hx2).mono hx.size, (hx.trans hX).trans hx2⟩
    rw [List.length_map] at hj
    rw [gi_map _ _ (by omega) (by omega)]
    exact hpe j (by omega)
end Go.Proofs.YtnofpcbjpcoghaaGreat
namespace Go.Proofs.YtnofpcbjpcoghaaGreat
open Go.RowKit
set_option linter.unusedVariables false
set_option linter.unusedSimpArgs false
set_option maxRecDepth 10000
theorem inR64 {z : Int} (h1 : -9223372036854775808 ≤ z) (h2 : z ≤ 9223372036854775807) : InR .i64 z := ⟨h1, h2⟩
def stp (w : Int) : Int := Int.tdiv 232792560 w
def inB (n a b : Int) : Bool := decide (n ≥ a) && decide (n ≤ b)
theorem inB_t {n a b : Int} : inB n a b = true ↔ a ≤ n ∧ n ≤ b := by simp [inB]
theorem inB_f {n a b : Int} : inB n a b = false ↔ ¬ (a ≤ n ∧ n ≤ b) := by rw [← inB_t]; simp
def vstep (n w : Int) : Int := if inB n 0 100000000 && inB w 1 20 then n * stp w else 0
def lagMost (w : Int) : Int := vstep 149 w
theorem stp_fin : ∀ k : Fin 20, stp ((k.val : Int) + 1) * ((k.val : Int) + 1) = 232792560 := by decide
theorem stp_mul {w : Int} (h1 : 1 ≤ w) (h2 : w ≤ 20) : stp w * w = 232792560 := by
  have := stp_fin ⟨(w - 1).toNat, by omega⟩
  have e : (((w - 1).toNat : Nat) : Int) + 1 = w := by omega
  simp only [e] at this
  exact this
theorem stp_lo {w : Int} (h1 : 1 ≤ w) (h2 : w ≤ 20) : 11639628 ≤ stp w ∧ stp w ≤ 232792560 := by
  have h := stp_mul h1 h2
  have hp : 0 ≤ stp w := by
    rcases Int.lt_or_le (stp w) 0 with hn | hn
    · have := Int.mul_neg_of_neg_of_pos hn (show 0 < w by omega)
      omega
    · exact hn
  constructor
  · have := Int.mul_le_mul_of_nonneg_left h2 hp
    omega
  · have := Int.mul_le_mul_of_nonneg_left h1 hp
    omega
theorem vstep_in {n w : Int} (h1 : 0 ≤ n) (h2 : n ≤ 100000000) (h3 : 1 ≤ w) (h4 : w ≤ 20) : vstep n w = n * stp w := by
  unfold vstep
  rw [if_pos]
  rw [Bool.and_eq_true, inB_t, inB_t]; exact ⟨⟨h1, h2⟩, h3, h4⟩
theorem mul_stp {n w : Int} (h1 : 0 ≤ n) (h2 : n ≤ 100000000) (h3 : 1 ≤ w) (h4 : w ≤ 20) : 0 ≤ n * stp w ∧ n * stp w ≤ 23279256000000000 := by
  have hs := stp_lo h3 h4
  refine ⟨Int.mul_nonneg h1 (by omega), ?_⟩
  calc n * stp w ≤ 100000000 * stp w := Int.mul_le_mul_of_nonneg_right h2 (by omega)
    _ ≤ 100000000 * 232792560 := Int.mul_le_mul_of_nonneg_left hs.2 (by decide)
    _ = 23279256000000000 := rfl
theorem k_impl_inRange {n a b : Int} {w : World} {bs : List Nat} : PureX bs Tryz.prog fn_impl_inRange #[.int .i64 n, .int .i64 a, .int .i64 b] w (.bool (inB n a b)) :=
  p_impl_inRange n a b fun wr hx => by unfold V_impl_inRange; rfl
theorem k_spec_l1In {n a b : Int} {w : World} {bs : List Nat} : PureX bs Tryz.prog fn_spec_l1In #[.int .i64 n, .int .i64 a, .int .i64 b] w (.bool (inB n a b)) :=
  p_spec_l1In n a b fun wr hx => by unfold V_spec_l1In; rfl
theorem k_impl_weightOk {n : Int} {w : World} {bs : List Nat} : PureX bs Tryz.prog fn_impl_weightOk #[.int .i64 n] w (.bool (inB n 1 20)) :=
  p_impl_weightOk n fun wr hx => ⟨_, k_impl_inRange, rfl⟩
theorem k_spec_l1Weight {n : Int} {w : World} {bs : List Nat} : PureX bs Tryz.prog fn_spec_l1Weight #[.int .i64 n] w (.bool (inB n 1 20)) :=
  p_spec_l1Weight n fun wr hx => ⟨_, k_spec_l1In, rfl⟩
theorem k_impl_niceOk {n : Int} {w : World} {bs : List Nat} : PureX bs Tryz.prog fn_impl_niceOk #[.int .i64 n] w (.bool (inB n (-10) 9)) :=
  p_impl_niceOk n fun wr hx => ⟨_, k_impl_inRange, rfl⟩
def wsC (k j : Nat) : Int := if j ≤ k then stp (j : Int) else 0
def wsT (k : Nat) : List Value := [.int .i64 ((k : Int) + 1), .int .i64 0, .int .i64 (wsC k 1), .int .i64 (wsC k 2), .int .i64 (wsC k 3), .int .i64 (wsC k 4), .int .i64 (wsC k 5), .int .i64 (wsC k 6), .int .i64 (wsC k 7),
  .int .i64 (wsC k 8), .int .i64 (wsC k 9), .int .i64 (wsC k 10), .int .i64 (wsC k 11), .int .i64 (wsC k 12), .int .i64 (wsC k 13), .int .i64 (wsC k 14), .int .i64 (wsC k 15), .int .i64 (wsC k 16), .int .i64 (wsC k 17), .int .i64 (wsC k 18), .int .i64 (wsC k 19), .int .i64 (wsC k 20)]
theorem k_impl_weightSteps {w : World} {bs : List Nat} : PureX bs Tryz.prog fn_impl_weightSteps #[] w (.agg #[.int .i64 0, .int .i64 (wsC 20 1), .int .i64 (wsC 20 2), .int .i64 (wsC 20 3), .int .i64 (wsC 20 4), .int .i64 (wsC 20 5), .int .i64 (wsC 20 6), .int .i64 (wsC 20 7),
  .int .i64 (wsC 20 8), .int .i64 (wsC 20 9), .int .i64 (wsC 20 10), .int .i64 (wsC 20 11), .int .i64 (wsC 20 12), .int .i64 (wsC 20 13), .int .i64 (wsC 20 14), .int .i64 (wsC 20 15), .int .i64 (wsC 20 16), .int .i64 (wsC 20 17), .int .i64 (wsC 20 18), .int .i64 (wsC 20 19), .int .i64 (wsC 20 20)]) :=
  p_impl_weightSteps fun wr hx => by
    intro _ _ _ _
    refine ⟨fun vs => ∃ k : Nat, k ≤ 20 ∧ vs = wsT k, fun vs => match vs with
      | .int _ i :: _ => (21 - i).toNat
      | _ => 0, ⟨0, by omega, rfl⟩, ?_⟩
    rintro i l l1 l2 l3 l4 l5 l6 l7 l8 l9 l10 l11 l12 l13 l14 l15 l16 l17 l18 l19 l20 ⟨k, hk, he⟩
    simp only [wsT, List.cons.injEq, Value.int.injEq, true_and, and_true] at he
    obtain ⟨rfl, rfl, rfl, rfl, rfl, rfl, rfl, rfl, rfl, rfl, rfl, rfl, rfl, rfl, rfl, rfl, rfl, rfl, rfl, rfl, rfl, rfl⟩ := he
    constructor
    · intro h
      have h := of_decide_eq_true h
      refine ⟨⟨by omega, ?_⟩, ⟨by omega, by omega⟩, by omega, ?_⟩
      · have := stp_lo (w := (k : Int) + 1) (by omega) (by omega)
        exact inR64 (by unfold stp at this; omega) (by unfold stp at this; omega)
      · refine ⟨_, _, _, _, _, _, _, _, _, _, _, _, _, _, _, _, _, _, _, _, _, ?_, inR64 (by omega) (by omega), ⟨k + 1, by omega, rfl⟩, ?_⟩
        · have : k = 0 ∨ k = 1 ∨ k = 2 ∨ k = 3 ∨ k = 4 ∨ k = 5 ∨ k = 6 ∨ k = 7 ∨ k = 8 ∨ k = 9 ∨ k = 10 ∨ k = 11 ∨ k = 12 ∨ k = 13 ∨ k = 14 ∨ k = 15 ∨ k = 16 ∨ k = 17 ∨ k = 18 ∨ k = 19 := by omega
          rcases this with rfl | rfl | rfl | rfl | rfl | rfl | rfl | rfl | rfl | rfl | rfl | rfl | rfl | rfl | rfl | rfl | rfl | rfl | rfl | rfl <;> rfl
        · show (21 - (((k : Int) + 1) + 1)).toNat < (21 - ((k : Int) + 1)).toNat
          omega
    · intro h
      have h := of_decide_eq_false h
      have hk : k = 20 := by omega
      subst hk
      rfl
theorem ws_get {k : Int} (h1 : 1 ≤ k) (h2 : k ≤ 20) : (#[.int .i64 0, .int .i64 (wsC 20 1), .int .i64 (wsC 20 2), .int .i64 (wsC 20 3), .int .i64 (wsC 20 4), .int .i64 (wsC 20 5), .int .i64 (wsC 20 6), .int .i64 (wsC 20 7),
  .int .i64 (wsC 20 8), .int .i64 (wsC 20 9), .int .i64 (wsC 20 10), .int .i64 (wsC 20 11), .int .i64 (wsC 20 12), .int .i64 (wsC 20 13), .int .i64 (wsC 20 14), .int .i64 (wsC 20 15), .int .i64 (wsC 20 16), .int .i64 (wsC 20 17), .int .i64 (wsC 20 18), .int .i64 (wsC 20 19), .int .i64 (wsC 20 20)] : Array Value)[Int.toNat k]? = some (.int .i64 (stp k)) := by
  have : k = 1 ∨ k = 2 ∨ k = 3 ∨ k = 4 ∨ k = 5 ∨ k = 6 ∨ k = 7 ∨ k = 8 ∨ k = 9 ∨ k = 10 ∨ k = 11 ∨ k = 12 ∨ k = 13 ∨ k = 14 ∨ k = 15 ∨ k = 16 ∨ k = 17 ∨ k = 18 ∨ k = 19 ∨ k = 20 := by omega
  rcases this with rfl | rfl | rfl | rfl | rfl | rfl | rfl | rfl | rfl | rfl | rfl | rfl | rfl | rfl | rfl | rfl | rfl | rfl | rfl | rfl <;> rfl
theorem k_impl_VirtualStep {n k : Int} {w : World} {bs : List Nat} : PureX bs Tryz.prog fn_impl_VirtualStep #[.int .i64 n, .int .i64 k] w (.int .i64 (vstep n k)) :=
  p_impl_VirtualStep n k fun wr hx => by
    refine ⟨_, k_impl_inRange, _, fun _ => k_impl_weightOk, fun h => ?_, fun h => ?_⟩
    · congr 1; unfold vstep; rw [if_neg]; intro h2; simp only [Bool.and_eq_true] at h2; simp [h2] at h
    · have h2 : inB n 0 100000000 = true ∧ inB k 1 20 = true := by simpa using h
      rw [inB_t, inB_t] at h2
      have hm := mul_stp h2.1.1 h2.1.2 h2.2.1 h2.2.2
      refine ⟨_, _, _, _, _, _, _, _, _, _, _, _, _, _, _, _, _, _, _, _, _, k_impl_weightSteps, stp k, ⟨by omega, by omega, ws_get h2.2.1 h2.2.2⟩, inR64 (by omega) (by omega), ?_⟩
      rw [vstep_in h2.1.1 h2.1.2 h2.2.1 h2.2.2]
theorem k_impl_LagMost {k : Int} {w : World} {bs : List Nat} : PureX bs Tryz.prog fn_impl_LagMost #[.int .i64 k] w (.int .i64 (lagMost k)) :=
  p_impl_LagMost k fun wr hx => ⟨_, k_impl_VirtualStep, rfl⟩
end Go.Proofs.YtnofpcbjpcoghaaGreat
namespace Go.Proofs.YtnofpcbjpcoghaaGreat
open Go.RowKit
set_option linter.unusedVariables false
set_option linter.unusedSimpArgs false
set_option maxRecDepth 10000
def fileN (s : ByteArray) : Bool := (((((strEq s (⟨[119, 101, 105, 103, 104, 116].toArray⟩)) || (strEq s (⟨[109, 97, 120].toArray⟩))) || (strEq s (⟨[99, 112, 117, 115].toArray⟩))) || (strEq s (⟨[112, 114, 111, 99, 115].toArray⟩))) || (strEq s (⟨[115, 116, 97, 116].toArray⟩)))
def okc (x : Int) : Bool := (((decide (x ≥ 97)) && (decide (x ≤ 122))) || ((decide (x ≥ 48)) && (decide (x ≤ 57))))
def nameOk (s : ByteArray) : Bool := inB (s.size : Int) 1 8 && !fileN s && (List.range s.size).all fun i => okc (strAt s (i : Int))
theorem nameOk_iff {s : ByteArray} : nameOk s = true ↔ (1 ≤ s.size ∧ s.size ≤ 8) ∧ fileN s = false ∧ ∀ i : Nat, i < s.size → okc (strAt s (i : Int)) = true := by
  unfold nameOk
  simp only [Bool.and_eq_true, inB_t, Bool.not_eq_true', List.all_eq_true, List.mem_range]
  constructor
  · rintro ⟨⟨h1, h2⟩, h3⟩; exact ⟨⟨by omega, by omega⟩, h2, h3⟩
  · rintro ⟨⟨h0, h1⟩, h2, h3⟩; exact ⟨⟨⟨by omega, by omega⟩, h2⟩, h3⟩
theorem nameOk_no {s : ByteArray} (h : ¬ ((1 ≤ s.size ∧ s.size ≤ 8) ∧ fileN s = false ∧ ∀ i : Nat, i < s.size → okc (strAt s (i : Int)) = true)) : nameOk s = false := by
  cases hn : nameOk s with
  | false => rfl
  | true => exact absurd (nameOk_iff.1 hn) h
theorem k_spec_l6File {s : ByteArray} {w : World} {bs : List Nat} : PureX bs Tryz.prog fn_spec_l6File #[.string s] w (.bool (fileN s)) :=
  p_spec_l6File s fun wr hx => rfl
theorem k_spec_NameOk {s : ByteArray} {w : World} {bs : List Nat} : PureX bs Tryz.prog fn_spec_NameOk #[.string s] w (.bool (nameOk s)) :=
  p_spec_NameOk s fun wr hx => by
    refine ⟨_, k_spec_l1In, fileN s, fun _ => k_spec_l6File, fun h => ?_, fun h => ?_⟩
    · rw [nameOk_no]
      rintro ⟨h1, h2, _⟩
      rw [h2, inB_t.2 (by omega)] at h
      cases h
    · have h : inB (s.size : Int) 1 8 = true ∧ fileN s = false := by simpa using h
      have h1 := inB_t.1 h.1
      refine loop1 s.size 0 rfl (fun k => k ≤ s.size ∧ ∀ j : Nat, j < k → okc (strAt s (j : Int)) = true) ⟨Nat.zero_le _, fun j hj => absurd hj (Nat.not_lt_zero j)⟩ fun k ⟨hk, hI⟩ => ⟨fun hlt => ?_, fun hge => ?_⟩
      · have hlt := of_decide_eq_true hlt
        have hr : 0 ≤ (k : Int) ∧ (k : Int) < (s.size : Int) := ⟨by omega, hlt⟩
        refine ⟨hr, fun _ => hr, fun _ => hr, fun _ _ => hr, fun hno => ?_, fun hyes => ⟨⟨by omega, by omega⟩, loop1_next (by omega) ⟨by omega, fun j hj => ?_⟩⟩⟩
        · rw [nameOk_no]
          rintro ⟨_, _, h3⟩
          have := h3 k (by omega)
          unfold okc at this
          rw [this] at hno
          cases hno
        · by_cases hjk : j < k
          · exact hI j hjk
          · have : j = k := by omega
            subst this
            unfold okc
            rw [Bool.not_eq_false'] at hyes
            exact hyes
      · have hge := of_decide_eq_false hge
        have hk : k = s.size := by omega
        subst hk
        rw [nameOk_iff.2 ⟨⟨by omega, by omega⟩, h.2, hI⟩]
def usedD (gs : List Grp) (g : Int) : Bool := (decide (g ≥ 0) && decide (g < (gs.length : Int))) && (gi gs g).used
theorem usedD_iff {gs : List Grp} {g : Int} : usedD gs g = true ↔ 0 ≤ g ∧ g < (gs.length : Int) ∧ (gi gs g).used = true := by
  unfold usedD
  simp [and_assoc]
def dep : Nat → List Grp → Int → Int
  | 0, _, g => if g = 0 then 0 else -1
  | f + 1, gs, g => if g = 0 then 0 else if dep f gs (gi gs g).parent < 0 then -1 else dep f gs (gi gs g).parent + 1
def l6dep : Nat → List Grp → Int → Int → Int
  | 0, _, _, _ => -1
  | f + 1, gs, g, n => if usedD gs g = false then -1 else if g = 0 then n else l6dep f gs (gi gs g).parent (n + 1)
theorem dep_range (gs : List Grp) : ∀ (f : Nat) (g : Int), -1 ≤ dep f gs g ∧ dep f gs g ≤ f
  | 0, g => by simp only [dep]; split <;> omega
  | f + 1, g => by
    have := dep_range gs f (gi gs g).parent
    simp only [dep]
    split
    · omega
    · split <;> omega
theorem dep_more (gs : List Grp) : ∀ (f f' : Nat) (g : Int), 0 ≤ dep f gs g → dep f gs g ≤ f' → dep f' gs g = dep f gs g
  | 0, f', g, h, _ => by
    simp only [dep] at h ⊢
    split at h
    · rename_i hg
      cases f' <;> simp [dep, hg]
    · omega
  | f + 1, f', g, h, hle => by
    simp only [dep] at h hle ⊢
    by_cases hg : g = 0
    · rw [if_pos hg]
      cases f' <;> simp [dep, hg]
    · rw [if_neg hg] at h hle ⊢
      by_cases hd : dep f gs (gi gs g).parent < 0
      · rw [if_pos hd] at h; omega
      · rw [if_neg hd] at hle ⊢
        cases f' with
        | zero => omega
        | succ f' =>
          have := dep_more gs f f' (gi gs g).parent (by omega) (by omega)
          simp only [dep]
          rw [if_neg hg, this, if_neg hd]
theorem dep_root (gs : List Grp) (f : Nat) : dep f gs 0 = 0 := by cases f <;> simp [dep]
theorem dep_zero {gs : List Grp} {f : Nat} {g : Int} (h : dep f gs g = 0) : g = 0 := by
  cases f with
  | zero => simp only [dep] at h; split at h <;> first | assumption | omega
  | succ f =>
    simp only [dep] at h
    split at h
    · assumption
    · split at h <;> omega
structure TreeP (gs : List Grp) : Prop where
  len : gs.length = 8
  ru : (gi gs 0).used = true
  rp : (gi gs 0).parent = -1
  rn : (gi gs 0).name = ⟨[].toArray⟩
  nm : ∀ g : Int, 1 ≤ g → g < 8 → (gi gs g).used = true → nameOk (gi gs g).name = true
  par : ∀ g : Int, 1 ≤ g → g < 8 → (gi gs g).used = true → usedD gs (gi gs g).parent = true
  dp : ∀ g : Int, 1 ≤ g → g < 8 → (gi gs g).used = true → 0 ≤ dep 3 gs g
  uniq : ∀ g h : Int, 1 ≤ h → h < g → g < 8 → (gi gs g).used = true → (gi gs h).used = true → ¬ ((gi gs h).parent = (gi gs g).parent ∧ (gi gs h).name = (gi gs g).name)
noncomputable def treeB (gs : List Grp) : Bool := @decide (TreeP gs) (Classical.propDecidable _)
theorem treeB_iff {gs : List Grp} : treeB gs = true ↔ TreeP gs := @decide_eq_true_iff _ (Classical.propDecidable _)
theorem treeB_no {gs : List Grp} (h : ¬ TreeP gs) : treeB gs = false := by
  cases hb : treeB gs with
  | false => rfl
  | true => exact absurd (treeB_iff.1 hb) h
end Go.Proofs.YtnofpcbjpcoghaaGreat
