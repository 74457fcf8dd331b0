/- Part 7 of what the law FnExactCpuPull needs: the engine, the functions' propositions, the contracts. -/
import Derived.Test.YtnofpcbjpcoghaaGreatFnExactCpuPullPf
namespace Go.Proofs.YtnofpcbjpcoghaaGreat
open Go.RowKit
set_option linter.unusedVariables false
set_option maxRecDepth 100000
set_option maxHeartbeats 1600000
theorem e_laws_toBoolS (aO : Option Addr) (aL : Nat) (aC : Nat) {w : World} {R : Value → World → Prop} (hvc : V_laws_toBoolS aO aL aC w R) : Calls Tryz.prog fn_laws_toBoolS #[.slice aO aL aC] w fun e0 wr0 => ∃ v0, e0 = .returned v0 ∧ R v0 wr0 :=
  eff_of_ev (C := c_laws_toBoolS) (sps := s_laws_toBoolS) (body := bodyOf Tryz.f121) (env _ _ _ _ _) Tryz.func121 rfl rfl (of_decide_eq_true (by kernel_rfl)) (of_decide_eq_true (by kernel_rfl)) rfl rfl (by rw [v_laws_toBoolS]; exact hvc)
noncomputable def c_laws_toBand : Cfg := { P := Tryz.prog, T := tblGet tbl, pf := pfT, ef := efT, tt := ttT, vis := [], n := 22, pm := false, wr := false }
noncomputable def s_laws_toBand : List (Nat × LSpec) := []
def V_laws_toBand (a0 : Int) (a1 : Int) (a2 : Int) (a3O : Option Addr) (a3L : Nat) (a3C : Nat) (a4O : Option Addr) (a4L : Nat) (a4C : Nat) (w : World) (R : Value → World → Prop) : Prop :=
    (∀ b, w.heap.size ≤ b →
    (∀ b1, w.heap.size ≤ b1 →
    (∀ b2, w.heap.size ≤ b2 →
    (∀ wr, ExtX [] w wr → (∀ bq ∈ ([b, b1, b2] : List Nat), bq < wr.heap.size) →
    Calls Tryz.prog fn_laws_toIntS #[.slice a3O a3L a3C] wr fun e wv =>
    (∃ (toIntSO : Option Addr) (toIntSL : Nat) (toIntSC : Nat),
    e = .returned (.slice toIntSO toIntSL toIntSC) ∧ Kept [b, b1, b2] wr wv ∧
    (∀ wr1, ExtX [b, b1, b2] wv wr1 → (∀ bq ∈ ([b, b1, b2] : List Nat), bq < wr1.heap.size) →
    Calls Tryz.prog fn_laws_toBoolS #[.slice a4O a4L a4C] wr1 fun e1 wv1 =>
    (∃ (toBoolO : Option Addr) (toBoolL : Nat) (toBoolC : Nat),
    e1 = .returned (.slice toBoolO toBoolL toBoolC) ∧ Kept [b, b1, b2] wr1 wv1 ∧
    (∀ wr2, ExtX [b, b1, b2] wv1 wr2 → R (.agg #[.int .i64 a0, .int .i64 a1, .int .i64 a2, .slice toIntSO toIntSL toIntSC, .slice toBoolO toBoolL toBoolC]) wr2))))))))
theorem v_laws_toBand (a0 : Int) (a1 : Int) (a2 : Int) (a3O : Option Addr) (a3L : Nat) (a3C : Nat) (a4O : Option Addr) (a4L : Nat) (a4C : Nat) (w : World) (R : Value → World → Prop) : evFn c_laws_toBand s_laws_toBand [.agg #[.int .i64 a0, .int .i64 a1, .int .i64 a2, .slice a3O a3L a3C, .slice a4O a4L a4C]] (bodyOf Tryz.f83) Tryz.f83.results.toList w R = V_laws_toBand a0 a1 a2 a3O a3L a3C a4O a4L a4C w R := by kernel_rfl
theorem e_laws_toBand (a0 : Int) (a1 : Int) (a2 : Int) (a3O : Option Addr) (a3L : Nat) (a3C : Nat) (a4O : Option Addr) (a4L : Nat) (a4C : Nat) {w : World} {R : Value → World → Prop} (hvc : V_laws_toBand a0 a1 a2 a3O a3L a3C a4O a4L a4C w R) : Calls Tryz.prog fn_laws_toBand #[.agg #[.int .i64 a0, .int .i64 a1, .int .i64 a2, .slice a3O a3L a3C, .slice a4O a4L a4C]] w fun e0 wr0 => ∃ v0, e0 = .returned v0 ∧ R v0 wr0 :=
  eff_of_ev (C := c_laws_toBand) (sps := s_laws_toBand) (body := bodyOf Tryz.f83) (env _ _ _ _ _) Tryz.func83 rfl rfl (of_decide_eq_true (by kernel_rfl)) (of_decide_eq_true (by kernel_rfl)) rfl rfl (by rw [v_laws_toBand]; exact hvc)
noncomputable def c_laws_toShelf : Cfg := { P := Tryz.prog, T := tblGet tbl, pf := pfT, ef := efT, tt := ttT, vis := [], n := 20, pm := true, wr := false }
noncomputable def s_laws_toShelf : List (Nat × LSpec) := []
def V_laws_toShelf (a0 : Int) (a1 : Bool) (a2 : Int) (a3 : Int) (a4 : Int) (w : World) (R : Value → World → Prop) : Prop :=
    (∀ b, w.heap.size ≤ b →
    (∀ b1, w.heap.size ≤ b1 →
    (∀ b2, w.heap.size ≤ b2 →
    R (.agg #[.int .i64 a0, .bool a1, .int .i64 a2, .int .i64 a3, .int .i64 a4]) w)))
theorem v_laws_toShelf (a0 : Int) (a1 : Bool) (a2 : Int) (a3 : Int) (a4 : Int) (w : World) (R : Value → World → Prop) : evFn c_laws_toShelf s_laws_toShelf [.agg #[.int .i64 a0, .bool a1, .int .i64 a2, .int .i64 a3, .int .i64 a4]] (bodyOf Tryz.f122) Tryz.f122.results.toList w R = V_laws_toShelf a0 a1 a2 a3 a4 w R := by kernel_rfl
theorem p_laws_toShelf (a0 : Int) (a1 : Bool) (a2 : Int) (a3 : Int) (a4 : Int) {w : World} {bs : List Nat} {ret : Value} (hvc : ∀ wr0, ExtX bs w wr0 → V_laws_toShelf a0 a1 a2 a3 a4 wr0 fun v0 _ => v0 = ret) : PureX bs Tryz.prog fn_laws_toShelf #[.agg #[.int .i64 a0, .bool a1, .int .i64 a2, .int .i64 a3, .int .i64 a4]] w ret :=
  pure_of_ev (C := c_laws_toShelf) (sps := s_laws_toShelf) (body := bodyOf Tryz.f122) (env _ _ _ _ _) Tryz.func122 rfl rfl (of_decide_eq_true (by kernel_rfl)) (of_decide_eq_true (by kernel_rfl)) rfl rfl fun wr0 hx0 => by rw [v_laws_toShelf]; exact hvc wr0 hx0
end Go.Proofs.YtnofpcbjpcoghaaGreat
namespace Go.Proofs.YtnofpcbjpcoghaaGreat
open Go.RowKit
set_option linter.unusedVariables false
set_option maxRecDepth 100000
set_option maxHeartbeats 1600000
noncomputable def c_laws_toShelfS : Cfg := { P := Tryz.prog, T := tblGet tbl, pf := pfT, ef := efT, tt := ttT, vis := [], n := 23, pm := false, wr := false }
noncomputable def s_laws_toShelfS : List (Nat × LSpec) := [(3, { chg := [(4, .int .i64)], chgL := [], keep := [0, 3] })]
def V_laws_toShelfS (aO : Option Addr) (aL : Nat) (aC : Nat) (w : World) (R : Value → World → Prop) : Prop :=
    (∀ wr, ExtX [] w wr → (∀ bq ∈ ([] : List Nat), bq < wr.heap.size) →
    (∃ (mkO : Option Addr) (mkL : Nat) (mkC : Nat),
    ∃ wv, ((Instr.makeSlice ty_sl_impl_Shelf (.int .i64 ((aL : Nat) : Int)) (.int .i64 ((aL : Nat) : Int))) : Sem Value).run Tryz.prog wr = .ok (.slice mkO mkL mkC) wv ∧ Kept [] wr wv ∧
    (∃ (xInv : List Value → World → Prop) (mu : List Value → World → Nat), (∀ wr1, ExtX [] wv wr1 → (∀ bq ∈ ([] : List Nat), bq < wr1.heap.size) → xInv [.int .i64 0] wr1) ∧
    ∀ (i : Int) wv1, (∀ bq ∈ ([] : List Nat), bq < wv1.heap.size) → xInv [.int .i64 i] wv1 →
    ((decide (i < ((aL : Nat) : Int))) = true →
    Ix aO aL i ∧
    (∃ (x0 : Int) (x1 : Bool) (x2 : Int) (x3 : Int) (x4 : Int),
    CellsX [] wv1 aO (Int.toNat i * 5) [.int .i64 x0, .bool x1, .int .i64 x2, .int .i64 x3, .int .i64 x4] ∧
    (∃ (toShel : Int) (toShel1 : Bool) (toShel2 : Int) (toShel3 : Int) (toShel4 : Int),
    PureX [] Tryz.prog fn_laws_toShelf #[.agg #[.int .i64 x0, .bool x1, .int .i64 x2, .int .i64 x3, .int .i64 x4]] wv1 (.agg #[.int .i64 toShel, .bool toShel1, .int .i64 toShel2, .int .i64 toShel3, .int .i64 toShel4]) ∧
    Ix mkO mkL i ∧
    WrX [] wv1 mkO (Int.toNat i * 5) 5 ∧
    InR .i64 (i + 1) ∧
    (∀ wr2, ExtX [] (sto wv1 mkO (Int.toNat i * 5) [.int .i64 toShel, .bool toShel1, .int .i64 toShel2, .int .i64 toShel3, .int .i64 toShel4]) wr2 → (∀ bq ∈ ([] : List Nat), bq < wr2.heap.size) → xInv [.int .i64 (i + 1)] wr2 ∧ mu [.int .i64 (i + 1)] wr2 < mu [.int .i64 i] wv1)))) ∧
    ((decide (i < ((aL : Nat) : Int))) = false →
    (∀ wr3, ExtX [] wv1 wr3 → R (.slice mkO mkL mkC) wr3)))))
theorem v_laws_toShelfS (aO : Option Addr) (aL : Nat) (aC : Nat) (w : World) (R : Value → World → Prop) : evFn c_laws_toShelfS s_laws_toShelfS [.slice aO aL aC] (bodyOf Tryz.f84) Tryz.f84.results.toList w R = V_laws_toShelfS aO aL aC w R := by kernel_rfl
theorem e_laws_toShelfS (aO : Option Addr) (aL : Nat) (aC : Nat) {w : World} {R : Value → World → Prop} (hvc : V_laws_toShelfS aO aL aC w R) : Calls Tryz.prog fn_laws_toShelfS #[.slice aO aL aC] w fun e0 wr0 => ∃ v0, e0 = .returned v0 ∧ R v0 wr0 :=
  eff_of_ev (C := c_laws_toShelfS) (sps := s_laws_toShelfS) (body := bodyOf Tryz.f84) (env _ _ _ _ _) Tryz.func84 rfl rfl (of_decide_eq_true (by kernel_rfl)) (of_decide_eq_true (by kernel_rfl)) rfl rfl (by rw [v_laws_toShelfS]; exact hvc)
noncomputable def c_laws_toGroup : Cfg := { P := Tryz.prog, T := tblGet tbl, pf := pfT, ef := efT, tt := ttT, vis := [], n := 37, pm := false, wr := false }
noncomputable def s_laws_toGroup : List (Nat × LSpec) := []
def V_laws_toGroup (a0 : Bool) (a1 : Int) (a2 : ByteArray) (a3 : Int) (a4 : Int) (a5 : Int) (a6 : Int) (a7 : Int) (a8 : Int) (a9 : Int) (a10 : Int) (a11O : Option Addr) (a11L : Nat) (a11C : Nat) (a12O : Option Addr) (a12L : Nat) (a12C : Nat) (a13O : Option Addr) (a13L : Nat) (a13C : Nat) (w : World) (R : Value → World → Prop) : Prop :=
    (∀ b, w.heap.size ≤ b →
    (∀ b1, w.heap.size ≤ b1 →
    (∀ b2, w.heap.size ≤ b2 →
    (∀ wr, ExtX [] w wr → (∀ bq ∈ ([b, b1, b2] : List Nat), bq < wr.heap.size) →
    Calls Tryz.prog fn_laws_toBand #[.agg #[.int .i64 a8, .int .i64 a9, .int .i64 a10, .slice a11O a11L a11C, .slice a12O a12L a12C]] wr fun e wv =>
    (∃ (toBand : Int) (toBand1 : Int) (toBand2 : Int) (toBand3O : Option Addr) (toBand3L : Nat) (toBand3C : Nat) (toBand4O : Option Addr) (toBand4L : Nat) (toBand4C : Nat),
    e = .returned (.agg #[.int .i64 toBand, .int .i64 toBand1, .int .i64 toBand2, .slice toBand3O toBand3L toBand3C, .slice toBand4O toBand4L toBand4C]) ∧ Kept [b, b1, b2] wr wv ∧
    (∀ wr1, ExtX [b, b1, b2] wv wr1 → (∀ bq ∈ ([b, b1, b2] : List Nat), bq < wr1.heap.size) →
    Calls Tryz.prog fn_laws_toShelfS #[.slice a13O a13L a13C] wr1 fun e1 wv1 =>
    (∃ (toShelO : Option Addr) (toShelL : Nat) (toShelC : Nat),
    e1 = .returned (.slice toShelO toShelL toShelC) ∧ Kept [b, b1, b2] wr1 wv1 ∧
    (∀ wr2, ExtX [b, b1, b2] wv1 wr2 → R (.agg #[.bool a0, .int .i64 a1, .string a2, .int .i64 a3, .int .i64 a4, .int .i64 a5, .int .i64 a6, .int .i64 a7, .int .i64 toBand, .int .i64 toBand1, .int .i64 toBand2, .slice toBand3O toBand3L toBand3C, .slice toBand4O toBand4L toBand4C, .slice toShelO toShelL toShelC]) wr2))))))))
theorem v_laws_toGroup (a0 : Bool) (a1 : Int) (a2 : ByteArray) (a3 : Int) (a4 : Int) (a5 : Int) (a6 : Int) (a7 : Int) (a8 : Int) (a9 : Int) (a10 : Int) (a11O : Option Addr) (a11L : Nat) (a11C : Nat) (a12O : Option Addr) (a12L : Nat) (a12C : Nat) (a13O : Option Addr) (a13L : Nat) (a13C : Nat) (w : World) (R : Value → World → Prop) : evFn c_laws_toGroup s_laws_toGroup [.agg #[.bool a0, .int .i64 a1, .string a2, .int .i64 a3, .int .i64 a4, .int .i64 a5, .int .i64 a6, .int .i64 a7, .int .i64 a8, .int .i64 a9, .int .i64 a10, .slice a11O a11L a11C, .slice a12O a12L a12C, .slice a13O a13L a13C]] (bodyOf Tryz.f47) Tryz.f47.results.toList w R = V_laws_toGroup a0 a1 a2 a3 a4 a5 a6 a7 a8 a9 a10 a11O a11L a11C a12O a12L a12C a13O a13L a13C w R := by kernel_rfl
theorem e_laws_toGroup (a0 : Bool) (a1 : Int) (a2 : ByteArray) (a3 : Int) (a4 : Int) (a5 : Int) (a6 : Int) (a7 : Int) (a8 : Int) (a9 : Int) (a10 : Int) (a11O : Option Addr) (a11L : Nat) (a11C : Nat) (a12O : Option Addr) (a12L : Nat) (a12C : Nat) (a13O : Option Addr) (a13L : Nat) (a13C : Nat) {w : World} {R : Value → World → Prop} (hvc : V_laws_toGroup a0 a1 a2 a3 a4 a5 a6 a7 a8 a9 a10 a11O a11L a11C a12O a12L a12C a13O a13L a13C w R) : Calls Tryz.prog fn_laws_toGroup #[.agg #[.bool a0, .int .i64 a1, .string a2, .int .i64 a3, .int .i64 a4, .int .i64 a5, .int .i64 a6, .int .i64 a7, .int .i64 a8, .int .i64 a9, .int .i64 a10, .slice a11O a11L a11C, .slice a12O a12L a12C, .slice a13O a13L a13C]] w fun e0 wr0 => ∃ v0, e0 = .returned v0 ∧ R v0 wr0 :=
  eff_of_ev (C := c_laws_toGroup) (sps := s_laws_toGroup) (body := bodyOf Tryz.f47) (env _ _ _ _ _) Tryz.func47 rfl rfl (of_decide_eq_true (by kernel_rfl)) (of_decide_eq_true (by kernel_rfl)) rfl rfl (by rw [v_laws_toGroup]; exact hvc)
noncomputable def c_laws_toGroupS : Cfg := { P := Tryz.prog, T := tblGet tbl, pf := pfT, ef := efT, tt := ttT, vis := [], n := 23, pm := false, wr := false }
noncomputable def s_laws_toGroupS : List (Nat × LSpec) := [(3, { chg := [(4, .int .i64)], chgL := [], keep := [0, 3] })]
def V_laws_toGroupS (aO : Option Addr) (aL : Nat) (aC : Nat) (w : World) (R : Value → World → Prop) : Prop :=
    (∀ wr, ExtX [] w wr → (∀ bq ∈ ([] : List Nat), bq < wr.heap.size) →
    (∃ (mkO : Option Addr) (mkL : Nat) (mkC : Nat),
    ∃ wv, ((Instr.makeSlice ty_sl_impl_Group (.int .i64 ((aL : Nat) : Int)) (.int .i64 ((aL : Nat) : Int))) : Sem Value).run Tryz.prog wr = .ok (.slice mkO mkL mkC) wv ∧ Kept [] wr wv ∧
    (∃ (xInv : List Value → World → Prop) (mu : List Value → World → Nat), (∀ wr1, ExtX [] wv wr1 → (∀ bq ∈ ([] : List Nat), bq < wr1.heap.size) → xInv [.int .i64 0] wr1) ∧
    ∀ (i : Int) wv1, (∀ bq ∈ ([] : List Nat), bq < wv1.heap.size) → xInv [.int .i64 i] wv1 →
    ((decide (i < ((aL : Nat) : Int))) = true →
    Ix aO aL i ∧
    (∃ (x0 : Bool) (x1 : Int) (x2 : ByteArray) (x3 : Int) (x4 : Int) (x5 : Int) (x6 : Int) (x7 : Int) (x8 : Int) (x9 : Int) (x10 : Int) (x11O : Option Addr) (x11L : Nat) (x11C : Nat) (x12O : Option Addr) (x12L : Nat) (x12C : Nat) (x13O : Option Addr) (x13L : Nat) (x13C : Nat),
    CellsX [] wv1 aO (Int.toNat i * 14) [.bool x0, .int .i64 x1, .string x2, .int .i64 x3, .int .i64 x4, .int .i64 x5, .int .i64 x6, .int .i64 x7, .int .i64 x8, .int .i64 x9, .int .i64 x10, .slice x11O x11L x11C, .slice x12O x12L x12C, .slice x13O x13L x13C] ∧
    (∀ wr2, ExtX [] wv1 wr2 → (∀ bq ∈ ([] : List Nat), bq < wr2.heap.size) →
    Calls Tryz.prog fn_laws_toGroup #[.agg #[.bool x0, .int .i64 x1, .string x2, .int .i64 x3, .int .i64 x4, .int .i64 x5, .int .i64 x6, .int .i64 x7, .int .i64 x8, .int .i64 x9, .int .i64 x10, .slice x11O x11L x11C, .slice x12O x12L x12C, .slice x13O x13L x13C]] wr2 fun e wv2 =>
    (∃ (toGrou : Bool) (toGrou1 : Int) (toGrou2 : ByteArray) (toGrou3 : Int) (toGrou4 : Int) (toGrou5 : Int) (toGrou6 : Int) (toGrou7 : Int) (toGrou8 : Int) (toGrou9 : Int) (toGrou10 : Int) (toGrou11O : Option Addr) (toGrou11L : Nat) (toGrou11C : Nat) (toGrou12O : Option Addr) (toGrou12L : Nat) (toGrou12C : Nat) (toGrou13O : Option Addr) (toGrou13L : Nat) (toGrou13C : Nat),
    e = .returned (.agg #[.bool toGrou, .int .i64 toGrou1, .string toGrou2, .int .i64 toGrou3, .int .i64 toGrou4, .int .i64 toGrou5, .int .i64 toGrou6, .int .i64 toGrou7, .int .i64 toGrou8, .int .i64 toGrou9, .int .i64 toGrou10, .slice toGrou11O toGrou11L toGrou11C, .slice toGrou12O toGrou12L toGrou12C, .slice toGrou13O toGrou13L toGrou13C]) ∧ Kept [] wr2 wv2 ∧
    Ix mkO mkL i ∧
    WrX [] wv2 mkO (Int.toNat i * 14) 14 ∧
    InR .i64 (i + 1) ∧
    (∀ wr3, ExtX [] (sto wv2 mkO (Int.toNat i * 14) [.bool toGrou, .int .i64 toGrou1, .string toGrou2, .int .i64 toGrou3, .int .i64 toGrou4, .int .i64 toGrou5, .int .i64 toGrou6, .int .i64 toGrou7, .int .i64 toGrou8, .int .i64 toGrou9, .int .i64 toGrou10, .slice toGrou11O toGrou11L toGrou11C, .slice toGrou12O toGrou12L toGrou12C, .slice toGrou13O toGrou13L toGrou13C]) wr3 → (∀ bq ∈ ([] : List Nat), bq < wr3.heap.size) → xInv [.int .i64 (i + 1)] wr3 ∧ mu [.int .i64 (i + 1)] wr3 < mu [.int .i64 i] wv1))))) ∧
    ((decide (i < ((aL : Nat) : Int))) = false →
    (∀ wr4, ExtX [] wv1 wr4 → R (.slice mkO mkL mkC) wr4)))))
theorem v_laws_toGroupS (aO : Option Addr) (aL : Nat) (aC : Nat) (w : World) (R : Value → World → Prop) : evFn c_laws_toGroupS s_laws_toGroupS [.slice aO aL aC] (bodyOf Tryz.f23) Tryz.f23.results.toList w R = V_laws_toGroupS aO aL aC w R := by kernel_rfl
theorem e_laws_toGroupS (aO : Option Addr) (aL : Nat) (aC : Nat) {w : World} {R : Value → World → Prop} (hvc : V_laws_toGroupS aO aL aC w R) : Calls Tryz.prog fn_laws_toGroupS #[.slice aO aL aC] w fun e0 wr0 => ∃ v0, e0 = .returned v0 ∧ R v0 wr0 :=
  eff_of_ev (C := c_laws_toGroupS) (sps := s_laws_toGroupS) (body := bodyOf Tryz.f23) (env _ _ _ _ _) Tryz.func23 rfl rfl (of_decide_eq_true (by kernel_rfl)) (of_decide_eq_true (by kernel_rfl)) rfl rfl (by rw [v_laws_toGroupS]; exact hvc)
noncomputable def c_laws_toWorld : Cfg := { P := Tryz.prog, T := tblGet tbl, pf := pfT, ef := efT, tt := ttT, vis := [], n := 20, pm := false, wr := false }
noncomputable def s_laws_toWorld : List (Nat × LSpec) := []
def V_laws_toWorld (a0 : Int) (a1O : Option Addr) (a1L : Nat) (a1C : Nat) (a2O : Option Addr) (a2L : Nat) (a2C : Nat) (a3O : Option Addr) (a3L : Nat) (a3C : Nat) (w : World) (R : Value → World → Prop) : Prop :=
    (∀ b, w.heap.size ≤ b →
    (∀ b1, w.heap.size ≤ b1 →
    (∀ b2, w.heap.size ≤ b2 →
    (∀ wr, ExtX [] w wr → (∀ bq ∈ ([b, b1, b2] : List Nat), bq < wr.heap.size) →
    Calls Tryz.prog fn_laws_toCpuS #[.slice a1O a1L a1C] wr fun e wv =>
    (∃ (toCpuSO : Option Addr) (toCpuSL : Nat) (toCpuSC : Nat),
    e = .returned (.slice toCpuSO toCpuSL toCpuSC) ∧ Kept [b, b1, b2] wr wv ∧
    (∀ wr1, ExtX [b, b1, b2] wv wr1 → (∀ bq ∈ ([b, b1, b2] : List Nat), bq < wr1.heap.size) →
    Calls Tryz.prog fn_laws_toTaskS #[.slice a2O a2L a2C] wr1 fun e1 wv1 =>
    (∃ (toTaskO : Option Addr) (toTaskL : Nat) (toTaskC : Nat),
    e1 = .returned (.slice toTaskO toTaskL toTaskC) ∧ Kept [b, b1, b2] wr1 wv1 ∧
    (∀ wr2, ExtX [b, b1, b2] wv1 wr2 → (∀ bq ∈ ([b, b1, b2] : List Nat), bq < wr2.heap.size) →
    Calls Tryz.prog fn_laws_toGroupS #[.slice a3O a3L a3C] wr2 fun e2 wv2 =>
    (∃ (toGrouO : Option Addr) (toGrouL : Nat) (toGrouC : Nat),
    e2 = .returned (.slice toGrouO toGrouL toGrouC) ∧ Kept [b, b1, b2] wr2 wv2 ∧
    (∀ wr3, ExtX [b, b1, b2] wv2 wr3 → R (.agg #[.int .i64 a0, .slice toCpuSO toCpuSL toCpuSC, .slice toTaskO toTaskL toTaskC, .slice toGrouO toGrouL toGrouC]) wr3))))))))))
theorem v_laws_toWorld (a0 : Int) (a1O : Option Addr) (a1L : Nat) (a1C : Nat) (a2O : Option Addr) (a2L : Nat) (a2C : Nat) (a3O : Option Addr) (a3L : Nat) (a3C : Nat) (w : World) (R : Value → World → Prop) : evFn c_laws_toWorld s_laws_toWorld [.agg #[.int .i64 a0, .slice a1O a1L a1C, .slice a2O a2L a2C, .slice a3O a3L a3C]] (bodyOf Tryz.f7) Tryz.f7.results.toList w R = V_laws_toWorld a0 a1O a1L a1C a2O a2L a2C a3O a3L a3C w R := by kernel_rfl
theorem e_laws_toWorld (a0 : Int) (a1O : Option Addr) (a1L : Nat) (a1C : Nat) (a2O : Option Addr) (a2L : Nat) (a2C : Nat) (a3O : Option Addr) (a3L : Nat) (a3C : Nat) {w : World} {R : Value → World → Prop} (hvc : V_laws_toWorld a0 a1O a1L a1C a2O a2L a2C a3O a3L a3C w R) : Calls Tryz.prog fn_laws_toWorld #[.agg #[.int .i64 a0, .slice a1O a1L a1C, .slice a2O a2L a2C, .slice a3O a3L a3C]] w fun e0 wr0 => ∃ v0, e0 = .returned v0 ∧ R v0 wr0 :=
  eff_of_ev (C := c_laws_toWorld) (sps := s_laws_toWorld) (body := bodyOf Tryz.f7) (env _ _ _ _ _) Tryz.func7 rfl rfl (of_decide_eq_true (by kernel_rfl)) (of_decide_eq_true (by kernel_rfl)) rfl rfl (by rw [v_laws_toWorld]; exact hvc)
noncomputable def c_impl_inRange : Cfg := { P := Tryz.prog, T := tblGet tbl, pf := pfT, ef := efT, tt := ttT, vis := [], n := 15, pm := true, wr := false }
noncomputable def s_impl_inRange : List (Nat × LSpec) := []
def V_impl_inRange (n : Int) (least : Int) (most : Int) (w : World) (R : Value → World → Prop) : Prop :=
    R (.bool ((decide (n ≥ least)) && (decide (n ≤ most)))) w
theorem v_impl_inRange (n : Int) (least : Int) (most : Int) (w : World) (R : Value → World → Prop) : evFn c_impl_inRange s_impl_inRange [.int .i64 n, .int .i64 least, .int .i64 most] (bodyOf Tryz.f26) Tryz.f26.results.toList w R = V_impl_inRange n least most w R := by kernel_rfl
theorem p_impl_inRange (n : Int) (least : Int) (most : Int) {w : World} {bs : List Nat} {ret : Value} (hvc : ∀ wr0, ExtX bs w wr0 → V_impl_inRange n least most wr0 fun v0 _ => v0 = ret) : PureX bs Tryz.prog fn_impl_inRange #[.int .i64 n, .int .i64 least, .int .i64 most] w ret :=
  pure_of_ev (C := c_impl_inRange) (sps := s_impl_inRange) (body := bodyOf Tryz.f26) (env _ _ _ _ _) Tryz.func26 rfl rfl (of_decide_eq_true (by kernel_rfl)) (of_decide_eq_true (by kernel_rfl)) rfl rfl fun wr0 hx0 => by rw [v_impl_inRange]; exact hvc wr0 hx0
noncomputable def c_impl_timeOk : Cfg := { P := Tryz.prog, T := tblGet tbl, pf := pfT, ef := efT, tt := ttT, vis := [], n := 15, pm := true, wr := false }
noncomputable def s_impl_timeOk : List (Nat × LSpec) := [(2, { chg := [(7, .int .i64)], chgL := [], keep := [5, 6] })]
def V_impl_timeOk (timesO : Option Addr) (timesL : Nat) (timesC : Nat) (w : World) (R : Value → World → Prop) : Prop :=
    (∃ (xInv : List Value → Prop) (mu : List Value → Nat), xInv [.int .i64 0] ∧
    ∀ (x : Int), xInv [.int .i64 x] →
    ((decide (x < ((timesL : Nat) : Int))) = true →
    Ix timesO timesL x ∧
    (∃ (x1 : Int),
    CellsX [] w timesO (Int.toNat x * 1) [.int .i64 x1] ∧
    (∃ (inRang : Bool),
    PureX [] Tryz.prog fn_impl_inRange #[.int .i64 x1, .int .i64 0, .int .i64 100000000000000000] w (.bool inRang) ∧
    ((!inRang) = true →
    R (.bool false) w) ∧
    ((!inRang) = false →
    InR .i64 (x + 1) ∧
    xInv [.int .i64 (x + 1)] ∧ mu [.int .i64 (x + 1)] < mu [.int .i64 x])))) ∧
    ((decide (x < ((timesL : Nat) : Int))) = false →
    R (.bool true) w))
theorem v_impl_timeOk (timesO : Option Addr) (timesL : Nat) (timesC : Nat) (w : World) (R : Value → World → Prop) : evFn c_impl_timeOk s_impl_timeOk [.slice timesO timesL timesC] (bodyOf Tryz.f85) Tryz.f85.results.toList w R = V_impl_timeOk timesO timesL timesC w R := by kernel_rfl
theorem p_impl_timeOk (timesO : Option Addr) (timesL : Nat) (timesC : Nat) {w : World} {bs : List Nat} {ret : Value} (hvc : ∀ wr0, ExtX bs w wr0 → V_impl_timeOk timesO timesL timesC wr0 fun v0 _ => v0 = ret) : PureX bs Tryz.prog fn_impl_timeOk #[.slice timesO timesL timesC] w ret :=
  pure_of_ev (C := c_impl_timeOk) (sps := s_impl_timeOk) (body := bodyOf Tryz.f85) (env _ _ _ _ _) Tryz.func85 rfl rfl (of_decide_eq_true (by kernel_rfl)) (of_decide_eq_true (by kernel_rfl)) rfl rfl fun wr0 hx0 => by rw [v_impl_timeOk]; exact hvc wr0 hx0
noncomputable def c_impl_World_online : Cfg := { P := Tryz.prog, T := tblGet tbl, pf := pfT, ef := efT, tt := ttT, vis := [], n := 24, pm := true, wr := false }
noncomputable def s_impl_World_online : List (Nat × LSpec) := [(3, { chg := [(3, .int .i64), (11, .int .i64)], chgL := [], keep := [9, 10] })]
def V_impl_World_online (wv : Option Addr) (w : World) (R : Value → World → Prop) : Prop :=
    wv.isSome = true ∧
    (∃ (cpusO : Option Addr) (cpusL : Nat) (cpusC : Nat),
    CellsX [] w wv (0 + 1) [.slice cpusO cpusL cpusC] ∧
    (∃ (xInv : List Value → Prop) (mu : List Value → Nat), xInv [.int .i64 0, .int .i64 0] ∧
    ∀ (set : Int) (x : Int), xInv [.int .i64 set, .int .i64 x] →
    ((decide (x < ((cpusL : Nat) : Int))) = true →
    Ix cpusO cpusL x ∧
    (∃ (x0 : Bool) (x1 : Int) (x2 : Int) (x3 : Int) (x4 : Int),
    CellsX [] w cpusO (Int.toNat x * 5) [.bool x0, .int .i64 x1, .int .i64 x2, .int .i64 x3, .int .i64 x4] ∧
    (∀ b, w.heap.size ≤ b →
    (x0 = true →
    (0 ≤ x ∧ InR .i64 (1 * 2 ^ (min (Int.toNat x) 64))) ∧
    InR .i64 (x + 1) ∧
    xInv [.int .i64 (BitI .or .i64 set (1 * 2 ^ (min (Int.toNat x) 64))), .int .i64 (x + 1)] ∧ mu [.int .i64 (BitI .or .i64 set (1 * 2 ^ (min (Int.toNat x) 64))), .int .i64 (x + 1)] < mu [.int .i64 set, .int .i64 x]) ∧
    (x0 = false →
    InR .i64 (x + 1) ∧
    xInv [.int .i64 set, .int .i64 (x + 1)] ∧ mu [.int .i64 set, .int .i64 (x + 1)] < mu [.int .i64 set, .int .i64 x])))) ∧
    ((decide (x < ((cpusL : Nat) : Int))) = false →
    R (.int .i64 set) w)))
theorem v_impl_World_online (wv : Option Addr) (w : World) (R : Value → World → Prop) : evFn c_impl_World_online s_impl_World_online [.pointer wv] (bodyOf Tryz.f86) Tryz.f86.results.toList w R = V_impl_World_online wv w R := by kernel_rfl
theorem p_impl_World_online (wv : Option Addr) {w : World} {bs : List Nat} {ret : Value} (hvc : ∀ wr0, ExtX bs w wr0 → V_impl_World_online wv wr0 fun v0 _ => v0 = ret) : PureX bs Tryz.prog fn_impl_World_online #[.pointer wv] w ret :=
  pure_of_ev (C := c_impl_World_online) (sps := s_impl_World_online) (body := bodyOf Tryz.f86) (env _ _ _ _ _) Tryz.func86 rfl rfl (of_decide_eq_true (by kernel_rfl)) (of_decide_eq_true (by kernel_rfl)) rfl rfl fun wr0 hx0 => by rw [v_impl_World_online]; exact hvc wr0 hx0
noncomputable def c_impl_groupUsed : Cfg := { P := Tryz.prog, T := tblGet tbl, pf := pfT, ef := efT, tt := ttT, vis := [], n := 17, pm := true, wr := false }
noncomputable def s_impl_groupUsed : List (Nat × LSpec) := []
def V_impl_groupUsed (lO : Option Addr) (lL : Nat) (lC : Nat) (g : Int) (w : World) (R : Value → World → Prop) : Prop :=
    InR .i64 (((lL : Nat) : Int) - 1) ∧
    (∃ (inRang : Bool),
    PureX [] Tryz.prog fn_impl_inRange #[.int .i64 g, .int .i64 0, .int .i64 (((lL : Nat) : Int) - 1)] w (.bool inRang) ∧
    (inRang = true → Ix lO lL g) ∧
    (∃ (used : Bool),
    (inRang = true → CellsX [] w lO (Int.toNat g * 14 + 0) [.bool used]) ∧
    R (.bool (inRang && used)) w))
theorem v_impl_groupUsed (lO : Option Addr) (lL : Nat) (lC : Nat) (g : Int) (w : World) (R : Value → World → Prop) : evFn c_impl_groupUsed s_impl_groupUsed [.slice lO lL lC, .int .i64 g] (bodyOf Tryz.f92) Tryz.f92.results.toList w R = V_impl_groupUsed lO lL lC g w R := by kernel_rfl
theorem p_impl_groupUsed (lO : Option Addr) (lL : Nat) (lC : Nat) (g : Int) {w : World} {bs : List Nat} {ret : Value} (hvc : ∀ wr0, ExtX bs w wr0 → V_impl_groupUsed lO lL lC g wr0 fun v0 _ => v0 = ret) : PureX bs Tryz.prog fn_impl_groupUsed #[.slice lO lL lC, .int .i64 g] w ret :=
  pure_of_ev (C := c_impl_groupUsed) (sps := s_impl_groupUsed) (body := bodyOf Tryz.f92) (env _ _ _ _ _) Tryz.func92 rfl rfl (of_decide_eq_true (by kernel_rfl)) (of_decide_eq_true (by kernel_rfl)) rfl rfl fun wr0 hx0 => by rw [v_impl_groupUsed]; exact hvc wr0 hx0
noncomputable def c_impl_NameOk : Cfg := { P := Tryz.prog, T := tblGet tbl, pf := pfT, ef := efT, tt := ttT, vis := [], n := 36, pm := false, wr := false }
noncomputable def s_impl_NameOk : List (Nat × LSpec) := [(11, { chg := [], chgL := [], keep := [17] })]
def V_impl_NameOk (s : ByteArray) (w : World) (R : Value → World → Prop) : Prop :=
    ((strEq s (ByteArray.mk [119, 101, 105, 103, 104, 116].toArray)) = true →
    (∀ wr, ExtX [] w wr → R (.bool false) wr)) ∧
    ((strEq s (ByteArray.mk [119, 101, 105, 103, 104, 116].toArray)) = false →
    ((strEq s (ByteArray.mk [109, 97, 120].toArray)) = true →
    (∀ wr1, ExtX [] w wr1 → R (.bool false) wr1)) ∧
    ((strEq s (ByteArray.mk [109, 97, 120].toArray)) = false →
    ((strEq s (ByteArray.mk [99, 112, 117, 115].toArray)) = true →
    (∀ wr2, ExtX [] w wr2 → R (.bool false) wr2)) ∧
    ((strEq s (ByteArray.mk [99, 112, 117, 115].toArray)) = false →
    ((strEq s (ByteArray.mk [112, 114, 111, 99, 115].toArray)) = true →
    (∀ wr3, ExtX [] w wr3 → R (.bool false) wr3)) ∧
    ((strEq s (ByteArray.mk [112, 114, 111, 99, 115].toArray)) = false →
    ((strEq s (ByteArray.mk [115, 116, 97, 116].toArray)) = true →
    (∀ wr4, ExtX [] w wr4 → R (.bool false) wr4)) ∧
    ((strEq s (ByteArray.mk [115, 116, 97, 116].toArray)) = false →
    (∃ (inRang : Bool),
    PureX [] Tryz.prog fn_impl_inRange #[.int .i64 (s.size : Int), .int .i64 1, .int .i64 8] w (.bool inRang) ∧
    ((!inRang) = true →
    (∀ wr5, ExtX [] w wr5 → R (.bool false) wr5)) ∧
    ((!inRang) = false →
    (∀ wr6, ExtX [] w wr6 → (∀ bq ∈ ([] : List Nat), bq < wr6.heap.size) →
    (∃ (it : Option Addr),
    ∃ wv, ((Instr.range ty_string (.string s)) : Sem Value).run Tryz.prog wr6 = .ok (.pointer it) wv ∧ Kept [] wr6 wv ∧
    (∃ (xInv : List Value → World → Prop) (mu : List Value → World → Nat), (∀ wr7, ExtX [] wv wr7 → (∀ bq ∈ ([] : List Nat), bq < wr7.heap.size) → xInv [] wr7) ∧
    ∀  wv1, (∀ bq ∈ ([] : List Nat), bq < wv1.heap.size) → xInv [] wv1 →
    (∀ wr8, ExtX [] wv1 wr8 → (∀ bq ∈ ([] : List Nat), bq < wr8.heap.size) →
    (∃ (b : Nat) (str : ByteArray) (pos : Nat), it = some (Addr.mk b 0 none) ∧ b ∉ ([] : List Nat) ∧ wr8.heap[b]? = some (.stringIter str pos) ∧
    (str.size ≤ pos →
    (false = true →
    False) ∧
    (false = false →
    (∀ wr9, ExtX [] wr8 wr9 → R (.bool true) wr9))) ∧
    (pos < str.size →
    (true = true →
    ((!(((decide (((Utf8.decode str pos).1 : Int) ≥ 97)) && (decide (((Utf8.decode str pos).1 : Int) ≤ 122))) || ((decide (((Utf8.decode str pos).1 : Int) ≥ 48)) && (decide (((Utf8.decode str pos).1 : Int) ≤ 57))))) = true →
    (∀ wr10, ExtX [] (iterW wr8 b str (pos + (Utf8.decode str pos).2)) wr10 → R (.bool false) wr10)) ∧
    ((!(((decide (((Utf8.decode str pos).1 : Int) ≥ 97)) && (decide (((Utf8.decode str pos).1 : Int) ≤ 122))) || ((decide (((Utf8.decode str pos).1 : Int) ≥ 48)) && (decide (((Utf8.decode str pos).1 : Int) ≤ 57))))) = false →
    (∀ wr11, ExtX [] (iterW wr8 b str (pos + (Utf8.decode str pos).2)) wr11 → (∀ bq ∈ ([] : List Nat), bq < wr11.heap.size) → xInv [] wr11 ∧ mu [] wr11 < mu [] wv1))) ∧
    (true = false →
    (∀ wr12, ExtX [] (iterW wr8 b str (pos + (Utf8.decode str pos).2)) wr12 → R (.bool true) wr12)))))))))))))))
theorem v_impl_NameOk (s : ByteArray) (w : World) (R : Value → World → Prop) : evFn c_impl_NameOk s_impl_NameOk [.string s] (bodyOf Tryz.f136) Tryz.f136.results.toList w R = V_impl_NameOk s w R := by kernel_rfl
theorem e_impl_NameOk (s : ByteArray) {w : World} {R : Value → World → Prop} (hvc : V_impl_NameOk s w R) : Calls Tryz.prog fn_impl_NameOk #[.string s] w fun e0 wr0 => ∃ v0, e0 = .returned v0 ∧ R v0 wr0 :=
  eff_of_ev (C := c_impl_NameOk) (sps := s_impl_NameOk) (body := bodyOf Tryz.f136) (env _ _ _ _ _) Tryz.func136 rfl rfl (of_decide_eq_true (by kernel_rfl)) (of_decide_eq_true (by kernel_rfl)) rfl rfl (by rw [v_impl_NameOk]; exact hvc)
noncomputable def c_impl_node_depth : Cfg := { P := Tryz.prog, T := tblGet tbl, pf := pfT, ef := efT, tt := ttT, vis := [], n := 22, pm := true, wr := false }
noncomputable def s_impl_node_depth : List (Nat × LSpec) := [(2, { chg := [(0, .ptr), (3, .int .i64)], chgL := [], keep := [] })]
def V_impl_node_depth (n : Option Addr) (w : World) (R : Value → World → Prop) : Prop :=
    (∃ (xInv : List Value → Prop) (mu : List Value → Nat), xInv [.pointer n, .int .i64 0] ∧
    ∀ (n1 : Option Addr) (steps : Int), xInv [.pointer n1, .int .i64 steps] →
    (((!n1.isNone) && (decide (steps ≤ 3))) = true →
    n1.isSome = true ∧
    (∃ (slot : Int),
    CellsX [] w n1 (0 + 0) [.int .i64 slot] ∧
    ((slot == 0) = true →
    R (.int .i64 steps) w) ∧
    ((slot == 0) = false →
    InR .i64 (steps + 1) ∧
    n1.isSome = true ∧
    (∃ (up : Option Addr),
    CellsX [] w n1 (0 + 2) [.pointer up] ∧
    xInv [.pointer up, .int .i64 (steps + 1)] ∧ mu [.pointer up, .int .i64 (steps + 1)] < mu [.pointer n1, .int .i64 steps])))) ∧
    (((!n1.isNone) && (decide (steps ≤ 3))) = false →
    R (.int .i64 (-1)) w))
theorem v_impl_node_depth (n : Option Addr) (w : World) (R : Value → World → Prop) : evFn c_impl_node_depth s_impl_node_depth [.pointer n] (bodyOf Tryz.f137) Tryz.f137.results.toList w R = V_impl_node_depth n w R := by kernel_rfl
theorem p_impl_node_depth (n : Option Addr) {w : World} {bs : List Nat} {ret : Value} (hvc : ∀ wr0, ExtX bs w wr0 → V_impl_node_depth n wr0 fun v0 _ => v0 = ret) : PureX bs Tryz.prog fn_impl_node_depth #[.pointer n] w ret :=
  pure_of_ev (C := c_impl_node_depth) (sps := s_impl_node_depth) (body := bodyOf Tryz.f137) (env _ _ _ _ _) Tryz.func137 rfl rfl (of_decide_eq_true (by kernel_rfl)) (of_decide_eq_true (by kernel_rfl)) rfl rfl fun wr0 hx0 => by rw [v_impl_node_depth]; exact hvc wr0 hx0
noncomputable def c_impl_nodes : Cfg := { P := Tryz.prog, T := tblGet tbl, pf := pfT, ef := efT, tt := ttT, vis := [57], n := 137, pm := false, wr := false }
noncomputable def s_impl_nodes : List (Nat × LSpec) := [(5, { chg := [(40, .int .i64)], chgL := [], keep := [0, 4, 39] }), (12, { chg := [(7, .int .i64)], chgL := [], keep := [0, 4, 6] }), (24, { chg := [(124, .int .i64)], chgL := [], keep := [4, 122, 123] })]
def V_impl_nodes (lO : Option Addr) (lL : Nat) (lC : Nat) (w : World) (R : Value → World → Prop) : Prop :=
    ((((lL : Nat) : Int) != 8) = false → Ix lO lL 0) ∧
    (∃ (used : Bool),
    ((((lL : Nat) : Int) != 8) = false → CellsX [] w lO (Int.toNat 0 * 14 + 0) [.bool used]) ∧
    (((((lL : Nat) : Int) != 8) || (!used)) = false → Ix lO lL 0) ∧
    (∃ (parent : Int),
    (((((lL : Nat) : Int) != 8) || (!used)) = false → CellsX [] w lO (Int.toNat 0 * 14 + 1) [.int .i64 parent]) ∧
    ((((((lL : Nat) : Int) != 8) || (!used)) || (parent != (-1))) = false → Ix lO lL 0) ∧
    (∃ (name : ByteArray),
    ((((((lL : Nat) : Int) != 8) || (!used)) || (parent != (-1))) = false → CellsX [] w lO (Int.toNat 0 * 14 + 2) [.string name]) ∧
    (((((((lL : Nat) : Int) != 8) || (!used)) || (parent != (-1))) || (!strEq name (ByteArray.mk [].toArray))) = true →
    (∀ wr, ExtX [] w wr → R (.tuple #[.slice none 0 0, .bool false]) wr)) ∧
    (((((((lL : Nat) : Int) != 8) || (!used)) || (parent != (-1))) || (!strEq name (ByteArray.mk [].toArray))) = false →
    (∀ wr1, ExtX [] w wr1 → (∀ bq ∈ ([] : List Nat), bq < wr1.heap.size) →
    (∃ (mkO : Option Addr) (mkL : Nat) (mkC : Nat),
    ∃ wv, ((Instr.makeSlice ty_sl_p_impl_node (.int .i64 8) (.int .i64 8)) : Sem Value).run Tryz.prog wr1 = .ok (.slice mkO mkL mkC) wv ∧ Kept [] wr1 wv ∧
    (∃ (xInv : List Value → World → Prop) (mu : List Value → World → Nat), (∀ wr2, ExtX [] wv wr2 → (∀ bq ∈ ([] : List Nat), bq < wr2.heap.size) → xInv [.int .i64 0] wr2) ∧
    ∀ (x : Int) wv1, (∀ bq ∈ ([] : List Nat), bq < wv1.heap.size) → xInv [.int .i64 x] wv1 →
    ((decide (x < ((lL : Nat) : Int))) = true →
    Ix lO lL x ∧
    (∃ (used1 : Bool),
    CellsX [] wv1 lO (Int.toNat x * 14 + 0) [.bool used1] ∧
    (used1 = true →
    Ix lO lL x ∧
    (∃ (name1 : ByteArray),
    CellsX [] wv1 lO (Int.toNat x * 14 + 2) [.string name1] ∧
    (∀ b wb, ExtX [] wv1 wb → wv1.heap.size ≤ b → wb.heap[b]? = some (Obj.cells ([.int .i64 x, .string name1, .pointer none] : List Value).toArray ty_impl_node (0, 0)) → b ∉ ([] : List Nat) →
    Ix mkO mkL x ∧
    WrX [] wb mkO (Int.toNat x * 1) 1 ∧
    InR .i64 (x + 1) ∧
    (∀ wr3, ExtX [] (sto wb mkO (Int.toNat x * 1) [.pointer ((some (Addr.mk b 0 none)).map (·.add 0))]) wr3 → (∀ bq ∈ ([] : List Nat), bq < wr3.heap.size) → xInv [.int .i64 (x + 1)] wr3 ∧ mu [.int .i64 (x + 1)] wr3 < mu [.int .i64 x] wv1)))) ∧
    (used1 = false →
    InR .i64 (x + 1) ∧
    (∀ wr4, ExtX [] wv1 wr4 → (∀ bq ∈ ([] : List Nat), bq < wr4.heap.size) → xInv [.int .i64 (x + 1)] wr4 ∧ mu [.int .i64 (x + 1)] wr4 < mu [.int .i64 x] wv1)))) ∧
    ((decide (x < ((lL : Nat) : Int))) = false →
    (∀ wr5, ExtX [] wv1 wr5 → (∀ bq ∈ ([] : List Nat), bq < wr5.heap.size) →
    (∃ (mp : Value),
    ∃ wv2, ((Instr.makeMap ty_map_impl_nodeKey_int none) : Sem Value).run Tryz.prog wr5 = .ok mp wv2 ∧ Kept [] wr5 wv2 ∧
    (∃ (xInv1 : List Value → World → Prop) (mu1 : List Value → World → Nat), (∀ wr6, ExtX [] wv2 wr6 → (∀ bq ∈ ([] : List Nat), bq < wr6.heap.size) → xInv1 [.int .i64 1] wr6) ∧
    ∀ (g : Int) wv3, (∀ bq ∈ ([] : List Nat), bq < wv3.heap.size) → xInv1 [.int .i64 g] wv3 →
    ((decide (g < 8)) = true →
    Ix mkO mkL g ∧
    (∃ (x1 : Option Addr),
    CellsX [] wv3 mkO (Int.toNat g * 1) [.pointer x1] ∧
    (x1.isNone = true →
    InR .i64 (g + 1) ∧
    (∀ wr7, ExtX [] wv3 wr7 → (∀ bq ∈ ([] : List Nat), bq < wr7.heap.size) → xInv1 [.int .i64 (g + 1)] wr7 ∧ mu1 [.int .i64 (g + 1)] wr7 < mu1 [.int .i64 g] wv3)) ∧
    (x1.isNone = false →
    Ix lO lL g ∧
    (∃ (name2 : ByteArray),
    CellsX [] wv3 lO (Int.toNat g * 14 + 2) [.string name2] ∧
    (∃ (xNameOk : Bool),
    PureX [] Tryz.prog fn_impl_NameOk #[.string name2] wv3 (.bool xNameOk) ∧
    ((!xNameOk) = false → Ix lO lL g) ∧
    (∃ (parent1 : Int),
    ((!xNameOk) = false → CellsX [] wv3 lO (Int.toNat g * 14 + 1) [.int .i64 parent1]) ∧
    (∃ (groupU : Bool),
    ((!xNameOk) = false → PureX [] Tryz.prog fn_impl_groupUsed #[.slice lO lL lC, .int .i64 parent1] wv3 (.bool groupU)) ∧
    (((!xNameOk) || (!groupU)) = true →
    (∀ wr8, ExtX [] wv3 wr8 → R (.tuple #[.slice none 0 0, .bool false]) wr8)) ∧
    (((!xNameOk) || (!groupU)) = false →
    Ix mkO mkL g ∧
    (∃ (x2 : Option Addr),
    CellsX [] wv3 mkO (Int.toNat g * 1) [.pointer x2] ∧
    Ix lO lL g ∧
    (∃ (parent2 : Int),
    CellsX [] wv3 lO (Int.toNat g * 14 + 1) [.int .i64 parent2] ∧
    Ix mkO mkL parent2 ∧
    (∃ (x3 : Option Addr),
    CellsX [] wv3 mkO (Int.toNat parent2 * 1) [.pointer x3] ∧
    x2.isSome = true ∧
    WrX [] wv3 x2 (0 + 2) 1 ∧
    Ix lO lL g ∧
    (∃ (parent3 : Int),
    CellsX [] (sto wv3 x2 (0 + 2) [.pointer x3]) lO (Int.toNat g * 14 + 1) [.int .i64 parent3] ∧
    Ix lO lL g ∧
    (∃ (name3 : ByteArray),
    CellsX [] (sto wv3 x2 (0 + 2) [.pointer x3]) lO (Int.toNat g * 14 + 2) [.string name3] ∧
    (∀ b1, (sto wv3 x2 (0 + 2) [.pointer x3]).heap.size ≤ b1 →
    CellsX [] (sto wv3 x2 (0 + 2) [.pointer x3]) lO (Int.toNat g * 14 + 2) [.string name3] ∧
    CellsX [] (sto wv3 x2 (0 + 2) [.pointer x3]) lO (Int.toNat g * 14 + 1) [.int .i64 parent3] ∧
    (∀ wr9, ExtX [] (sto wv3 x2 (0 + 2) [.pointer x3]) wr9 → (∀ bq ∈ ([b1] : List Nat), bq < wr9.heap.size) →
    (∃ (lk : Int) (lk1 : Bool),
    ∃ wv4, ((Instr.lookup ty_map_impl_nodeKey_int mp (.agg #[.int .i64 parent3, .string name3]) true) : Sem Value).run Tryz.prog wr9 = .ok (.tuple #[.int .i64 lk, .bool lk1]) wv4 ∧ Kept [b1] wr9 wv4 ∧
    (lk1 = true →
    (∀ wr10, ExtX [b1] wv4 wr10 → R (.tuple #[.slice none 0 0, .bool false]) wr10)) ∧
    (lk1 = false →
    (∀ wr11, ExtX [b1] wv4 wr11 → (∀ bq ∈ ([b1] : List Nat), bq < wr11.heap.size) →
    ∃ wv5, ((do Instr.mapUpdate ty_map_impl_nodeKey_int mp (.agg #[.int .i64 parent3, .string name3]) (.int .i64 g); pure undef) : Sem Value).run Tryz.prog wr11 = .ok undef wv5 ∧ Kept [b1] wr11 wv5 ∧
    InR .i64 (g + 1) ∧
    (∀ wr12, ExtX [b1] wv5 wr12 → (∀ bq ∈ ([b1] : List Nat), bq < wr12.heap.size) → xInv1 [.int .i64 (g + 1)] wr12 ∧ mu1 [.int .i64 (g + 1)] wr12 < mu1 [.int .i64 g] wv3))))))))))))))))))) ∧
    ((decide (g < 8)) = false →
    (∃ (xInv2 : List Value → World → Prop) (mu2 : List Value → World → Nat), (∀ wr13, ExtX [] wv3 wr13 → (∀ bq ∈ ([] : List Nat), bq < wr13.heap.size) → xInv2 [.int .i64 0] wr13) ∧
    ∀ (x4 : Int) wv6, (∀ bq ∈ ([] : List Nat), bq < wv6.heap.size) → xInv2 [.int .i64 x4] wv6 →
    ((decide (x4 < ((mkL : Nat) : Int))) = true →
    Ix mkO mkL x4 ∧
    (∃ (x5 : Option Addr),
    CellsX [] wv6 mkO (Int.toNat x4 * 1) [.pointer x5] ∧
    (∃ (depth : Int),
    ((!x5.isNone) = true → PureX [] Tryz.prog fn_impl_node_depth #[.pointer x5] wv6 (.int .i64 depth)) ∧
    (((!x5.isNone) && (decide (depth < 0))) = true →
    (∀ wr14, ExtX [] wv6 wr14 → R (.tuple #[.slice none 0 0, .bool false]) wr14)) ∧
    (((!x5.isNone) && (decide (depth < 0))) = false →
    InR .i64 (x4 + 1) ∧
    (∀ wr15, ExtX [] wv6 wr15 → (∀ bq ∈ ([] : List Nat), bq < wr15.heap.size) → xInv2 [.int .i64 (x4 + 1)] wr15 ∧ mu2 [.int .i64 (x4 + 1)] wr15 < mu2 [.int .i64 x4] wv6))))) ∧
    ((decide (x4 < ((mkL : Nat) : Int))) = false →
    (∀ wr16, ExtX [] wv6 wr16 → R (.tuple #[.slice mkO mkL mkC, .bool true]) wr16)))))))))))))))
theorem v_impl_nodes (lO : Option Addr) (lL : Nat) (lC : Nat) (w : World) (R : Value → World → Prop) : evFn c_impl_nodes s_impl_nodes [.slice lO lL lC] (bodyOf Tryz.f123) Tryz.f123.results.toList w R = V_impl_nodes lO lL lC w R := by kernel_rfl
theorem e_impl_nodes (lO : Option Addr) (lL : Nat) (lC : Nat) {w : World} {R : Value → World → Prop} (hvc : V_impl_nodes lO lL lC w R) : Calls Tryz.prog fn_impl_nodes #[.slice lO lL lC] w fun e0 wr0 => ∃ v0, e0 = .returned v0 ∧ R v0 wr0 :=
  eff_of_ev (C := c_impl_nodes) (sps := s_impl_nodes) (body := bodyOf Tryz.f123) (env _ _ _ _ _) Tryz.func123 rfl rfl (of_decide_eq_true (by kernel_rfl)) (of_decide_eq_true (by kernel_rfl)) rfl rfl (by rw [v_impl_nodes]; exact hvc)
noncomputable def c_impl_TreeOk : Cfg := { P := Tryz.prog, T := tblGet tbl, pf := pfT, ef := efT, tt := ttT, vis := [], n := 11, pm := false, wr := false }
noncomputable def s_impl_TreeOk : List (Nat × LSpec) := []
def V_impl_TreeOk (lO : Option Addr) (lL : Nat) (lC : Nat) (w : World) (R : Value → World → Prop) : Prop :=
    (∀ wr, ExtX [] w wr → (∀ bq ∈ ([] : List Nat), bq < wr.heap.size) →
    Calls Tryz.prog fn_impl_nodes #[.slice lO lL lC] wr fun e wv =>
    (∃ (nodesO : Option Addr) (nodesL : Nat) (nodesC : Nat) (nodes1 : Bool),
    e = .returned (.tuple #[.slice nodesO nodesL nodesC, .bool nodes1]) ∧ Kept [] wr wv ∧
    (∀ wr1, ExtX [] wv wr1 → R (.bool nodes1) wr1)))
theorem v_impl_TreeOk (lO : Option Addr) (lL : Nat) (lC : Nat) (w : World) (R : Value → World → Prop) : evFn c_impl_TreeOk s_impl_TreeOk [.slice lO lL lC] (bodyOf Tryz.f87) Tryz.f87.results.toList w R = V_impl_TreeOk lO lL lC w R := by kernel_rfl
theorem e_impl_TreeOk (lO : Option Addr) (lL : Nat) (lC : Nat) {w : World} {R : Value → World → Prop} (hvc : V_impl_TreeOk lO lL lC w R) : Calls Tryz.prog fn_impl_TreeOk #[.slice lO lL lC] w fun e0 wr0 => ∃ v0, e0 = .returned v0 ∧ R v0 wr0 :=
  eff_of_ev (C := c_impl_TreeOk) (sps := s_impl_TreeOk) (body := bodyOf Tryz.f87) (env _ _ _ _ _) Tryz.func87 rfl rfl (of_decide_eq_true (by kernel_rfl)) (of_decide_eq_true (by kernel_rfl)) rfl rfl (by rw [v_impl_TreeOk]; exact hvc)
noncomputable def c_impl_World_shapeOk : Cfg := { P := Tryz.prog, T := tblGet tbl, pf := pfT, ef := efT, tt := ttT, vis := [], n := 37, pm := true, wr := false }
noncomputable def s_impl_World_shapeOk : List (Nat × LSpec) := []
def V_impl_World_shapeOk (wv : Option Addr) (w : World) (R : Value → World → Prop) : Prop :=
    wv.isSome = true ∧
    (∃ (now : Int),
    CellsX [] w wv (0 + 0) [.int .i64 now] ∧
    (∀ b, w.heap.size ≤ b →
    (∃ (timeOk : Bool),
    (∀ wx, ExtX [] w wx → wx.heap[b]? = some (Obj.cells ([.int .i64 now] : List Value).toArray ty_int (0, 0)) → PureX [] Tryz.prog fn_impl_timeOk #[.slice (some (Addr.mk b 0 none)) 1 1] wx (.bool timeOk)) ∧
    (timeOk = true → wv.isSome = true) ∧
    (∃ (cpusO : Option Addr) (cpusL : Nat) (cpusC : Nat),
    (timeOk = true → CellsX [] w wv (0 + 1) [.slice cpusO cpusL cpusC]) ∧
    (∃ (inRang : Bool),
    (timeOk = true → PureX [] Tryz.prog fn_impl_inRange #[.int .i64 ((cpusL : Nat) : Int), .int .i64 1, .int .i64 4] w (.bool inRang)) ∧
    (∃ (online : Int),
    ((timeOk && inRang) = true → PureX [] Tryz.prog fn_impl_World_online #[.pointer wv] w (.int .i64 online)) ∧
    (((timeOk && inRang) && (online != 0)) = true → wv.isSome = true) ∧
    (∃ (tasksO : Option Addr) (tasksL : Nat) (tasksC : Nat),
    (((timeOk && inRang) && (online != 0)) = true → CellsX [] w wv (0 + 2) [.slice tasksO tasksL tasksC]) ∧
    ((((timeOk && inRang) && (online != 0)) && (((tasksL : Nat) : Int) == 12)) = true → wv.isSome = true) ∧
    (∃ (groupsO : Option Addr) (groupsL : Nat) (groupsC : Nat),
    ((((timeOk && inRang) && (online != 0)) && (((tasksL : Nat) : Int) == 12)) = true → CellsX [] w wv (0 + 3) [.slice groupsO groupsL groupsC]) ∧
    (∃ (xTreeOk : Bool),
    ((((timeOk && inRang) && (online != 0)) && (((tasksL : Nat) : Int) == 12)) = true → PureX [] Tryz.prog fn_impl_TreeOk #[.slice groupsO groupsL groupsC] w (.bool xTreeOk)) ∧
    R (.bool ((((timeOk && inRang) && (online != 0)) && (((tasksL : Nat) : Int) == 12)) && xTreeOk)) w)))))))))
theorem v_impl_World_shapeOk (wv : Option Addr) (w : World) (R : Value → World → Prop) : evFn c_impl_World_shapeOk s_impl_World_shapeOk [.pointer wv] (bodyOf Tryz.f48) Tryz.f48.results.toList w R = V_impl_World_shapeOk wv w R := by kernel_rfl
theorem p_impl_World_shapeOk (wv : Option Addr) {w : World} {bs : List Nat} {ret : Value} (hvc : ∀ wr0, ExtX bs w wr0 → V_impl_World_shapeOk wv wr0 fun v0 _ => v0 = ret) : PureX bs Tryz.prog fn_impl_World_shapeOk #[.pointer wv] w ret :=
  pure_of_ev (C := c_impl_World_shapeOk) (sps := s_impl_World_shapeOk) (body := bodyOf Tryz.f48) (env _ _ _ _ _) Tryz.func48 rfl rfl (of_decide_eq_true (by kernel_rfl)) (of_decide_eq_true (by kernel_rfl)) rfl rfl fun wr0 hx0 => by rw [v_impl_World_shapeOk]; exact hvc wr0 hx0
noncomputable def c_impl_bandZero : Cfg := { P := Tryz.prog, T := tblGet tbl, pf := pfT, ef := efT, tt := ttT, vis := [], n := 28, pm := true, wr := false }
noncomputable def s_impl_bandZero : List (Nat × LSpec) := []
def V_impl_bandZero (b0 : Int) (b1 : Int) (b2 : Int) (b3O : Option Addr) (b3L : Nat) (b3C : Nat) (b4O : Option Addr) (b4L : Nat) (b4C : Nat) (w : World) (R : Value → World → Prop) : Prop :=
    (∀ b, w.heap.size ≤ b →
    R (.bool (((((b0 == 0) && (b1 == 0)) && (b2 == 0)) && (((b3L : Nat) : Int) == 0)) && (((b4L : Nat) : Int) == 0))) w)
theorem v_impl_bandZero (b0 : Int) (b1 : Int) (b2 : Int) (b3O : Option Addr) (b3L : Nat) (b3C : Nat) (b4O : Option Addr) (b4L : Nat) (b4C : Nat) (w : World) (R : Value → World → Prop) : evFn c_impl_bandZero s_impl_bandZero [.agg #[.int .i64 b0, .int .i64 b1, .int .i64 b2, .slice b3O b3L b3C, .slice b4O b4L b4C]] (bodyOf Tryz.f124) Tryz.f124.results.toList w R = V_impl_bandZero b0 b1 b2 b3O b3L b3C b4O b4L b4C w R := by kernel_rfl
theorem p_impl_bandZero (b0 : Int) (b1 : Int) (b2 : Int) (b3O : Option Addr) (b3L : Nat) (b3C : Nat) (b4O : Option Addr) (b4L : Nat) (b4C : Nat) {w : World} {bs : List Nat} {ret : Value} (hvc : ∀ wr0, ExtX bs w wr0 → V_impl_bandZero b0 b1 b2 b3O b3L b3C b4O b4L b4C wr0 fun v0 _ => v0 = ret) : PureX bs Tryz.prog fn_impl_bandZero #[.agg #[.int .i64 b0, .int .i64 b1, .int .i64 b2, .slice b3O b3L b3C, .slice b4O b4L b4C]] w ret :=
  pure_of_ev (C := c_impl_bandZero) (sps := s_impl_bandZero) (body := bodyOf Tryz.f124) (env _ _ _ _ _) Tryz.func124 rfl rfl (of_decide_eq_true (by kernel_rfl)) (of_decide_eq_true (by kernel_rfl)) rfl rfl fun wr0 hx0 => by rw [v_impl_bandZero]; exact hvc wr0 hx0
noncomputable def c_impl_groupZero : Cfg := { P := Tryz.prog, T := tblGet tbl, pf := pfT, ef := efT, tt := ttT, vis := [], n := 52, pm := true, wr := false }
noncomputable def s_impl_groupZero : List (Nat × LSpec) := []
def V_impl_groupZero (g0 : Bool) (g1 : Int) (g2 : ByteArray) (g3 : Int) (g4 : Int) (g5 : Int) (g6 : Int) (g7 : Int) (g8 : Int) (g9 : Int) (g10 : Int) (g11O : Option Addr) (g11L : Nat) (g11C : Nat) (g12O : Option Addr) (g12L : Nat) (g12C : Nat) (g13O : Option Addr) (g13L : Nat) (g13C : Nat) (w : World) (R : Value → World → Prop) : Prop :=
    (∀ b, w.heap.size ≤ b →
    (∃ (bandZe : Bool),
    (((((((((!g0) && (g1 == 0)) && (strEq g2 (ByteArray.mk [].toArray))) && (g3 == 0)) && (g4 == 0)) && (g5 == 0)) && (g6 == 0)) && (g7 == 0)) = true → PureX [] Tryz.prog fn_impl_bandZero #[.agg #[.int .i64 g8, .int .i64 g9, .int .i64 g10, .slice g11O g11L g11C, .slice g12O g12L g12C]] w (.bool bandZe)) ∧
    R (.bool ((((((((((!g0) && (g1 == 0)) && (strEq g2 (ByteArray.mk [].toArray))) && (g3 == 0)) && (g4 == 0)) && (g5 == 0)) && (g6 == 0)) && (g7 == 0)) && bandZe) && (((g13L : Nat) : Int) == 0))) w))
theorem v_impl_groupZero (g0 : Bool) (g1 : Int) (g2 : ByteArray) (g3 : Int) (g4 : Int) (g5 : Int) (g6 : Int) (g7 : Int) (g8 : Int) (g9 : Int) (g10 : Int) (g11O : Option Addr) (g11L : Nat) (g11C : Nat) (g12O : Option Addr) (g12L : Nat) (g12C : Nat) (g13O : Option Addr) (g13L : Nat) (g13C : Nat) (w : World) (R : Value → World → Prop) : evFn c_impl_groupZero s_impl_groupZero [.agg #[.bool g0, .int .i64 g1, .string g2, .int .i64 g3, .int .i64 g4, .int .i64 g5, .int .i64 g6, .int .i64 g7, .int .i64 g8, .int .i64 g9, .int .i64 g10, .slice g11O g11L g11C, .slice g12O g12L g12C, .slice g13O g13L g13C]] (bodyOf Tryz.f88) Tryz.f88.results.toList w R = V_impl_groupZero g0 g1 g2 g3 g4 g5 g6 g7 g8 g9 g10 g11O g11L g11C g12O g12L g12C g13O g13L g13C w R := by kernel_rfl
theorem p_impl_groupZero (g0 : Bool) (g1 : Int) (g2 : ByteArray) (g3 : Int) (g4 : Int) (g5 : Int) (g6 : Int) (g7 : Int) (g8 : Int) (g9 : Int) (g10 : Int) (g11O : Option Addr) (g11L : Nat) (g11C : Nat) (g12O : Option Addr) (g12L : Nat) (g12C : Nat) (g13O : Option Addr) (g13L : Nat) (g13C : Nat) {w : World} {bs : List Nat} {ret : Value} (hvc : ∀ wr0, ExtX bs w wr0 → V_impl_groupZero g0 g1 g2 g3 g4 g5 g6 g7 g8 g9 g10 g11O g11L g11C g12O g12L g12C g13O g13L g13C wr0 fun v0 _ => v0 = ret) : PureX bs Tryz.prog fn_impl_groupZero #[.agg #[.bool g0, .int .i64 g1, .string g2, .int .i64 g3, .int .i64 g4, .int .i64 g5, .int .i64 g6, .int .i64 g7, .int .i64 g8, .int .i64 g9, .int .i64 g10, .slice g11O g11L g11C, .slice g12O g12L g12C, .slice g13O g13L g13C]] w ret :=
  pure_of_ev (C := c_impl_groupZero) (sps := s_impl_groupZero) (body := bodyOf Tryz.f88) (env _ _ _ _ _) Tryz.func88 rfl rfl (of_decide_eq_true (by kernel_rfl)) (of_decide_eq_true (by kernel_rfl)) rfl rfl fun wr0 hx0 => by rw [v_impl_groupZero]; exact hvc wr0 hx0
noncomputable def c_impl_weightOk : Cfg := { P := Tryz.prog, T := tblGet tbl, pf := pfT, ef := efT, tt := ttT, vis := [], n := 5, pm := true, wr := false }
noncomputable def s_impl_weightOk : List (Nat × LSpec) := []
def V_impl_weightOk (weight : Int) (w : World) (R : Value → World → Prop) : Prop :=
    (∃ (inRang : Bool),
    PureX [] Tryz.prog fn_impl_inRange #[.int .i64 weight, .int .i64 1, .int .i64 20] w (.bool inRang) ∧
    R (.bool inRang) w)
theorem v_impl_weightOk (weight : Int) (w : World) (R : Value → World → Prop) : evFn c_impl_weightOk s_impl_weightOk [.int .i64 weight] (bodyOf Tryz.f89) Tryz.f89.results.toList w R = V_impl_weightOk weight w R := by kernel_rfl
theorem p_impl_weightOk (weight : Int) {w : World} {bs : List Nat} {ret : Value} (hvc : ∀ wr0, ExtX bs w wr0 → V_impl_weightOk weight wr0 fun v0 _ => v0 = ret) : PureX bs Tryz.prog fn_impl_weightOk #[.int .i64 weight] w ret :=
  pure_of_ev (C := c_impl_weightOk) (sps := s_impl_weightOk) (body := bodyOf Tryz.f89) (env _ _ _ _ _) Tryz.func89 rfl rfl (of_decide_eq_true (by kernel_rfl)) (of_decide_eq_true (by kernel_rfl)) rfl rfl fun wr0 hx0 => by rw [v_impl_weightOk]; exact hvc wr0 hx0
noncomputable def c_impl_cpuSet_ok : Cfg := { P := Tryz.prog, T := tblGet tbl, pf := pfT, ef := efT, tt := ttT, vis := [], n := 9, pm := true, wr := false }
noncomputable def s_impl_cpuSet_ok : List (Nat × LSpec) := []
def V_impl_cpuSet_ok (m : Int) (w : World) (R : Value → World → Prop) : Prop :=
    R (.bool ((decide (m ≥ 0)) && (decide (m ≤ 15)))) w
theorem v_impl_cpuSet_ok (m : Int) (w : World) (R : Value → World → Prop) : evFn c_impl_cpuSet_ok s_impl_cpuSet_ok [.int .i64 m] (bodyOf Tryz.f132) Tryz.f132.results.toList w R = V_impl_cpuSet_ok m w R := by kernel_rfl
theorem p_impl_cpuSet_ok (m : Int) {w : World} {bs : List Nat} {ret : Value} (hvc : ∀ wr0, ExtX bs w wr0 → V_impl_cpuSet_ok m wr0 fun v0 _ => v0 = ret) : PureX bs Tryz.prog fn_impl_cpuSet_ok #[.int .i64 m] w ret :=
  pure_of_ev (C := c_impl_cpuSet_ok) (sps := s_impl_cpuSet_ok) (body := bodyOf Tryz.f132) (env _ _ _ _ _) Tryz.func132 rfl rfl (of_decide_eq_true (by kernel_rfl)) (of_decide_eq_true (by kernel_rfl)) rfl rfl fun wr0 hx0 => by rw [v_impl_cpuSet_ok]; exact hvc wr0 hx0
noncomputable def c_impl_MaskOk : Cfg := { P := Tryz.prog, T := tblGet tbl, pf := pfT, ef := efT, tt := ttT, vis := [], n := 5, pm := true, wr := false }
noncomputable def s_impl_MaskOk : List (Nat × LSpec) := []
def V_impl_MaskOk (m : Int) (w : World) (R : Value → World → Prop) : Prop :=
    (∃ (ok : Bool),
    PureX [] Tryz.prog fn_impl_cpuSet_ok #[.int .i64 m] w (.bool ok) ∧
    R (.bool ok) w)
theorem v_impl_MaskOk (m : Int) (w : World) (R : Value → World → Prop) : evFn c_impl_MaskOk s_impl_MaskOk [.int .i64 m] (bodyOf Tryz.f125) Tryz.f125.results.toList w R = V_impl_MaskOk m w R := by kernel_rfl
theorem p_impl_MaskOk (m : Int) {w : World} {bs : List Nat} {ret : Value} (hvc : ∀ wr0, ExtX bs w wr0 → V_impl_MaskOk m wr0 fun v0 _ => v0 = ret) : PureX bs Tryz.prog fn_impl_MaskOk #[.int .i64 m] w ret :=
  pure_of_ev (C := c_impl_MaskOk) (sps := s_impl_MaskOk) (body := bodyOf Tryz.f125) (env _ _ _ _ _) Tryz.func125 rfl rfl (of_decide_eq_true (by kernel_rfl)) (of_decide_eq_true (by kernel_rfl)) rfl rfl fun wr0 hx0 => by rw [v_impl_MaskOk]; exact hvc wr0 hx0
noncomputable def c_impl_maskFull : Cfg := { P := Tryz.prog, T := tblGet tbl, pf := pfT, ef := efT, tt := ttT, vis := [], n := 9, pm := true, wr := false }
noncomputable def s_impl_maskFull : List (Nat × LSpec) := []
def V_impl_maskFull (m : Int) (w : World) (R : Value → World → Prop) : Prop :=
    (∃ (xMaskOk : Bool),
    ((m != 0) = true → PureX [] Tryz.prog fn_impl_MaskOk #[.int .i64 m] w (.bool xMaskOk)) ∧
    R (.bool ((m != 0) && xMaskOk)) w)
theorem v_impl_maskFull (m : Int) (w : World) (R : Value → World → Prop) : evFn c_impl_maskFull s_impl_maskFull [.int .i64 m] (bodyOf Tryz.f90) Tryz.f90.results.toList w R = V_impl_maskFull m w R := by kernel_rfl
theorem p_impl_maskFull (m : Int) {w : World} {bs : List Nat} {ret : Value} (hvc : ∀ wr0, ExtX bs w wr0 → V_impl_maskFull m wr0 fun v0 _ => v0 = ret) : PureX bs Tryz.prog fn_impl_maskFull #[.int .i64 m] w ret :=
  pure_of_ev (C := c_impl_maskFull) (sps := s_impl_maskFull) (body := bodyOf Tryz.f90) (env _ _ _ _ _) Tryz.func90 rfl rfl (of_decide_eq_true (by kernel_rfl)) (of_decide_eq_true (by kernel_rfl)) rfl rfl fun wr0 hx0 => by rw [v_impl_maskFull]; exact hvc wr0 hx0
noncomputable def c_impl_BandOk : Cfg := { P := Tryz.prog, T := tblGet tbl, pf := pfT, ef := efT, tt := ttT, vis := [], n := 82, pm := true, wr := false }
noncomputable def s_impl_BandOk : List (Nat × LSpec) := [(7, { chg := [(3, .int .i64), (48, .int .i64)], chgL := [], keep := [1, 46, 47] })]
def V_impl_BandOk (b0 : Int) (b1 : Int) (b2 : Int) (b3O : Option Addr) (b3L : Nat) (b3C : Nat) (b4O : Option Addr) (b4L : Nat) (b4C : Nat) (w : World) (R : Value → World → Prop) : Prop :=
    (∀ b, w.heap.size ≤ b →
    (∃ (inRang : Bool),
    PureX [] Tryz.prog fn_impl_inRange #[.int .i64 b0, .int .i64 1, .int .i64 10000] w (.bool inRang) ∧
    (∃ (inRang1 : Bool),
    ((!inRang) = false → PureX [] Tryz.prog fn_impl_inRange #[.int .i64 ((b3L : Nat) : Int), .int .i64 1, .int .i64 4] w (.bool inRang1)) ∧
    ((((!inRang) || (!inRang1)) || (((b4L : Nat) : Int) != ((b3L : Nat) : Int))) = true →
    R (.bool false) w) ∧
    ((((!inRang) || (!inRang1)) || (((b4L : Nat) : Int) != ((b3L : Nat) : Int))) = false →
    (∃ (inRang2 : Bool),
    PureX [] Tryz.prog fn_impl_inRange #[.int .i64 b1, .int .i64 0, .int .i64 b0] w (.bool inRang2) ∧
    (∃ (inRang3 : Bool),
    ((!inRang2) = false → PureX [] Tryz.prog fn_impl_inRange #[.int .i64 b2, .int .i64 0, .int .i64 b0] w (.bool inRang3)) ∧
    (((!inRang2) || (!inRang3)) = true →
    R (.bool false) w) ∧
    (((!inRang2) || (!inRang3)) = false →
    InR .i64 (b1 + b2) ∧
    (∃ (xInv : List Value → Prop) (mu : List Value → Nat), xInv [.int .i64 (b1 + b2), .int .i64 0] ∧
    ∀ (total : Int) (x : Int), xInv [.int .i64 total, .int .i64 x] →
    ((decide (x < ((b3L : Nat) : Int))) = true →
    Ix b3O b3L x ∧
    (∃ (x1 : Int),
    CellsX [] w b3O (Int.toNat x * 1) [.int .i64 x1] ∧
    (∃ (inRang4 : Bool),
    PureX [] Tryz.prog fn_impl_inRange #[.int .i64 x1, .int .i64 0, .int .i64 b0] w (.bool inRang4) ∧
    ((!inRang4) = false → Ix b4O b4L x) ∧
    (∃ (x2 : Bool),
    ((!inRang4) = false → CellsX [] w b4O (Int.toNat x * 1) [.bool x2]) ∧
    (((!inRang4) || (x2 && ((x1 != 0) || (b1 != 0)))) = true →
    R (.bool false) w) ∧
    (((!inRang4) || (x2 && ((x1 != 0) || (b1 != 0)))) = false →
    InR .i64 (total + x1) ∧
    InR .i64 (x + 1) ∧
    xInv [.int .i64 (total + x1), .int .i64 (x + 1)] ∧ mu [.int .i64 (total + x1), .int .i64 (x + 1)] < mu [.int .i64 total, .int .i64 x]))))) ∧
    ((decide (x < ((b3L : Nat) : Int))) = false →
    R (.bool (total == b0)) w)))))))))
theorem v_impl_BandOk (b0 : Int) (b1 : Int) (b2 : Int) (b3O : Option Addr) (b3L : Nat) (b3C : Nat) (b4O : Option Addr) (b4L : Nat) (b4C : Nat) (w : World) (R : Value → World → Prop) : evFn c_impl_BandOk s_impl_BandOk [.agg #[.int .i64 b0, .int .i64 b1, .int .i64 b2, .slice b3O b3L b3C, .slice b4O b4L b4C]] (bodyOf Tryz.f126) Tryz.f126.results.toList w R = V_impl_BandOk b0 b1 b2 b3O b3L b3C b4O b4L b4C w R := by kernel_rfl
theorem p_impl_BandOk (b0 : Int) (b1 : Int) (b2 : Int) (b3O : Option Addr) (b3L : Nat) (b3C : Nat) (b4O : Option Addr) (b4L : Nat) (b4C : Nat) {w : World} {bs : List Nat} {ret : Value} (hvc : ∀ wr0, ExtX bs w wr0 → V_impl_BandOk b0 b1 b2 b3O b3L b3C b4O b4L b4C wr0 fun v0 _ => v0 = ret) : PureX bs Tryz.prog fn_impl_BandOk #[.agg #[.int .i64 b0, .int .i64 b1, .int .i64 b2, .slice b3O b3L b3C, .slice b4O b4L b4C]] w ret :=
  pure_of_ev (C := c_impl_BandOk) (sps := s_impl_BandOk) (body := bodyOf Tryz.f126) (env _ _ _ _ _) Tryz.func126 rfl rfl (of_decide_eq_true (by kernel_rfl)) (of_decide_eq_true (by kernel_rfl)) rfl rfl fun wr0 hx0 => by rw [v_impl_BandOk]; exact hvc wr0 hx0
noncomputable def c_impl_World_quotaOk : Cfg := { P := Tryz.prog, T := tblGet tbl, pf := pfT, ef := efT, tt := ttT, vis := [], n := 53, pm := true, wr := false }
noncomputable def s_impl_World_quotaOk : List (Nat × LSpec) := []
def V_impl_World_quotaOk (wv : Option Addr) (g0 : Bool) (g1 : Int) (g2 : ByteArray) (g3 : Int) (g4 : Int) (g5 : Int) (g6 : Int) (g7 : Int) (g8 : Int) (g9 : Int) (g10 : Int) (g11O : Option Addr) (g11L : Nat) (g11C : Nat) (g12O : Option Addr) (g12L : Nat) (g12C : Nat) (g13O : Option Addr) (g13L : Nat) (g13C : Nat) (w : World) (R : Value → World → Prop) : Prop :=
    (∀ b, w.heap.size ≤ b →
    (∃ (bandZe : Bool),
    PureX [] Tryz.prog fn_impl_bandZero #[.agg #[.int .i64 g8, .int .i64 g9, .int .i64 g10, .slice g11O g11L g11C, .slice g12O g12L g12C]] w (.bool bandZe) ∧
    (bandZe = true →
    R (.bool ((g5 == 0) && (g6 == 0))) w) ∧
    (bandZe = false →
    (∃ (xBandOk : Bool),
    PureX [] Tryz.prog fn_impl_BandOk #[.agg #[.int .i64 g8, .int .i64 g9, .int .i64 g10, .slice g11O g11L g11C, .slice g12O g12L g12C]] w (.bool xBandOk) ∧
    (xBandOk = true → wv.isSome = true) ∧
    (∃ (cpusO : Option Addr) (cpusL : Nat) (cpusC : Nat),
    (xBandOk = true → CellsX [] w wv (0 + 1) [.slice cpusO cpusL cpusC]) ∧
    (∃ (inRang : Bool),
    ((xBandOk && (((g11L : Nat) : Int) == ((cpusL : Nat) : Int))) = true → PureX [] Tryz.prog fn_impl_inRange #[.int .i64 g5, .int .i64 1, .int .i64 1000] w (.bool inRang)) ∧
    (((xBandOk && (((g11L : Nat) : Int) == ((cpusL : Nat) : Int))) && inRang) = true → wv.isSome = true) ∧
    (∃ (now : Int),
    (((xBandOk && (((g11L : Nat) : Int) == ((cpusL : Nat) : Int))) && inRang) = true → CellsX [] w wv (0 + 0) [.int .i64 now]) ∧
    (((xBandOk && (((g11L : Nat) : Int) == ((cpusL : Nat) : Int))) && inRang) = true → InR .i64 (now + 1)) ∧
    (((xBandOk && (((g11L : Nat) : Int) == ((cpusL : Nat) : Int))) && inRang) = true → wv.isSome = true) ∧
    (∃ (now1 : Int),
    (((xBandOk && (((g11L : Nat) : Int) == ((cpusL : Nat) : Int))) && inRang) = true → CellsX [] w wv (0 + 0) [.int .i64 now1]) ∧
    (((xBandOk && (((g11L : Nat) : Int) == ((cpusL : Nat) : Int))) && inRang) = true → InR .i64 (now1 + g5)) ∧
    (∃ (inRang1 : Bool),
    (((xBandOk && (((g11L : Nat) : Int) == ((cpusL : Nat) : Int))) && inRang) = true → PureX [] Tryz.prog fn_impl_inRange #[.int .i64 g6, .int .i64 (now + 1), .int .i64 (now1 + g5)] w (.bool inRang1)) ∧
    R (.bool (((xBandOk && (((g11L : Nat) : Int) == ((cpusL : Nat) : Int))) && inRang) && inRang1)) w)))))))))
theorem v_impl_World_quotaOk (wv : Option Addr) (g0 : Bool) (g1 : Int) (g2 : ByteArray) (g3 : Int) (g4 : Int) (g5 : Int) (g6 : Int) (g7 : Int) (g8 : Int) (g9 : Int) (g10 : Int) (g11O : Option Addr) (g11L : Nat) (g11C : Nat) (g12O : Option Addr) (g12L : Nat) (g12C : Nat) (g13O : Option Addr) (g13L : Nat) (g13C : Nat) (w : World) (R : Value → World → Prop) : evFn c_impl_World_quotaOk s_impl_World_quotaOk [.pointer wv, .agg #[.bool g0, .int .i64 g1, .string g2, .int .i64 g3, .int .i64 g4, .int .i64 g5, .int .i64 g6, .int .i64 g7, .int .i64 g8, .int .i64 g9, .int .i64 g10, .slice g11O g11L g11C, .slice g12O g12L g12C, .slice g13O g13L g13C]] (bodyOf Tryz.f91) Tryz.f91.results.toList w R = V_impl_World_quotaOk wv g0 g1 g2 g3 g4 g5 g6 g7 g8 g9 g10 g11O g11L g11C g12O g12L g12C g13O g13L g13C w R := by kernel_rfl
theorem p_impl_World_quotaOk (wv : Option Addr) (g0 : Bool) (g1 : Int) (g2 : ByteArray) (g3 : Int) (g4 : Int) (g5 : Int) (g6 : Int) (g7 : Int) (g8 : Int) (g9 : Int) (g10 : Int) (g11O : Option Addr) (g11L : Nat) (g11C : Nat) (g12O : Option Addr) (g12L : Nat) (g12C : Nat) (g13O : Option Addr) (g13L : Nat) (g13C : Nat) {w : World} {bs : List Nat} {ret : Value} (hvc : ∀ wr0, ExtX bs w wr0 → V_impl_World_quotaOk wv g0 g1 g2 g3 g4 g5 g6 g7 g8 g9 g10 g11O g11L g11C g12O g12L g12C g13O g13L g13C wr0 fun v0 _ => v0 = ret) : PureX bs Tryz.prog fn_impl_World_quotaOk #[.pointer wv, .agg #[.bool g0, .int .i64 g1, .string g2, .int .i64 g3, .int .i64 g4, .int .i64 g5, .int .i64 g6, .int .i64 g7, .int .i64 g8, .int .i64 g9, .int .i64 g10, .slice g11O g11L g11C, .slice g12O g12L g12C, .slice g13O g13L g13C]] w ret :=
  pure_of_ev (C := c_impl_World_quotaOk) (sps := s_impl_World_quotaOk) (body := bodyOf Tryz.f91) (env _ _ _ _ _) Tryz.func91 rfl rfl (of_decide_eq_true (by kernel_rfl)) (of_decide_eq_true (by kernel_rfl)) rfl rfl fun wr0 hx0 => by rw [v_impl_World_quotaOk]; exact hvc wr0 hx0
noncomputable def c_impl_World_groupsOk : Cfg := { P := Tryz.prog, T := tblGet tbl, pf := pfT, ef := efT, tt := ttT, vis := [], n := 76, pm := true, wr := false }
noncomputable def s_impl_World_groupsOk : List (Nat × LSpec) := [(2, { chg := [(11, .int .i64)], chgL := [], keep := [0, 9, 10] })]
def V_impl_World_groupsOk (wv : Option Addr) (w : World) (R : Value → World → Prop) : Prop :=
    wv.isSome = true ∧
    (∃ (groupsO : Option Addr) (groupsL : Nat) (groupsC : Nat),
    CellsX [] w wv (0 + 3) [.slice groupsO groupsL groupsC] ∧
    (∃ (xInv : List Value → Prop) (mu : List Value → Nat), xInv [.int .i64 0] ∧
    ∀ (x : Int), xInv [.int .i64 x] →
    ((decide (x < ((groupsL : Nat) : Int))) = true →
    Ix groupsO groupsL x ∧
    (∃ (x0 : Bool) (x1 : Int) (x2 : ByteArray) (x3 : Int) (x4 : Int) (x5 : Int) (x6 : Int) (x7 : Int) (x8 : Int) (x9 : Int) (x10 : Int) (x11O : Option Addr) (x11L : Nat) (x11C : Nat) (x12O : Option Addr) (x12L : Nat) (x12C : Nat) (x13O : Option Addr) (x13L : Nat) (x13C : Nat),
    CellsX [] w groupsO (Int.toNat x * 14) [.bool x0, .int .i64 x1, .string x2, .int .i64 x3, .int .i64 x4, .int .i64 x5, .int .i64 x6, .int .i64 x7, .int .i64 x8, .int .i64 x9, .int .i64 x10, .slice x11O x11L x11C, .slice x12O x12L x12C, .slice x13O x13L x13C] ∧
    (∀ b, w.heap.size ≤ b →
    ((!x0) = true →
    (∃ (groupZ : Bool),
    PureX [] Tryz.prog fn_impl_groupZero #[.agg #[.bool x0, .int .i64 x1, .string x2, .int .i64 x3, .int .i64 x4, .int .i64 x5, .int .i64 x6, .int .i64 x7, .int .i64 x8, .int .i64 x9, .int .i64 x10, .slice x11O x11L x11C, .slice x12O x12L x12C, .slice x13O x13L x13C]] w (.bool groupZ) ∧
    ((!groupZ) = true →
    R (.bool false) w) ∧
    ((!groupZ) = false →
    InR .i64 (x + 1) ∧
    xInv [.int .i64 (x + 1)] ∧ mu [.int .i64 (x + 1)] < mu [.int .i64 x]))) ∧
    ((!x0) = false →
    (∃ (weight : Bool),
    PureX [] Tryz.prog fn_impl_weightOk #[.int .i64 x3] w (.bool weight) ∧
    (∃ (maskFu : Bool),
    ((!weight) = false → PureX [] Tryz.prog fn_impl_maskFull #[.int .i64 x4] w (.bool maskFu)) ∧
    (((!weight) || (!maskFu)) = false → (∀ b1, w.heap.size ≤ b1 →
    (∃ (timeOk : Bool),
    (((!weight) || (!maskFu)) = false → (∀ wx, ExtX [] w wx → wx.heap[b1]? = some (Obj.cells ([.int .i64 x7] : List Value).toArray ty_int (0, 0)) → PureX [] Tryz.prog fn_impl_timeOk #[.slice (some (Addr.mk b1 0 none)) 1 1] wx (.bool timeOk))) ∧
    ((((!weight) || (!maskFu)) || (!timeOk)) = false → wv.isSome = true) ∧
    (∃ (cpusO : Option Addr) (cpusL : Nat) (cpusC : Nat),
    ((((!weight) || (!maskFu)) || (!timeOk)) = false → CellsX [] w wv (0 + 1) [.slice cpusO cpusL cpusC]) ∧
    (∃ (quotaO : Bool),
    (((((!weight) || (!maskFu)) || (!timeOk)) || (((x13L : Nat) : Int) != ((cpusL : Nat) : Int))) = false → PureX [] Tryz.prog fn_impl_World_quotaOk #[.pointer wv, .agg #[.bool x0, .int .i64 x1, .string x2, .int .i64 x3, .int .i64 x4, .int .i64 x5, .int .i64 x6, .int .i64 x7, .int .i64 x8, .int .i64 x9, .int .i64 x10, .slice x11O x11L x11C, .slice x12O x12L x12C, .slice x13O x13L x13C]] w (.bool quotaO)) ∧
    ((((((!weight) || (!maskFu)) || (!timeOk)) || (((x13L : Nat) : Int) != ((cpusL : Nat) : Int))) || (!quotaO)) = true →
    R (.bool false) w) ∧
    ((((((!weight) || (!maskFu)) || (!timeOk)) || (((x13L : Nat) : Int) != ((cpusL : Nat) : Int))) || (!quotaO)) = false →
    InR .i64 (x + 1) ∧
    xInv [.int .i64 (x + 1)] ∧ mu [.int .i64 (x + 1)] < mu [.int .i64 x])))))) ∧
    ((((!weight) || (!maskFu)) = false → False) →
    (true = false → wv.isSome = true) ∧
    (∃ (cpus1O : Option Addr) (cpus1L : Nat) (cpus1C : Nat),
    (true = false → CellsX [] w wv (0 + 1) [.slice cpus1O cpus1L cpus1C]) ∧
    (∃ (quotaO1 : Bool),
    ((true || (((x13L : Nat) : Int) != ((cpus1L : Nat) : Int))) = false → PureX [] Tryz.prog fn_impl_World_quotaOk #[.pointer wv, .agg #[.bool x0, .int .i64 x1, .string x2, .int .i64 x3, .int .i64 x4, .int .i64 x5, .int .i64 x6, .int .i64 x7, .int .i64 x8, .int .i64 x9, .int .i64 x10, .slice x11O x11L x11C, .slice x12O x12L x12C, .slice x13O x13L x13C]] w (.bool quotaO1)) ∧
    (((true || (((x13L : Nat) : Int) != ((cpus1L : Nat) : Int))) || (!quotaO1)) = true →
    R (.bool false) w) ∧
    (((true || (((x13L : Nat) : Int) != ((cpus1L : Nat) : Int))) || (!quotaO1)) = false →
    InR .i64 (x + 1) ∧
    xInv [.int .i64 (x + 1)] ∧ mu [.int .i64 (x + 1)] < mu [.int .i64 x])))))))))) ∧
    ((decide (x < ((groupsL : Nat) : Int))) = false →
    wv.isSome = true ∧
    (∃ (groups1O : Option Addr) (groups1L : Nat) (groups1C : Nat),
    CellsX [] w wv (0 + 3) [.slice groups1O groups1L groups1C] ∧
    Ix groups1O groups1L 0 ∧
    (∃ (x01 : Bool) (x14 : Int) (x21 : ByteArray) (x31 : Int) (x41 : Int) (x51 : Int) (x61 : Int) (x71 : Int) (x81 : Int) (x91 : Int) (x101 : Int) (x111O : Option Addr) (x111L : Nat) (x111C : Nat) (x121O : Option Addr) (x121L : Nat) (x121C : Nat) (x131O : Option Addr) (x131L : Nat) (x131C : Nat),
    CellsX [] w groups1O (Int.toNat 0 * 14) [.bool x01, .int .i64 x14, .string x21, .int .i64 x31, .int .i64 x41, .int .i64 x51, .int .i64 x61, .int .i64 x71, .int .i64 x81, .int .i64 x91, .int .i64 x101, .slice x111O x111L x111C, .slice x121O x121L x121C, .slice x131O x131L x131C] ∧
    (∀ b2, w.heap.size ≤ b2 →
    R (.bool (((x31 == 10) && (x41 == 15)) && (x81 == 0))) w))))))
theorem v_impl_World_groupsOk (wv : Option Addr) (w : World) (R : Value → World → Prop) : evFn c_impl_World_groupsOk s_impl_World_groupsOk [.pointer wv] (bodyOf Tryz.f49) Tryz.f49.results.toList w R = V_impl_World_groupsOk wv w R := by kernel_rfl
theorem p_impl_World_groupsOk (wv : Option Addr) {w : World} {bs : List Nat} {ret : Value} (hvc : ∀ wr0, ExtX bs w wr0 → V_impl_World_groupsOk wv wr0 fun v0 _ => v0 = ret) : PureX bs Tryz.prog fn_impl_World_groupsOk #[.pointer wv] w ret :=
  pure_of_ev (C := c_impl_World_groupsOk) (sps := s_impl_World_groupsOk) (body := bodyOf Tryz.f49) (env _ _ _ _ _) Tryz.func49 rfl rfl (of_decide_eq_true (by kernel_rfl)) (of_decide_eq_true (by kernel_rfl)) rfl rfl fun wr0 hx0 => by rw [v_impl_World_groupsOk]; exact hvc wr0 hx0
noncomputable def c_impl_World_lane : Cfg := { P := Tryz.prog, T := tblGet tbl, pf := pfT, ef := efT, tt := ttT, vis := [], n := 8, pm := true, wr := false }
noncomputable def s_impl_World_lane : List (Nat × LSpec) := []
def V_impl_World_lane (wv : Option Addr) (cpu : Int) (w : World) (R : Value → World → Prop) : Prop :=
    (∀ b, w.heap.size ≤ b →
    R (.agg #[.pointer wv, .int .i64 cpu]) w)
theorem v_impl_World_lane (wv : Option Addr) (cpu : Int) (w : World) (R : Value → World → Prop) : evFn c_impl_World_lane s_impl_World_lane [.pointer wv, .int .i64 cpu] (bodyOf Tryz.f28) Tryz.f28.results.toList w R = V_impl_World_lane wv cpu w R := by kernel_rfl
theorem p_impl_World_lane (wv : Option Addr) (cpu : Int) {w : World} {bs : List Nat} {ret : Value} (hvc : ∀ wr0, ExtX bs w wr0 → V_impl_World_lane wv cpu wr0 fun v0 _ => v0 = ret) : PureX bs Tryz.prog fn_impl_World_lane #[.pointer wv, .int .i64 cpu] w ret :=
  pure_of_ev (C := c_impl_World_lane) (sps := s_impl_World_lane) (body := bodyOf Tryz.f28) (env _ _ _ _ _) Tryz.func28 rfl rfl (of_decide_eq_true (by kernel_rfl)) (of_decide_eq_true (by kernel_rfl)) rfl rfl fun wr0 hx0 => by rw [v_impl_World_lane]; exact hvc wr0 hx0
noncomputable def c_impl_niceOk : Cfg := { P := Tryz.prog, T := tblGet tbl, pf := pfT, ef := efT, tt := ttT, vis := [], n := 5, pm := true, wr := false }
noncomputable def s_impl_niceOk : List (Nat × LSpec) := []
def V_impl_niceOk (nice : Int) (w : World) (R : Value → World → Prop) : Prop :=
    (∃ (inRang : Bool),
    PureX [] Tryz.prog fn_impl_inRange #[.int .i64 nice, .int .i64 (-10), .int .i64 9] w (.bool inRang) ∧
    R (.bool inRang) w)
theorem v_impl_niceOk (nice : Int) (w : World) (R : Value → World → Prop) : evFn c_impl_niceOk s_impl_niceOk [.int .i64 nice] (bodyOf Tryz.f93) Tryz.f93.results.toList w R = V_impl_niceOk nice w R := by kernel_rfl
theorem p_impl_niceOk (nice : Int) {w : World} {bs : List Nat} {ret : Value} (hvc : ∀ wr0, ExtX bs w wr0 → V_impl_niceOk nice wr0 fun v0 _ => v0 = ret) : PureX bs Tryz.prog fn_impl_niceOk #[.int .i64 nice] w ret :=
  pure_of_ev (C := c_impl_niceOk) (sps := s_impl_niceOk) (body := bodyOf Tryz.f93) (env _ _ _ _ _) Tryz.func93 rfl rfl (of_decide_eq_true (by kernel_rfl)) (of_decide_eq_true (by kernel_rfl)) rfl rfl fun wr0 hx0 => by rw [v_impl_niceOk]; exact hvc wr0 hx0
noncomputable def c_impl_loadOk : Cfg := { P := Tryz.prog, T := tblGet tbl, pf := pfT, ef := efT, tt := ttT, vis := [], n := 5, pm := true, wr := false }
noncomputable def s_impl_loadOk : List (Nat × LSpec) := []
def V_impl_loadOk (load : Int) (w : World) (R : Value → World → Prop) : Prop :=
    (∃ (inRang : Bool),
    PureX [] Tryz.prog fn_impl_inRange #[.int .i64 load, .int .i64 0, .int .i64 8000000] w (.bool inRang) ∧
    R (.bool inRang) w)
theorem v_impl_loadOk (load : Int) (w : World) (R : Value → World → Prop) : evFn c_impl_loadOk s_impl_loadOk [.int .i64 load] (bodyOf Tryz.f94) Tryz.f94.results.toList w R = V_impl_loadOk load w R := by kernel_rfl
theorem p_impl_loadOk (load : Int) {w : World} {bs : List Nat} {ret : Value} (hvc : ∀ wr0, ExtX bs w wr0 → V_impl_loadOk load wr0 fun v0 _ => v0 = ret) : PureX bs Tryz.prog fn_impl_loadOk #[.int .i64 load] w ret :=
  pure_of_ev (C := c_impl_loadOk) (sps := s_impl_loadOk) (body := bodyOf Tryz.f94) (env _ _ _ _ _) Tryz.func94 rfl rfl (of_decide_eq_true (by kernel_rfl)) (of_decide_eq_true (by kernel_rfl)) rfl rfl fun wr0 hx0 => by rw [v_impl_loadOk]; exact hvc wr0 hx0
noncomputable def c_impl_cpuSet_has : Cfg := { P := Tryz.prog, T := tblGet tbl, pf := pfT, ef := efT, tt := ttT, vis := [], n := 18, pm := true, wr := false }
noncomputable def s_impl_cpuSet_has : List (Nat × LSpec) := []
def V_impl_cpuSet_has (m : Int) (cpu : Int) (w : World) (R : Value → World → Prop) : Prop :=
    (∃ (ok : Bool),
    PureX [] Tryz.prog fn_impl_cpuSet_ok #[.int .i64 m] w (.bool ok) ∧
    (∃ (inRang : Bool),
    (ok = true → PureX [] Tryz.prog fn_impl_inRange #[.int .i64 cpu, .int .i64 0, .int .i64 3] w (.bool inRang)) ∧
    ((ok && inRang) = true → 0 ≤ cpu) ∧
    R (.bool ((ok && inRang) && ((BitI .and .i64 (Int.fdiv m (2 ^ (min (Int.toNat cpu) 64))) 1) == 1))) w))
theorem v_impl_cpuSet_has (m : Int) (cpu : Int) (w : World) (R : Value → World → Prop) : evFn c_impl_cpuSet_has s_impl_cpuSet_has [.int .i64 m, .int .i64 cpu] (bodyOf Tryz.f107) Tryz.f107.results.toList w R = V_impl_cpuSet_has m cpu w R := by kernel_rfl
theorem p_impl_cpuSet_has (m : Int) (cpu : Int) {w : World} {bs : List Nat} {ret : Value} (hvc : ∀ wr0, ExtX bs w wr0 → V_impl_cpuSet_has m cpu wr0 fun v0 _ => v0 = ret) : PureX bs Tryz.prog fn_impl_cpuSet_has #[.int .i64 m, .int .i64 cpu] w ret :=
  pure_of_ev (C := c_impl_cpuSet_has) (sps := s_impl_cpuSet_has) (body := bodyOf Tryz.f107) (env _ _ _ _ _) Tryz.func107 rfl rfl (of_decide_eq_true (by kernel_rfl)) (of_decide_eq_true (by kernel_rfl)) rfl rfl fun wr0 hx0 => by rw [v_impl_cpuSet_has]; exact hvc wr0 hx0
noncomputable def c_impl_MaskHas : Cfg := { P := Tryz.prog, T := tblGet tbl, pf := pfT, ef := efT, tt := ttT, vis := [], n := 8, pm := true, wr := false }
noncomputable def s_impl_MaskHas : List (Nat × LSpec) := []
def V_impl_MaskHas (m : Int) (cpu : Int) (w : World) (R : Value → World → Prop) : Prop :=
    (∃ (has : Bool),
    PureX [] Tryz.prog fn_impl_cpuSet_has #[.int .i64 m, .int .i64 cpu] w (.bool has) ∧
    R (.bool has) w)
theorem v_impl_MaskHas (m : Int) (cpu : Int) (w : World) (R : Value → World → Prop) : evFn c_impl_MaskHas s_impl_MaskHas [.int .i64 m, .int .i64 cpu] (bodyOf Tryz.f95) Tryz.f95.results.toList w R = V_impl_MaskHas m cpu w R := by kernel_rfl
theorem p_impl_MaskHas (m : Int) (cpu : Int) {w : World} {bs : List Nat} {ret : Value} (hvc : ∀ wr0, ExtX bs w wr0 → V_impl_MaskHas m cpu wr0 fun v0 _ => v0 = ret) : PureX bs Tryz.prog fn_impl_MaskHas #[.int .i64 m, .int .i64 cpu] w ret :=
  pure_of_ev (C := c_impl_MaskHas) (sps := s_impl_MaskHas) (body := bodyOf Tryz.f95) (env _ _ _ _ _) Tryz.func95 rfl rfl (of_decide_eq_true (by kernel_rfl)) (of_decide_eq_true (by kernel_rfl)) rfl rfl fun wr0 hx0 => by rw [v_impl_MaskHas]; exact hvc wr0 hx0
noncomputable def c_impl_MaskAnd : Cfg := { P := Tryz.prog, T := tblGet tbl, pf := pfT, ef := efT, tt := ttT, vis := [], n := 16, pm := true, wr := false }
noncomputable def s_impl_MaskAnd : List (Nat × LSpec) := []
def V_impl_MaskAnd (a : Int) (b : Int) (w : World) (R : Value → World → Prop) : Prop :=
    (∃ (xMaskOk : Bool),
    PureX [] Tryz.prog fn_impl_MaskOk #[.int .i64 a] w (.bool xMaskOk) ∧
    (∃ (xMaskOk1 : Bool),
    ((!xMaskOk) = false → PureX [] Tryz.prog fn_impl_MaskOk #[.int .i64 b] w (.bool xMaskOk1)) ∧
    (((!xMaskOk) || (!xMaskOk1)) = true →
    R (.int .i64 0) w) ∧
    (((!xMaskOk) || (!xMaskOk1)) = false →
    R (.int .i64 (BitI .and .i64 a b)) w)))
theorem v_impl_MaskAnd (a : Int) (b : Int) (w : World) (R : Value → World → Prop) : evFn c_impl_MaskAnd s_impl_MaskAnd [.int .i64 a, .int .i64 b] (bodyOf Tryz.f139) Tryz.f139.results.toList w R = V_impl_MaskAnd a b w R := by kernel_rfl
theorem p_impl_MaskAnd (a : Int) (b : Int) {w : World} {bs : List Nat} {ret : Value} (hvc : ∀ wr0, ExtX bs w wr0 → V_impl_MaskAnd a b wr0 fun v0 _ => v0 = ret) : PureX bs Tryz.prog fn_impl_MaskAnd #[.int .i64 a, .int .i64 b] w ret :=
  pure_of_ev (C := c_impl_MaskAnd) (sps := s_impl_MaskAnd) (body := bodyOf Tryz.f139) (env _ _ _ _ _) Tryz.func139 rfl rfl (of_decide_eq_true (by kernel_rfl)) (of_decide_eq_true (by kernel_rfl)) rfl rfl fun wr0 hx0 => by rw [v_impl_MaskAnd]; exact hvc wr0 hx0
noncomputable def c_impl_World_pins : Cfg := { P := Tryz.prog, T := tblGet tbl, pf := pfT, ef := efT, tt := ttT, vis := [], n := 37, pm := true, wr := false }
noncomputable def s_impl_World_pins : List (Nat × LSpec) := [(2, { chg := [(1, .int .i64), (5, .int .i64)], chgL := [], keep := [0] })]
def V_impl_World_pins (wv : Option Addr) (g : Int) (w : World) (R : Value → World → Prop) : Prop :=
    (∃ (online : Int),
    PureX [] Tryz.prog fn_impl_World_online #[.pointer wv] w (.int .i64 online) ∧
    (∃ (xInv : List Value → Prop) (mu : List Value → Nat), xInv [.int .i64 g, .int .i64 online] ∧
    ∀ (g1 : Int) (set : Int), xInv [.int .i64 g1, .int .i64 set] →
    ((g1 != 0) = true →
    wv.isSome = true ∧
    (∃ (groupsO : Option Addr) (groupsL : Nat) (groupsC : Nat),
    CellsX [] w wv (0 + 3) [.slice groupsO groupsL groupsC] ∧
    Ix groupsO groupsL g1 ∧
    (∃ (cpus : Int),
    CellsX [] w groupsO (Int.toNat g1 * 14 + 4) [.int .i64 cpus] ∧
    (∃ (xMaskAn : Int),
    PureX [] Tryz.prog fn_impl_MaskAnd #[.int .i64 set, .int .i64 cpus] w (.int .i64 xMaskAn) ∧
    wv.isSome = true ∧
    (∃ (groups1O : Option Addr) (groups1L : Nat) (groups1C : Nat),
    CellsX [] w wv (0 + 3) [.slice groups1O groups1L groups1C] ∧
    Ix groups1O groups1L g1 ∧
    (∃ (parent : Int),
    CellsX [] w groups1O (Int.toNat g1 * 14 + 1) [.int .i64 parent] ∧
    xInv [.int .i64 parent, .int .i64 xMaskAn] ∧ mu [.int .i64 parent, .int .i64 xMaskAn] < mu [.int .i64 g1, .int .i64 set])))))) ∧
    ((g1 != 0) = false →
    wv.isSome = true ∧
    (∃ (groups2O : Option Addr) (groups2L : Nat) (groups2C : Nat),
    CellsX [] w wv (0 + 3) [.slice groups2O groups2L groups2C] ∧
    Ix groups2O groups2L 0 ∧
    (∃ (cpus1 : Int),
    CellsX [] w groups2O (Int.toNat 0 * 14 + 4) [.int .i64 cpus1] ∧
    (∃ (xMaskAn1 : Int),
    PureX [] Tryz.prog fn_impl_MaskAnd #[.int .i64 set, .int .i64 cpus1] w (.int .i64 xMaskAn1) ∧
    R (.int .i64 xMaskAn1) w))))))
theorem v_impl_World_pins (wv : Option Addr) (g : Int) (w : World) (R : Value → World → Prop) : evFn c_impl_World_pins s_impl_World_pins [.pointer wv, .int .i64 g] (bodyOf Tryz.f138) Tryz.f138.results.toList w R = V_impl_World_pins wv g w R := by kernel_rfl
theorem p_impl_World_pins (wv : Option Addr) (g : Int) {w : World} {bs : List Nat} {ret : Value} (hvc : ∀ wr0, ExtX bs w wr0 → V_impl_World_pins wv g wr0 fun v0 _ => v0 = ret) : PureX bs Tryz.prog fn_impl_World_pins #[.pointer wv, .int .i64 g] w ret :=
  pure_of_ev (C := c_impl_World_pins) (sps := s_impl_World_pins) (body := bodyOf Tryz.f138) (env _ _ _ _ _) Tryz.func138 rfl rfl (of_decide_eq_true (by kernel_rfl)) (of_decide_eq_true (by kernel_rfl)) rfl rfl fun wr0 hx0 => by rw [v_impl_World_pins]; exact hvc wr0 hx0
noncomputable def c_impl_World_allowedIn : Cfg := { P := Tryz.prog, T := tblGet tbl, pf := pfT, ef := efT, tt := ttT, vis := [], n := 23, pm := true, wr := false }
noncomputable def s_impl_World_allowedIn : List (Nat × LSpec) := []
def V_impl_World_allowedIn (wv : Option Addr) (mask : Int) (g : Int) (w : World) (R : Value → World → Prop) : Prop :=
    (∃ (pins : Int),
    PureX [] Tryz.prog fn_impl_World_pins #[.pointer wv, .int .i64 g] w (.int .i64 pins) ∧
    (∃ (xMaskAn : Int),
    PureX [] Tryz.prog fn_impl_MaskAnd #[.int .i64 mask, .int .i64 pins] w (.int .i64 xMaskAn) ∧
    ((xMaskAn != 0) = true →
    R (.int .i64 xMaskAn) w) ∧
    ((xMaskAn != 0) = false →
    ((pins != 0) = true →
    R (.int .i64 pins) w) ∧
    ((pins != 0) = false →
    (∃ (online : Int),
    PureX [] Tryz.prog fn_impl_World_online #[.pointer wv] w (.int .i64 online) ∧
    R (.int .i64 online) w)))))
theorem v_impl_World_allowedIn (wv : Option Addr) (mask : Int) (g : Int) (w : World) (R : Value → World → Prop) : evFn c_impl_World_allowedIn s_impl_World_allowedIn [.pointer wv, .int .i64 mask, .int .i64 g] (bodyOf Tryz.f127) Tryz.f127.results.toList w R = V_impl_World_allowedIn wv mask g w R := by kernel_rfl
theorem p_impl_World_allowedIn (wv : Option Addr) (mask : Int) (g : Int) {w : World} {bs : List Nat} {ret : Value} (hvc : ∀ wr0, ExtX bs w wr0 → V_impl_World_allowedIn wv mask g wr0 fun v0 _ => v0 = ret) : PureX bs Tryz.prog fn_impl_World_allowedIn #[.pointer wv, .int .i64 mask, .int .i64 g] w ret :=
  pure_of_ev (C := c_impl_World_allowedIn) (sps := s_impl_World_allowedIn) (body := bodyOf Tryz.f127) (env _ _ _ _ _) Tryz.func127 rfl rfl (of_decide_eq_true (by kernel_rfl)) (of_decide_eq_true (by kernel_rfl)) rfl rfl fun wr0 hx0 => by rw [v_impl_World_allowedIn]; exact hvc wr0 hx0
noncomputable def c_impl_World_allowed : Cfg := { P := Tryz.prog, T := tblGet tbl, pf := pfT, ef := efT, tt := ttT, vis := [], n := 23, pm := true, wr := false }
noncomputable def s_impl_World_allowed : List (Nat × LSpec) := []
def V_impl_World_allowed (wv : Option Addr) (task : Int) (w : World) (R : Value → World → Prop) : Prop :=
    wv.isSome = true ∧
    (∃ (tasksO : Option Addr) (tasksL : Nat) (tasksC : Nat),
    CellsX [] w wv (0 + 2) [.slice tasksO tasksL tasksC] ∧
    Ix tasksO tasksL task ∧
    (∃ (mask : Int),
    CellsX [] w tasksO (Int.toNat task * 9 + 4) [.int .i64 mask] ∧
    wv.isSome = true ∧
    (∃ (tasks1O : Option Addr) (tasks1L : Nat) (tasks1C : Nat),
    CellsX [] w wv (0 + 2) [.slice tasks1O tasks1L tasks1C] ∧
    Ix tasks1O tasks1L task ∧
    (∃ (group : Int),
    CellsX [] w tasks1O (Int.toNat task * 9 + 1) [.int .i64 group] ∧
    (∃ (allowe : Int),
    PureX [] Tryz.prog fn_impl_World_allowedIn #[.pointer wv, .int .i64 mask, .int .i64 group] w (.int .i64 allowe) ∧
    R (.int .i64 allowe) w)))))
theorem v_impl_World_allowed (wv : Option Addr) (task : Int) (w : World) (R : Value → World → Prop) : evFn c_impl_World_allowed s_impl_World_allowed [.pointer wv, .int .i64 task] (bodyOf Tryz.f96) Tryz.f96.results.toList w R = V_impl_World_allowed wv task w R := by kernel_rfl
theorem p_impl_World_allowed (wv : Option Addr) (task : Int) {w : World} {bs : List Nat} {ret : Value} (hvc : ∀ wr0, ExtX bs w wr0 → V_impl_World_allowed wv task wr0 fun v0 _ => v0 = ret) : PureX bs Tryz.prog fn_impl_World_allowed #[.pointer wv, .int .i64 task] w ret :=
  pure_of_ev (C := c_impl_World_allowed) (sps := s_impl_World_allowed) (body := bodyOf Tryz.f96) (env _ _ _ _ _) Tryz.func96 rfl rfl (of_decide_eq_true (by kernel_rfl)) (of_decide_eq_true (by kernel_rfl)) rfl rfl fun wr0 hx0 => by rw [v_impl_World_allowed]; exact hvc wr0 hx0
noncomputable def c_impl_lane_shelf : Cfg := { P := Tryz.prog, T := tblGet tbl, pf := pfT, ef := efT, tt := ttT, vis := [], n := 17, pm := true, wr := false }
noncomputable def s_impl_lane_shelf : List (Nat × LSpec) := []
def V_impl_lane_shelf (p0 : Option Addr) (p1 : Int) (g : Int) (w : World) (R : Value → World → Prop) : Prop :=
    (∀ b, w.heap.size ≤ b →
    p0.isSome = true ∧
    (∃ (groupsO : Option Addr) (groupsL : Nat) (groupsC : Nat),
    CellsX [] w p0 (0 + 3) [.slice groupsO groupsL groupsC] ∧
    Ix groupsO groupsL g ∧
    (∃ (shelvesO : Option Addr) (shelvesL : Nat) (shelvesC : Nat),
    CellsX [] w groupsO (Int.toNat g * 14 + 13) [.slice shelvesO shelvesL shelvesC] ∧
    Ix shelvesO shelvesL p1 ∧
    R (.pointer (shelvesO.map (·.add (Int.toNat p1 * 5)))) w)))
theorem v_impl_lane_shelf (p0 : Option Addr) (p1 : Int) (g : Int) (w : World) (R : Value → World → Prop) : evFn c_impl_lane_shelf s_impl_lane_shelf [.agg #[.pointer p0, .int .i64 p1], .int .i64 g] (bodyOf Tryz.f97) Tryz.f97.results.toList w R = V_impl_lane_shelf p0 p1 g w R := by kernel_rfl
theorem p_impl_lane_shelf (p0 : Option Addr) (p1 : Int) (g : Int) {w : World} {bs : List Nat} {ret : Value} (hvc : ∀ wr0, ExtX bs w wr0 → V_impl_lane_shelf p0 p1 g wr0 fun v0 _ => v0 = ret) : PureX bs Tryz.prog fn_impl_lane_shelf #[.agg #[.pointer p0, .int .i64 p1], .int .i64 g] w ret :=
  pure_of_ev (C := c_impl_lane_shelf) (sps := s_impl_lane_shelf) (body := bodyOf Tryz.f97) (env _ _ _ _ _) Tryz.func97 rfl rfl (of_decide_eq_true (by kernel_rfl)) (of_decide_eq_true (by kernel_rfl)) rfl rfl fun wr0 hx0 => by rw [v_impl_lane_shelf]; exact hvc wr0 hx0
noncomputable def c_impl_weightSteps : Cfg := { P := Tryz.prog, T := tblGet tbl, pf := pfT, ef := efT, tt := ttT, vis := [], n := 12, pm := true, wr := false }
noncomputable def s_impl_weightSteps : List (Nat × LSpec) := [(3, { chg := [(2, .int .i64)], chgL := [(1, [.int .i64, .int .i64, .int .i64, .int .i64, .int .i64, .int .i64, .int .i64, .int .i64, .int .i64, .int .i64, .int .i64, .int .i64, .int .i64, .int .i64, .int .i64, .int .i64, .int .i64, .int .i64, .int .i64, .int .i64, .int .i64])], keep := [0, 1] })]
def V_impl_weightSteps (w : World) (R : Value → World → Prop) : Prop :=
    (∀ b, w.heap.size ≤ b →
    (∀ b1, w.heap.size ≤ b1 →
    (∃ (xInv1 : List Value → Prop) (mu1 : List Value → Nat), xInv1 [.int .i64 1, .int .i64 0, .int .i64 0, .int .i64 0, .int .i64 0, .int .i64 0, .int .i64 0, .int .i64 0, .int .i64 0, .int .i64 0, .int .i64 0, .int .i64 0, .int .i64 0, .int .i64 0, .int .i64 0, .int .i64 0, .int .i64 0, .int .i64 0, .int .i64 0, .int .i64 0, .int .i64 0, .int .i64 0] ∧
    ∀ (weight1 : Int) (l : Int) (l1 : Int) (l2 : Int) (l3 : Int) (l4 : Int) (l5 : Int) (l6 : Int) (l7 : Int) (l8 : Int) (l9 : Int) (l10 : Int) (l11 : Int) (l12 : Int) (l13 : Int) (l14 : Int) (l15 : Int) (l16 : Int) (l17 : Int) (l18 : Int) (l19 : Int) (l20 : Int), xInv1 [.int .i64 weight1, .int .i64 l, .int .i64 l1, .int .i64 l2, .int .i64 l3, .int .i64 l4, .int .i64 l5, .int .i64 l6, .int .i64 l7, .int .i64 l8, .int .i64 l9, .int .i64 l10, .int .i64 l11, .int .i64 l12, .int .i64 l13, .int .i64 l14, .int .i64 l15, .int .i64 l16, .int .i64 l17, .int .i64 l18, .int .i64 l19, .int .i64 l20] →
    ((decide (weight1 ≤ 20)) = true →
    (weight1 ≠ 0 ∧ InR .i64 (Int.tdiv 232792560 weight1)) ∧
    (0 ≤ weight1 ∧ weight1 < ((21 : Nat) : Int)) ∧
    (Int.toNat weight1 + 0 < 21) ∧
    (∃ (l21 : Int) (l22 : Int) (l23 : Int) (l24 : Int) (l25 : Int) (l26 : Int) (l27 : Int) (l28 : Int) (l29 : Int) (l30 : Int) (l31 : Int) (l32 : Int) (l33 : Int) (l34 : Int) (l35 : Int) (l36 : Int) (l37 : Int) (l38 : Int) (l39 : Int) (l40 : Int) (l41 : Int),
    ([.int .i64 l, .int .i64 l1, .int .i64 l2, .int .i64 l3, .int .i64 l4, .int .i64 l5, .int .i64 l6, .int .i64 l7, .int .i64 l8, .int .i64 l9, .int .i64 l10, .int .i64 l11, .int .i64 l12, .int .i64 l13, .int .i64 l14, .int .i64 l15, .int .i64 l16, .int .i64 l17, .int .i64 l18, .int .i64 l19, .int .i64 l20] : List Value).set (Int.toNat weight1 + 0) (.int .i64 (Int.tdiv 232792560 weight1)) = [.int .i64 l21, .int .i64 l22, .int .i64 l23, .int .i64 l24, .int .i64 l25, .int .i64 l26, .int .i64 l27, .int .i64 l28, .int .i64 l29, .int .i64 l30, .int .i64 l31, .int .i64 l32, .int .i64 l33, .int .i64 l34, .int .i64 l35, .int .i64 l36, .int .i64 l37, .int .i64 l38, .int .i64 l39, .int .i64 l40, .int .i64 l41] ∧
    InR .i64 (weight1 + 1) ∧
    xInv1 [.int .i64 (weight1 + 1), .int .i64 l21, .int .i64 l22, .int .i64 l23, .int .i64 l24, .int .i64 l25, .int .i64 l26, .int .i64 l27, .int .i64 l28, .int .i64 l29, .int .i64 l30, .int .i64 l31, .int .i64 l32, .int .i64 l33, .int .i64 l34, .int .i64 l35, .int .i64 l36, .int .i64 l37, .int .i64 l38, .int .i64 l39, .int .i64 l40, .int .i64 l41] ∧ mu1 [.int .i64 (weight1 + 1), .int .i64 l21, .int .i64 l22, .int .i64 l23, .int .i64 l24, .int .i64 l25, .int .i64 l26, .int .i64 l27, .int .i64 l28, .int .i64 l29, .int .i64 l30, .int .i64 l31, .int .i64 l32, .int .i64 l33, .int .i64 l34, .int .i64 l35, .int .i64 l36, .int .i64 l37, .int .i64 l38, .int .i64 l39, .int .i64 l40, .int .i64 l41] < mu1 [.int .i64 weight1, .int .i64 l, .int .i64 l1, .int .i64 l2, .int .i64 l3, .int .i64 l4, .int .i64 l5, .int .i64 l6, .int .i64 l7, .int .i64 l8, .int .i64 l9, .int .i64 l10, .int .i64 l11, .int .i64 l12, .int .i64 l13, .int .i64 l14, .int .i64 l15, .int .i64 l16, .int .i64 l17, .int .i64 l18, .int .i64 l19, .int .i64 l20])) ∧
    ((decide (weight1 ≤ 20)) = false →
    R (.agg #[.int .i64 l, .int .i64 l1, .int .i64 l2, .int .i64 l3, .int .i64 l4, .int .i64 l5, .int .i64 l6, .int .i64 l7, .int .i64 l8, .int .i64 l9, .int .i64 l10, .int .i64 l11, .int .i64 l12, .int .i64 l13, .int .i64 l14, .int .i64 l15, .int .i64 l16, .int .i64 l17, .int .i64 l18, .int .i64 l19, .int .i64 l20]) w))))
theorem v_impl_weightSteps (w : World) (R : Value → World → Prop) : evFn c_impl_weightSteps s_impl_weightSteps [] (bodyOf Tryz.f131) Tryz.f131.results.toList w R = V_impl_weightSteps w R := by kernel_rfl
theorem p_impl_weightSteps {w : World} {bs : List Nat} {ret : Value} (hvc : ∀ wr0, ExtX bs w wr0 → V_impl_weightSteps wr0 fun v0 _ => v0 = ret) : PureX bs Tryz.prog fn_impl_weightSteps #[] w ret :=
  pure_of_ev (C := c_impl_weightSteps) (sps := s_impl_weightSteps) (body := bodyOf Tryz.f131) (env _ _ _ _ _) Tryz.func131 rfl rfl (of_decide_eq_true (by kernel_rfl)) (of_decide_eq_true (by kernel_rfl)) rfl rfl fun wr0 hx0 => by rw [v_impl_weightSteps]; exact hvc wr0 hx0
noncomputable def c_impl_VirtualStep : Cfg := { P := Tryz.prog, T := tblGet tbl, pf := pfT, ef := efT, tt := ttT, vis := [], n := 18, pm := true, wr := false }
noncomputable def s_impl_VirtualStep : List (Nat × LSpec) := []
def V_impl_VirtualStep (units : Int) (weight : Int) (w : World) (R : Value → World → Prop) : Prop :=
    (∃ (inRang : Bool),
    PureX [] Tryz.prog fn_impl_inRange #[.int .i64 units, .int .i64 0, .int .i64 100000000] w (.bool inRang) ∧
    (∃ (weight1 : Bool),
    ((!inRang) = false → PureX [] Tryz.prog fn_impl_weightOk #[.int .i64 weight] w (.bool weight1)) ∧
    (((!inRang) || (!weight1)) = true →
    R (.int .i64 0) w) ∧
    (((!inRang) || (!weight1)) = false →
    (∃ (weight2 : Int) (weight3 : Int) (weight4 : Int) (weight5 : Int) (weight6 : Int) (weight7 : Int) (weight8 : Int) (weight9 : Int) (weight10 : Int) (weight11 : Int) (weight12 : Int) (weight13 : Int) (weight14 : Int) (weight15 : Int) (weight16 : Int) (weight17 : Int) (weight18 : Int) (weight19 : Int) (weight20 : Int) (weight21 : Int) (weight22 : Int),
    PureX [] Tryz.prog fn_impl_weightSteps #[] w (.agg #[.int .i64 weight2, .int .i64 weight3, .int .i64 weight4, .int .i64 weight5, .int .i64 weight6, .int .i64 weight7, .int .i64 weight8, .int .i64 weight9, .int .i64 weight10, .int .i64 weight11, .int .i64 weight12, .int .i64 weight13, .int .i64 weight14, .int .i64 weight15, .int .i64 weight16, .int .i64 weight17, .int .i64 weight18, .int .i64 weight19, .int .i64 weight20, .int .i64 weight21, .int .i64 weight22]) ∧
    (∃ (x : Int),
    (0 ≤ weight ∧ weight < ((21 : Nat) : Int) ∧ (#[.int .i64 weight2, .int .i64 weight3, .int .i64 weight4, .int .i64 weight5, .int .i64 weight6, .int .i64 weight7, .int .i64 weight8, .int .i64 weight9, .int .i64 weight10, .int .i64 weight11, .int .i64 weight12, .int .i64 weight13, .int .i64 weight14, .int .i64 weight15, .int .i64 weight16, .int .i64 weight17, .int .i64 weight18, .int .i64 weight19, .int .i64 weight20, .int .i64 weight21, .int .i64 weight22] : Array Value)[Int.toNat weight]? = some (.int .i64 x)) ∧
    InR .i64 (units * x) ∧
    R (.int .i64 (units * x)) w)))))
theorem v_impl_VirtualStep (units : Int) (weight : Int) (w : World) (R : Value → World → Prop) : evFn c_impl_VirtualStep s_impl_VirtualStep [.int .i64 units, .int .i64 weight] (bodyOf Tryz.f104) Tryz.f104.results.toList w R = V_impl_VirtualStep units weight w R := by kernel_rfl
theorem p_impl_VirtualStep (units : Int) (weight : Int) {w : World} {bs : List Nat} {ret : Value} (hvc : ∀ wr0, ExtX bs w wr0 → V_impl_VirtualStep units weight wr0 fun v0 _ => v0 = ret) : PureX bs Tryz.prog fn_impl_VirtualStep #[.int .i64 units, .int .i64 weight] w ret :=
  pure_of_ev (C := c_impl_VirtualStep) (sps := s_impl_VirtualStep) (body := bodyOf Tryz.f104) (env _ _ _ _ _) Tryz.func104 rfl rfl (of_decide_eq_true (by kernel_rfl)) (of_decide_eq_true (by kernel_rfl)) rfl rfl fun wr0 hx0 => by rw [v_impl_VirtualStep]; exact hvc wr0 hx0
noncomputable def c_impl_LagMost : Cfg := { P := Tryz.prog, T := tblGet tbl, pf := pfT, ef := efT, tt := ttT, vis := [], n := 5, pm := true, wr := false }
noncomputable def s_impl_LagMost : List (Nat × LSpec) := []
def V_impl_LagMost (weight : Int) (w : World) (R : Value → World → Prop) : Prop :=
    (∃ (xVirtua : Int),
    PureX [] Tryz.prog fn_impl_VirtualStep #[.int .i64 149, .int .i64 weight] w (.int .i64 xVirtua) ∧
    R (.int .i64 xVirtua) w)
theorem v_impl_LagMost (weight : Int) (w : World) (R : Value → World → Prop) : evFn c_impl_LagMost s_impl_LagMost [.int .i64 weight] (bodyOf Tryz.f128) Tryz.f128.results.toList w R = V_impl_LagMost weight w R := by kernel_rfl
theorem p_impl_LagMost (weight : Int) {w : World} {bs : List Nat} {ret : Value} (hvc : ∀ wr0, ExtX bs w wr0 → V_impl_LagMost weight wr0 fun v0 _ => v0 = ret) : PureX bs Tryz.prog fn_impl_LagMost #[.int .i64 weight] w ret :=
  pure_of_ev (C := c_impl_LagMost) (sps := s_impl_LagMost) (body := bodyOf Tryz.f128) (env _ _ _ _ _) Tryz.func128 rfl rfl (of_decide_eq_true (by kernel_rfl)) (of_decide_eq_true (by kernel_rfl)) rfl rfl fun wr0 hx0 => by rw [v_impl_LagMost]; exact hvc wr0 hx0
noncomputable def c_impl_placed : Cfg := { P := Tryz.prog, T := tblGet tbl, pf := pfT, ef := efT, tt := ttT, vis := [], n := 18, pm := true, wr := false }
noncomputable def s_impl_placed : List (Nat × LSpec) := []
def V_impl_placed (v : Int) (floor : Int) (weight : Int) (w : World) (R : Value → World → Prop) : Prop :=
    ((decide (v ≥ floor)) = true → InR .i64 (v - floor)) ∧
    (∃ (xLagMos : Int),
    ((decide (v ≥ floor)) = true → PureX [] Tryz.prog fn_impl_LagMost #[.int .i64 weight] w (.int .i64 xLagMos)) ∧
    R (.bool ((decide (v ≥ floor)) && (decide (v - floor ≤ xLagMos)))) w)
theorem v_impl_placed (v : Int) (floor : Int) (weight : Int) (w : World) (R : Value → World → Prop) : evFn c_impl_placed s_impl_placed [.int .i64 v, .int .i64 floor, .int .i64 weight] (bodyOf Tryz.f98) Tryz.f98.results.toList w R = V_impl_placed v floor weight w R := by kernel_rfl
theorem p_impl_placed (v : Int) (floor : Int) (weight : Int) {w : World} {bs : List Nat} {ret : Value} (hvc : ∀ wr0, ExtX bs w wr0 → V_impl_placed v floor weight wr0 fun v0 _ => v0 = ret) : PureX bs Tryz.prog fn_impl_placed #[.int .i64 v, .int .i64 floor, .int .i64 weight] w ret :=
  pure_of_ev (C := c_impl_placed) (sps := s_impl_placed) (body := bodyOf Tryz.f98) (env _ _ _ _ _) Tryz.func98 rfl rfl (of_decide_eq_true (by kernel_rfl)) (of_decide_eq_true (by kernel_rfl)) rfl rfl fun wr0 hx0 => by rw [v_impl_placed]; exact hvc wr0 hx0
noncomputable def c_impl_WeightOf : Cfg := { P := Tryz.prog, T := tblGet tbl, pf := pfT, ef := efT, tt := ttT, vis := [], n := 8, pm := true, wr := false }
noncomputable def s_impl_WeightOf : List (Nat × LSpec) := []
def V_impl_WeightOf (nice : Int) (w : World) (R : Value → World → Prop) : Prop :=
    (∃ (niceOk : Bool),
    PureX [] Tryz.prog fn_impl_niceOk #[.int .i64 nice] w (.bool niceOk) ∧
    ((!niceOk) = true →
    R (.int .i64 0) w) ∧
    ((!niceOk) = false →
    InR .i64 (10 - nice) ∧
    R (.int .i64 (10 - nice)) w))
theorem v_impl_WeightOf (nice : Int) (w : World) (R : Value → World → Prop) : evFn c_impl_WeightOf s_impl_WeightOf [.int .i64 nice] (bodyOf Tryz.f99) Tryz.f99.results.toList w R = V_impl_WeightOf nice w R := by kernel_rfl
theorem p_impl_WeightOf (nice : Int) {w : World} {bs : List Nat} {ret : Value} (hvc : ∀ wr0, ExtX bs w wr0 → V_impl_WeightOf nice wr0 fun v0 _ => v0 = ret) : PureX bs Tryz.prog fn_impl_WeightOf #[.int .i64 nice] w ret :=
  pure_of_ev (C := c_impl_WeightOf) (sps := s_impl_WeightOf) (body := bodyOf Tryz.f99) (env _ _ _ _ _) Tryz.func99 rfl rfl (of_decide_eq_true (by kernel_rfl)) (of_decide_eq_true (by kernel_rfl)) rfl rfl fun wr0 hx0 => by rw [v_impl_WeightOf]; exact hvc wr0 hx0
noncomputable def c_impl_World_tasksOk : Cfg := { P := Tryz.prog, T := tblGet tbl, pf := pfT, ef := efT, tt := ttT, vis := [], n := 103, pm := true, wr := false }
noncomputable def s_impl_World_tasksOk : List (Nat × LSpec) := [(2, { chg := [(11, .int .i64)], chgL := [], keep := [0, 9, 10] })]
def V_impl_World_tasksOk (wv : Option Addr) (w : World) (R : Value → World → Prop) : Prop :=
    wv.isSome = true ∧
    (∃ (tasksO : Option Addr) (tasksL : Nat) (tasksC : Nat),
    CellsX [] w wv (0 + 2) [.slice tasksO tasksL tasksC] ∧
    (∃ (xInv : List Value → Prop) (mu : List Value → Nat), xInv [.int .i64 0] ∧
    ∀ (x : Int), xInv [.int .i64 x] →
    ((decide (x < ((tasksL : Nat) : Int))) = true →
    Ix tasksO tasksL x ∧
    (∃ (x0 : Int) (x1 : Int) (x2 : Int) (x3 : Int) (x4 : Int) (x5 : Int) (x6 : Int) (x7 : Int) (x8 : Int),
    CellsX [] w tasksO (Int.toNat x * 9) [.int .i64 x0, .int .i64 x1, .int .i64 x2, .int .i64 x3, .int .i64 x4, .int .i64 x5, .int .i64 x6, .int .i64 x7, .int .i64 x8] ∧
    (∀ b, w.heap.size ≤ b →
    (∃ (eq : Bool),
    (∀ wq, ((do eqGuard .eql ty_impl_Task (.tmp 16) (.tmp 17) (.agg #[.int .i64 x0, .int .i64 x1, .int .i64 x2, .int .i64 x3, .int .i64 x4, .int .i64 x5, .int .i64 x6, .int .i64 x7, .int .i64 x8]) (.agg #[.int .i64 0, .int .i64 0, .int .i64 0, .int .i64 0, .int .i64 0, .int .i64 0, .int .i64 0, .int .i64 0, .int .i64 0]); binOp .eql ty_impl_Task (.agg #[.int .i64 x0, .int .i64 x1, .int .i64 x2, .int .i64 x3, .int .i64 x4, .int .i64 x5, .int .i64 x6, .int .i64 x7, .int .i64 x8]) (.agg #[.int .i64 0, .int .i64 0, .int .i64 0, .int .i64 0, .int .i64 0, .int .i64 0, .int .i64 0, .int .i64 0, .int .i64 0])) : Sem Value).run Tryz.prog wq = .ok (.bool eq) wq) ∧
    (eq = true →
    InR .i64 (x + 1) ∧
    xInv [.int .i64 (x + 1)] ∧ mu [.int .i64 (x + 1)] < mu [.int .i64 x]) ∧
    (eq = false →
    (((x0 != 1) && (x0 != 2)) = false → wv.isSome = true) ∧
    (∃ (groupsO : Option Addr) (groupsL : Nat) (groupsC : Nat),
    (((x0 != 1) && (x0 != 2)) = false → CellsX [] w wv (0 + 3) [.slice groupsO groupsL groupsC]) ∧
    (∃ (groupU : Bool),
    (((x0 != 1) && (x0 != 2)) = false → PureX [] Tryz.prog fn_impl_groupUsed #[.slice groupsO groupsL groupsC, .int .i64 x1] w (.bool groupU)) ∧
    (∃ (niceOk : Bool),
    ((((x0 != 1) && (x0 != 2)) || (!groupU)) = false → PureX [] Tryz.prog fn_impl_niceOk #[.int .i64 x3] w (.bool niceOk)) ∧
    (∃ (maskFu : Bool),
    (((((x0 != 1) && (x0 != 2)) || (!groupU)) || (!niceOk)) = false → PureX [] Tryz.prog fn_impl_maskFull #[.int .i64 x4] w (.bool maskFu)) ∧
    ((((((x0 != 1) && (x0 != 2)) || (!groupU)) || (!niceOk)) || (!maskFu)) = true →
    R (.bool false) w) ∧
    ((((((x0 != 1) && (x0 != 2)) || (!groupU)) || (!niceOk)) || (!maskFu)) = false →
    (∀ b1, w.heap.size ≤ b1 →
    (∃ (timeOk : Bool),
    (∀ wx, ExtX [] w wx → wx.heap[b1]? = some (Obj.cells ([.int .i64 x5, .int .i64 x6, .int .i64 x7] : List Value).toArray ty_int (0, 0)) → PureX [] Tryz.prog fn_impl_timeOk #[.slice (some (Addr.mk b1 0 none)) 3 3] wx (.bool timeOk)) ∧
    (∃ (loadOk : Bool),
    ((!timeOk) = false → PureX [] Tryz.prog fn_impl_loadOk #[.int .i64 x8] w (.bool loadOk)) ∧
    (∃ (allowe : Int),
    (((!timeOk) || (!loadOk)) = false → PureX [] Tryz.prog fn_impl_World_allowed #[.pointer wv, .int .i64 x] w (.int .i64 allowe)) ∧
    (∃ (xMaskHa : Bool),
    (((!timeOk) || (!loadOk)) = false → PureX [] Tryz.prog fn_impl_MaskHas #[.int .i64 allowe, .int .i64 x2] w (.bool xMaskHa)) ∧
    ((((!timeOk) || (!loadOk)) || (!xMaskHa)) = true →
    R (.bool false) w) ∧
    ((((!timeOk) || (!loadOk)) || (!xMaskHa)) = false →
    (∃ (lane : Option Addr) (lane1 : Int),
    PureX [] Tryz.prog fn_impl_World_lane #[.pointer wv, .int .i64 x2] w (.agg #[.pointer lane, .int .i64 lane1]) ∧
    (∃ (shelf : Option Addr),
    PureX [] Tryz.prog fn_impl_lane_shelf #[.agg #[.pointer lane, .int .i64 lane1], .int .i64 x1] w (.pointer shelf) ∧
    shelf.isSome = true ∧
    (∃ (floor : Int),
    CellsX [] w shelf (0 + 0) [.int .i64 floor] ∧
    ((x0 == 1) = true → (∀ b2, w.heap.size ≤ b2 →
    (∃ (timeOk1 : Bool),
    ((x0 == 1) = true → (∀ wx1, ExtX [] w wx1 → wx1.heap[b2]? = some (Obj.cells ([.int .i64 floor] : List Value).toArray ty_int (0, 0)) → PureX [] Tryz.prog fn_impl_timeOk #[.slice (some (Addr.mk b2 0 none)) 1 1] wx1 (.bool timeOk1))) ∧
    (∃ (xWeight : Int),
    ((!timeOk1) = false → ((x0 == 1) = true → PureX [] Tryz.prog fn_impl_WeightOf #[.int .i64 x3] w (.int .i64 xWeight))) ∧
    (∃ (placed : Bool),
    ((!timeOk1) = false → ((x0 == 1) = true → PureX [] Tryz.prog fn_impl_placed #[.int .i64 x5, .int .i64 floor, .int .i64 xWeight] w (.bool placed))) ∧
    (((x0 == 1) && ((!timeOk1) || (!placed))) = true →
    R (.bool false) w) ∧
    (((x0 == 1) && ((!timeOk1) || (!placed))) = false →
    InR .i64 (x + 1) ∧
    xInv [.int .i64 (x + 1)] ∧ mu [.int .i64 (x + 1)] < mu [.int .i64 x])))))) ∧
    (((x0 == 1) = true → False) →
    (false = true →
    R (.bool false) w) ∧
    (false = false →
    InR .i64 (x + 1) ∧
    xInv [.int .i64 (x + 1)] ∧ mu [.int .i64 (x + 1)] < mu [.int .i64 x]))))))))))))))))))))) ∧
    ((decide (x < ((tasksL : Nat) : Int))) = false →
    R (.bool true) w)))
theorem v_impl_World_tasksOk (wv : Option Addr) (w : World) (R : Value → World → Prop) : evFn c_impl_World_tasksOk s_impl_World_tasksOk [.pointer wv] (bodyOf Tryz.f50) Tryz.f50.results.toList w R = V_impl_World_tasksOk wv w R := by kernel_rfl
theorem p_impl_World_tasksOk (wv : Option Addr) {w : World} {bs : List Nat} {ret : Value} (hvc : ∀ wr0, ExtX bs w wr0 → V_impl_World_tasksOk wv wr0 fun v0 _ => v0 = ret) : PureX bs Tryz.prog fn_impl_World_tasksOk #[.pointer wv] w ret :=
  pure_of_ev (C := c_impl_World_tasksOk) (sps := s_impl_World_tasksOk) (body := bodyOf Tryz.f50) (env _ _ _ _ _) Tryz.func50 rfl rfl (of_decide_eq_true (by kernel_rfl)) (of_decide_eq_true (by kernel_rfl)) rfl rfl fun wr0 hx0 => by rw [v_impl_World_tasksOk]; exact hvc wr0 hx0
noncomputable def c_impl_lane_queues : Cfg := { P := Tryz.prog, T := tblGet tbl, pf := pfT, ef := efT, tt := ttT, vis := [], n := 32, pm := true, wr := false }
noncomputable def s_impl_lane_queues : List (Nat × LSpec) := []
def V_impl_lane_queues (p0 : Option Addr) (p1 : Int) (task : Int) (g : Int) (w : World) (R : Value → World → Prop) : Prop :=
    (∀ b, w.heap.size ≤ b →
    p0.isSome = true ∧
    (∃ (tasksO : Option Addr) (tasksL : Nat) (tasksC : Nat),
    CellsX [] w p0 (0 + 2) [.slice tasksO tasksL tasksC] ∧
    Ix tasksO tasksL task ∧
    (∃ (x0 : Int) (x1 : Int) (x2 : Int) (x3 : Int) (x4 : Int) (x5 : Int) (x6 : Int) (x7 : Int) (x8 : Int),
    CellsX [] w tasksO (Int.toNat task * 9) [.int .i64 x0, .int .i64 x1, .int .i64 x2, .int .i64 x3, .int .i64 x4, .int .i64 x5, .int .i64 x6, .int .i64 x7, .int .i64 x8] ∧
    (∀ b1, w.heap.size ≤ b1 →
    R (.bool (((x0 == 1) && (x1 == g)) && (x2 == p1))) w))))
theorem v_impl_lane_queues (p0 : Option Addr) (p1 : Int) (task : Int) (g : Int) (w : World) (R : Value → World → Prop) : evFn c_impl_lane_queues s_impl_lane_queues [.agg #[.pointer p0, .int .i64 p1], .int .i64 task, .int .i64 g] (bodyOf Tryz.f129) Tryz.f129.results.toList w R = V_impl_lane_queues p0 p1 task g w R := by kernel_rfl
theorem p_impl_lane_queues (p0 : Option Addr) (p1 : Int) (task : Int) (g : Int) {w : World} {bs : List Nat} {ret : Value} (hvc : ∀ wr0, ExtX bs w wr0 → V_impl_lane_queues p0 p1 task g wr0 fun v0 _ => v0 = ret) : PureX bs Tryz.prog fn_impl_lane_queues #[.agg #[.pointer p0, .int .i64 p1], .int .i64 task, .int .i64 g] w ret :=
  pure_of_ev (C := c_impl_lane_queues) (sps := s_impl_lane_queues) (body := bodyOf Tryz.f129) (env _ _ _ _ _) Tryz.func129 rfl rfl (of_decide_eq_true (by kernel_rfl)) (of_decide_eq_true (by kernel_rfl)) rfl rfl fun wr0 hx0 => by rw [v_impl_lane_queues]; exact hvc wr0 hx0
noncomputable def c_impl_lane_holds : Cfg := { P := Tryz.prog, T := tblGet tbl, pf := pfT, ef := efT, tt := ttT, vis := [], n := 41, pm := true, wr := false }
noncomputable def s_impl_lane_holds : List (Nat × LSpec) := []
def V_impl_lane_holds (p0 : Option Addr) (p1 : Int) (kid : Int) (g : Int) (w : World) (R : Value → World → Prop) : Prop :=
    (∀ b, w.heap.size ≤ b →
    ((kid != 0) = true → p0.isSome = true) ∧
    (∃ (groupsO : Option Addr) (groupsL : Nat) (groupsC : Nat),
    ((kid != 0) = true → CellsX [] w p0 (0 + 3) [.slice groupsO groupsL groupsC]) ∧
    ((kid != 0) = true → Ix groupsO groupsL kid) ∧
    (∃ (used : Bool),
    ((kid != 0) = true → CellsX [] w groupsO (Int.toNat kid * 14 + 0) [.bool used]) ∧
    (((kid != 0) && used) = true → p0.isSome = true) ∧
    (∃ (groups1O : Option Addr) (groups1L : Nat) (groups1C : Nat),
    (((kid != 0) && used) = true → CellsX [] w p0 (0 + 3) [.slice groups1O groups1L groups1C]) ∧
    (((kid != 0) && used) = true → Ix groups1O groups1L kid) ∧
    (∃ (parent : Int),
    (((kid != 0) && used) = true → CellsX [] w groups1O (Int.toNat kid * 14 + 1) [.int .i64 parent]) ∧
    (∃ (shelf : Option Addr),
    ((((kid != 0) && used) && (parent == g)) = true → PureX [] Tryz.prog fn_impl_lane_shelf #[.agg #[.pointer p0, .int .i64 p1], .int .i64 kid] w (.pointer shelf)) ∧
    ((((kid != 0) && used) && (parent == g)) = true → shelf.isSome = true) ∧
    (∃ (onv : Bool),
    ((((kid != 0) && used) && (parent == g)) = true → CellsX [] w shelf (0 + 1) [.bool onv]) ∧
    R (.bool ((((kid != 0) && used) && (parent == g)) && onv)) w)))))))
theorem v_impl_lane_holds (p0 : Option Addr) (p1 : Int) (kid : Int) (g : Int) (w : World) (R : Value → World → Prop) : evFn c_impl_lane_holds s_impl_lane_holds [.agg #[.pointer p0, .int .i64 p1], .int .i64 kid, .int .i64 g] (bodyOf Tryz.f130) Tryz.f130.results.toList w R = V_impl_lane_holds p0 p1 kid g w R := by kernel_rfl
theorem p_impl_lane_holds (p0 : Option Addr) (p1 : Int) (kid : Int) (g : Int) {w : World} {bs : List Nat} {ret : Value} (hvc : ∀ wr0, ExtX bs w wr0 → V_impl_lane_holds p0 p1 kid g wr0 fun v0 _ => v0 = ret) : PureX bs Tryz.prog fn_impl_lane_holds #[.agg #[.pointer p0, .int .i64 p1], .int .i64 kid, .int .i64 g] w ret :=
  pure_of_ev (C := c_impl_lane_holds) (sps := s_impl_lane_holds) (body := bodyOf Tryz.f130) (env _ _ _ _ _) Tryz.func130 rfl rfl (of_decide_eq_true (by kernel_rfl)) (of_decide_eq_true (by kernel_rfl)) rfl rfl fun wr0 hx0 => by rw [v_impl_lane_holds]; exact hvc wr0 hx0
noncomputable def c_impl_lane_active : Cfg := { P := Tryz.prog, T := tblGet tbl, pf := pfT, ef := efT, tt := ttT, vis := [], n := 35, pm := true, wr := false }
noncomputable def s_impl_lane_active : List (Nat × LSpec) := [(2, { chg := [(13, .int .i64)], chgL := [], keep := [1, 2, 12] }), (8, { chg := [(27, .int .i64)], chgL := [], keep := [1, 2, 26] })]
def V_impl_lane_active (p0 : Option Addr) (p1 : Int) (g : Int) (w : World) (R : Value → World → Prop) : Prop :=
    (∀ b, w.heap.size ≤ b →
    p0.isSome = true ∧
    (∃ (tasksO : Option Addr) (tasksL : Nat) (tasksC : Nat),
    CellsX [] w p0 (0 + 2) [.slice tasksO tasksL tasksC] ∧
    (∃ (xInv : List Value → Prop) (mu : List Value → Nat), xInv [.int .i64 0] ∧
    ∀ (x : Int), xInv [.int .i64 x] →
    ((decide (x < ((tasksL : Nat) : Int))) = true →
    (∃ (queues : Bool),
    PureX [] Tryz.prog fn_impl_lane_queues #[.agg #[.pointer p0, .int .i64 p1], .int .i64 x, .int .i64 g] w (.bool queues) ∧
    (queues = true →
    R (.bool true) w) ∧
    (queues = false →
    InR .i64 (x + 1) ∧
    xInv [.int .i64 (x + 1)] ∧ mu [.int .i64 (x + 1)] < mu [.int .i64 x]))) ∧
    ((decide (x < ((tasksL : Nat) : Int))) = false →
    p0.isSome = true ∧
    (∃ (groupsO : Option Addr) (groupsL : Nat) (groupsC : Nat),
    CellsX [] w p0 (0 + 3) [.slice groupsO groupsL groupsC] ∧
    (∃ (xInv1 : List Value → Prop) (mu1 : List Value → Nat), xInv1 [.int .i64 0] ∧
    ∀ (x1 : Int), xInv1 [.int .i64 x1] →
    ((decide (x1 < ((groupsL : Nat) : Int))) = true →
    (∃ (holds : Bool),
    PureX [] Tryz.prog fn_impl_lane_holds #[.agg #[.pointer p0, .int .i64 p1], .int .i64 x1, .int .i64 g] w (.bool holds) ∧
    (holds = true →
    R (.bool true) w) ∧
    (holds = false →
    InR .i64 (x1 + 1) ∧
    xInv1 [.int .i64 (x1 + 1)] ∧ mu1 [.int .i64 (x1 + 1)] < mu1 [.int .i64 x1]))) ∧
    ((decide (x1 < ((groupsL : Nat) : Int))) = false →
    R (.bool false) w)))))))
theorem v_impl_lane_active (p0 : Option Addr) (p1 : Int) (g : Int) (w : World) (R : Value → World → Prop) : evFn c_impl_lane_active s_impl_lane_active [.agg #[.pointer p0, .int .i64 p1], .int .i64 g] (bodyOf Tryz.f100) Tryz.f100.results.toList w R = V_impl_lane_active p0 p1 g w R := by kernel_rfl
theorem p_impl_lane_active (p0 : Option Addr) (p1 : Int) (g : Int) {w : World} {bs : List Nat} {ret : Value} (hvc : ∀ wr0, ExtX bs w wr0 → V_impl_lane_active p0 p1 g wr0 fun v0 _ => v0 = ret) : PureX bs Tryz.prog fn_impl_lane_active #[.agg #[.pointer p0, .int .i64 p1], .int .i64 g] w ret :=
  pure_of_ev (C := c_impl_lane_active) (sps := s_impl_lane_active) (body := bodyOf Tryz.f100) (env _ _ _ _ _) Tryz.func100 rfl rfl (of_decide_eq_true (by kernel_rfl)) (of_decide_eq_true (by kernel_rfl)) rfl rfl fun wr0 hx0 => by rw [v_impl_lane_active]; exact hvc wr0 hx0
noncomputable def c_impl_lane_dry : Cfg := { P := Tryz.prog, T := tblGet tbl, pf := pfT, ef := efT, tt := ttT, vis := [], n := 26, pm := true, wr := false }
noncomputable def s_impl_lane_dry : List (Nat × LSpec) := []
def V_impl_lane_dry (p0 : Option Addr) (p1 : Int) (g : Int) (w : World) (R : Value → World → Prop) : Prop :=
    (∀ b, w.heap.size ≤ b →
    p0.isSome = true ∧
    (∃ (groupsO : Option Addr) (groupsL : Nat) (groupsC : Nat),
    CellsX [] w p0 (0 + 3) [.slice groupsO groupsL groupsC] ∧
    Ix groupsO groupsL g ∧
    (∃ (band0 : Int) (band1 : Int) (band2 : Int) (band3O : Option Addr) (band3L : Nat) (band3C : Nat) (band4O : Option Addr) (band4L : Nat) (band4C : Nat),
    CellsX [] w groupsO (Int.toNat g * 14 + 8) [.int .i64 band0, .int .i64 band1, .int .i64 band2, .slice band3O band3L band3C, .slice band4O band4L band4C] ∧
    (∀ b1, w.heap.size ≤ b1 →
    ((decide (band0 > 0)) = true → Ix band4O band4L p1) ∧
    (∃ (x : Bool),
    ((decide (band0 > 0)) = true → CellsX [] w band4O (Int.toNat p1 * 1) [.bool x]) ∧
    R (.bool ((decide (band0 > 0)) && x)) w)))))
theorem v_impl_lane_dry (p0 : Option Addr) (p1 : Int) (g : Int) (w : World) (R : Value → World → Prop) : evFn c_impl_lane_dry s_impl_lane_dry [.agg #[.pointer p0, .int .i64 p1], .int .i64 g] (bodyOf Tryz.f101) Tryz.f101.results.toList w R = V_impl_lane_dry p0 p1 g w R := by kernel_rfl
theorem p_impl_lane_dry (p0 : Option Addr) (p1 : Int) (g : Int) {w : World} {bs : List Nat} {ret : Value} (hvc : ∀ wr0, ExtX bs w wr0 → V_impl_lane_dry p0 p1 g wr0 fun v0 _ => v0 = ret) : PureX bs Tryz.prog fn_impl_lane_dry #[.agg #[.pointer p0, .int .i64 p1], .int .i64 g] w ret :=
  pure_of_ev (C := c_impl_lane_dry) (sps := s_impl_lane_dry) (body := bodyOf Tryz.f101) (env _ _ _ _ _) Tryz.func101 rfl rfl (of_decide_eq_true (by kernel_rfl)) (of_decide_eq_true (by kernel_rfl)) rfl rfl fun wr0 hx0 => by rw [v_impl_lane_dry]; exact hvc wr0 hx0
noncomputable def c_impl_World_shelvesOk : Cfg := { P := Tryz.prog, T := tblGet tbl, pf := pfT, ef := efT, tt := ttT, vis := [], n := 140, pm := true, wr := false }
noncomputable def s_impl_World_shelvesOk : List (Nat × LSpec) := [(2, { chg := [(17, .int .i64)], chgL := [], keep := [0, 15, 16] }), (5, { chg := [(24, .int .i64)], chgL := [], keep := [0, 15, 16, 17, 22, 23] }), (12, { chg := [(50, .int .i64)], chgL := [], keep := [0, 49] }), (19, { chg := [(10, .int .i64)], chgL := [], keep := [0, 8, 49, 50] })]
def V_impl_World_shelvesOk (wv : Option Addr) (w : World) (R : Value → World → Prop) : Prop :=
    wv.isSome = true ∧
    (∃ (groupsO : Option Addr) (groupsL : Nat) (groupsC : Nat),
    CellsX [] w wv (0 + 3) [.slice groupsO groupsL groupsC] ∧
    (∃ (xInv : List Value → Prop) (mu : List Value → Nat), xInv [.int .i64 0] ∧
    ∀ (x : Int), xInv [.int .i64 x] →
    ((decide (x < ((groupsL : Nat) : Int))) = true →
    Ix groupsO groupsL x ∧
    (∃ (x0 : Bool) (x1 : Int) (x2 : ByteArray) (x3 : Int) (x4 : Int) (x5 : Int) (x6 : Int) (x7 : Int) (x8 : Int) (x9 : Int) (x10 : Int) (x11O : Option Addr) (x11L : Nat) (x11C : Nat) (x12O : Option Addr) (x12L : Nat) (x12C : Nat) (x13O : Option Addr) (x13L : Nat) (x13C : Nat),
    CellsX [] w groupsO (Int.toNat x * 14) [.bool x0, .int .i64 x1, .string x2, .int .i64 x3, .int .i64 x4, .int .i64 x5, .int .i64 x6, .int .i64 x7, .int .i64 x8, .int .i64 x9, .int .i64 x10, .slice x11O x11L x11C, .slice x12O x12L x12C, .slice x13O x13L x13C] ∧
    (∀ b, w.heap.size ≤ b →
    (∃ (xInv1 : List Value → Prop) (mu1 : List Value → Nat), xInv1 [.int .i64 0] ∧
    ∀ (x14 : Int), xInv1 [.int .i64 x14] →
    ((decide (x14 < ((x13L : Nat) : Int))) = true →
    Ix x13O x13L x14 ∧
    (∃ (x01 : Int) (x15 : Bool) (x21 : Int) (x31 : Int) (x41 : Int),
    CellsX [] w x13O (Int.toNat x14 * 5) [.int .i64 x01, .bool x15, .int .i64 x21, .int .i64 x31, .int .i64 x41] ∧
    (∀ b1, w.heap.size ≤ b1 →
    (∀ b2, w.heap.size ≤ b2 →
    (∃ (timeOk : Bool),
    (∀ wx, ExtX [] w wx → wx.heap[b2]? = some (Obj.cells ([.int .i64 x01, .int .i64 x21, .int .i64 x41] : List Value).toArray ty_int (0, 0)) → PureX [] Tryz.prog fn_impl_timeOk #[.slice (some (Addr.mk b2 0 none)) 3 3] wx (.bool timeOk)) ∧
    (∃ (weight : Bool),
    ((!timeOk) = false → PureX [] Tryz.prog fn_impl_weightOk #[.int .i64 x31] w (.bool weight)) ∧
    (((!timeOk) || (!weight)) = true →
    R (.bool false) w) ∧
    (((!timeOk) || (!weight)) = false →
    InR .i64 (x14 + 1) ∧
    xInv1 [.int .i64 (x14 + 1)] ∧ mu1 [.int .i64 (x14 + 1)] < mu1 [.int .i64 x14]))))))) ∧
    ((decide (x14 < ((x13L : Nat) : Int))) = false →
    InR .i64 (x + 1) ∧
    xInv [.int .i64 (x + 1)] ∧ mu [.int .i64 (x + 1)] < mu [.int .i64 x]))))) ∧
    ((decide (x < ((groupsL : Nat) : Int))) = false →
    wv.isSome = true ∧
    (∃ (cpusO : Option Addr) (cpusL : Nat) (cpusC : Nat),
    CellsX [] w wv (0 + 1) [.slice cpusO cpusL cpusC] ∧
    (∃ (xInv2 : List Value → Prop) (mu2 : List Value → Nat), xInv2 [.int .i64 0] ∧
    ∀ (x16 : Int), xInv2 [.int .i64 x16] →
    ((decide (x16 < ((cpusL : Nat) : Int))) = true →
    (∃ (lane : Option Addr) (lane1 : Int),
    PureX [] Tryz.prog fn_impl_World_lane #[.pointer wv, .int .i64 x16] w (.agg #[.pointer lane, .int .i64 lane1]) ∧
    (∀ b3, w.heap.size ≤ b3 →
    (∃ (shelf : Option Addr),
    PureX [] Tryz.prog fn_impl_lane_shelf #[.agg #[.pointer lane, .int .i64 lane1], .int .i64 0] w (.pointer shelf) ∧
    shelf.isSome = true ∧
    (∃ (onv : Bool),
    CellsX [] w shelf (0 + 1) [.bool onv] ∧
    (onv = false → shelf.isSome = true) ∧
    (∃ (v : Int),
    (onv = false → CellsX [] w shelf (0 + 2) [.int .i64 v]) ∧
    ((onv || (v != 0)) = false → shelf.isSome = true) ∧
    (∃ (wv1 : Int),
    ((onv || (v != 0)) = false → CellsX [] w shelf (0 + 3) [.int .i64 wv1]) ∧
    (((onv || (v != 0)) || (wv1 != 10)) = true →
    R (.bool false) w) ∧
    (((onv || (v != 0)) || (wv1 != 10)) = false →
    (∃ (xInv3 : List Value → Prop) (mu3 : List Value → Nat), xInv3 [.int .i64 1] ∧
    ∀ (g : Int), xInv3 [.int .i64 g] →
    ((decide (g < 8)) = true →
    lane.isSome = true ∧
    (∃ (groups1O : Option Addr) (groups1L : Nat) (groups1C : Nat),
    CellsX [] w lane (0 + 3) [.slice groups1O groups1L groups1C] ∧
    Ix groups1O groups1L g ∧
    (∃ (used : Bool),
    CellsX [] w groups1O (Int.toNat g * 14 + 0) [.bool used] ∧
    ((!used) = true →
    InR .i64 (g + 1) ∧
    xInv3 [.int .i64 (g + 1)] ∧ mu3 [.int .i64 (g + 1)] < mu3 [.int .i64 g]) ∧
    ((!used) = false →
    (∃ (shelf1 : Option Addr),
    PureX [] Tryz.prog fn_impl_lane_shelf #[.agg #[.pointer lane, .int .i64 lane1], .int .i64 g] w (.pointer shelf1) ∧
    shelf1.isSome = true ∧
    (∃ (onv1 : Bool),
    CellsX [] w shelf1 (0 + 1) [.bool onv1] ∧
    (∃ (active : Bool),
    PureX [] Tryz.prog fn_impl_lane_active #[.agg #[.pointer lane, .int .i64 lane1], .int .i64 g] w (.bool active) ∧
    (∃ (dry : Bool),
    (active = true → PureX [] Tryz.prog fn_impl_lane_dry #[.agg #[.pointer lane, .int .i64 lane1], .int .i64 g] w (.bool dry)) ∧
    ((!(onv1 == (active && (!dry)))) = false → shelf1.isSome = true) ∧
    (∃ (onv2 : Bool),
    ((!(onv1 == (active && (!dry)))) = false → CellsX [] w shelf1 (0 + 1) [.bool onv2]) ∧
    (onv2 = true → ((!(onv1 == (active && (!dry)))) = false → shelf1.isSome = true)) ∧
    (∃ (v1 : Int),
    (onv2 = true → ((!(onv1 == (active && (!dry)))) = false → CellsX [] w shelf1 (0 + 2) [.int .i64 v1])) ∧
    (onv2 = true → ((!(onv1 == (active && (!dry)))) = false → lane.isSome = true)) ∧
    (∃ (groups2O : Option Addr) (groups2L : Nat) (groups2C : Nat),
    (onv2 = true → ((!(onv1 == (active && (!dry)))) = false → CellsX [] w lane (0 + 3) [.slice groups2O groups2L groups2C])) ∧
    (onv2 = true → ((!(onv1 == (active && (!dry)))) = false → Ix groups2O groups2L g)) ∧
    (∃ (parent : Int),
    (onv2 = true → ((!(onv1 == (active && (!dry)))) = false → CellsX [] w groups2O (Int.toNat g * 14 + 1) [.int .i64 parent])) ∧
    (∃ (shelf2 : Option Addr),
    (onv2 = true → ((!(onv1 == (active && (!dry)))) = false → PureX [] Tryz.prog fn_impl_lane_shelf #[.agg #[.pointer lane, .int .i64 lane1], .int .i64 parent] w (.pointer shelf2))) ∧
    (onv2 = true → ((!(onv1 == (active && (!dry)))) = false → shelf2.isSome = true)) ∧
    (∃ (floor : Int),
    (onv2 = true → ((!(onv1 == (active && (!dry)))) = false → CellsX [] w shelf2 (0 + 0) [.int .i64 floor])) ∧
    (onv2 = true → ((!(onv1 == (active && (!dry)))) = false → shelf1.isSome = true)) ∧
    (∃ (wv2 : Int),
    (onv2 = true → ((!(onv1 == (active && (!dry)))) = false → CellsX [] w shelf1 (0 + 3) [.int .i64 wv2])) ∧
    (∃ (placed : Bool),
    (onv2 = true → ((!(onv1 == (active && (!dry)))) = false → PureX [] Tryz.prog fn_impl_placed #[.int .i64 v1, .int .i64 floor, .int .i64 wv2] w (.bool placed))) ∧
    (((!(onv1 == (active && (!dry)))) || (onv2 && (!placed))) = true →
    R (.bool false) w) ∧
    (((!(onv1 == (active && (!dry)))) || (onv2 && (!placed))) = false →
    InR .i64 (g + 1) ∧
    xInv3 [.int .i64 (g + 1)] ∧ mu3 [.int .i64 (g + 1)] < mu3 [.int .i64 g]))))))))))))))))) ∧
    ((decide (g < 8)) = false →
    InR .i64 (x16 + 1) ∧
    xInv2 [.int .i64 (x16 + 1)] ∧ mu2 [.int .i64 (x16 + 1)] < mu2 [.int .i64 x16])))))))))) ∧
    ((decide (x16 < ((cpusL : Nat) : Int))) = false →
    R (.bool true) w))))))
theorem v_impl_World_shelvesOk (wv : Option Addr) (w : World) (R : Value → World → Prop) : evFn c_impl_World_shelvesOk s_impl_World_shelvesOk [.pointer wv] (bodyOf Tryz.f51) Tryz.f51.results.toList w R = V_impl_World_shelvesOk wv w R := by kernel_rfl
theorem p_impl_World_shelvesOk (wv : Option Addr) {w : World} {bs : List Nat} {ret : Value} (hvc : ∀ wr0, ExtX bs w wr0 → V_impl_World_shelvesOk wv wr0 fun v0 _ => v0 = ret) : PureX bs Tryz.prog fn_impl_World_shelvesOk #[.pointer wv] w ret :=
  pure_of_ev (C := c_impl_World_shelvesOk) (sps := s_impl_World_shelvesOk) (body := bodyOf Tryz.f51) (env _ _ _ _ _) Tryz.func51 rfl rfl (of_decide_eq_true (by kernel_rfl)) (of_decide_eq_true (by kernel_rfl)) rfl rfl fun wr0 hx0 => by rw [v_impl_World_shelvesOk]; exact hvc wr0 hx0
noncomputable def c_impl_World_taskThere : Cfg := { P := Tryz.prog, T := tblGet tbl, pf := pfT, ef := efT, tt := ttT, vis := [], n := 24, pm := true, wr := false }
noncomputable def s_impl_World_taskThere : List (Nat × LSpec) := []
def V_impl_World_taskThere (wv : Option Addr) (task : Int) (w : World) (R : Value → World → Prop) : Prop :=
    wv.isSome = true ∧
    (∃ (tasksO : Option Addr) (tasksL : Nat) (tasksC : Nat),
    CellsX [] w wv (0 + 2) [.slice tasksO tasksL tasksC] ∧
    InR .i64 (((tasksL : Nat) : Int) - 1) ∧
    (∃ (inRang : Bool),
    PureX [] Tryz.prog fn_impl_inRange #[.int .i64 task, .int .i64 0, .int .i64 (((tasksL : Nat) : Int) - 1)] w (.bool inRang) ∧
    (inRang = true → wv.isSome = true) ∧
    (∃ (tasks1O : Option Addr) (tasks1L : Nat) (tasks1C : Nat),
    (inRang = true → CellsX [] w wv (0 + 2) [.slice tasks1O tasks1L tasks1C]) ∧
    (inRang = true → Ix tasks1O tasks1L task) ∧
    (∃ (state : Int),
    (inRang = true → CellsX [] w tasks1O (Int.toNat task * 9 + 0) [.int .i64 state]) ∧
    R (.bool (inRang && (state != 0))) w))))
theorem v_impl_World_taskThere (wv : Option Addr) (task : Int) (w : World) (R : Value → World → Prop) : evFn c_impl_World_taskThere s_impl_World_taskThere [.pointer wv, .int .i64 task] (bodyOf Tryz.f102) Tryz.f102.results.toList w R = V_impl_World_taskThere wv task w R := by kernel_rfl
theorem p_impl_World_taskThere (wv : Option Addr) (task : Int) {w : World} {bs : List Nat} {ret : Value} (hvc : ∀ wr0, ExtX bs w wr0 → V_impl_World_taskThere wv task wr0 fun v0 _ => v0 = ret) : PureX bs Tryz.prog fn_impl_World_taskThere #[.pointer wv, .int .i64 task] w ret :=
  pure_of_ev (C := c_impl_World_taskThere) (sps := s_impl_World_taskThere) (body := bodyOf Tryz.f102) (env _ _ _ _ _) Tryz.func102 rfl rfl (of_decide_eq_true (by kernel_rfl)) (of_decide_eq_true (by kernel_rfl)) rfl rfl fun wr0 hx0 => by rw [v_impl_World_taskThere]; exact hvc wr0 hx0
noncomputable def c_impl_lane_inLine : Cfg := { P := Tryz.prog, T := tblGet tbl, pf := pfT, ef := efT, tt := ttT, vis := [], n := 45, pm := true, wr := false }
noncomputable def s_impl_lane_inLine : List (Nat × LSpec) := [(5, { chg := [(6, .int .i64)], chgL := [], keep := [2] })]
def V_impl_lane_inLine (p0 : Option Addr) (p1 : Int) (task : Int) (w : World) (R : Value → World → Prop) : Prop :=
    (∀ b, w.heap.size ≤ b →
    p0.isSome = true ∧
    (∃ (tasksO : Option Addr) (tasksL : Nat) (tasksC : Nat),
    CellsX [] w p0 (0 + 2) [.slice tasksO tasksL tasksC] ∧
    Ix tasksO tasksL task ∧
    (∃ (x0 : Int) (x1 : Int) (x2 : Int) (x3 : Int) (x4 : Int) (x5 : Int) (x6 : Int) (x7 : Int) (x8 : Int),
    CellsX [] w tasksO (Int.toNat task * 9) [.int .i64 x0, .int .i64 x1, .int .i64 x2, .int .i64 x3, .int .i64 x4, .int .i64 x5, .int .i64 x6, .int .i64 x7, .int .i64 x8] ∧
    (∀ b1, w.heap.size ≤ b1 →
    (((x0 != 1) || (x2 != p1)) = true →
    R (.bool false) w) ∧
    (((x0 != 1) || (x2 != p1)) = false →
    (∃ (xInv : List Value → Prop) (mu : List Value → Nat), xInv [.int .i64 x1] ∧
    ∀ (g : Int), xInv [.int .i64 g] →
    ((g != 0) = true →
    (∃ (shelf : Option Addr),
    PureX [] Tryz.prog fn_impl_lane_shelf #[.agg #[.pointer p0, .int .i64 p1], .int .i64 g] w (.pointer shelf) ∧
    shelf.isSome = true ∧
    (∃ (onv : Bool),
    CellsX [] w shelf (0 + 1) [.bool onv] ∧
    ((!onv) = true →
    R (.bool false) w) ∧
    ((!onv) = false →
    p0.isSome = true ∧
    (∃ (groupsO : Option Addr) (groupsL : Nat) (groupsC : Nat),
    CellsX [] w p0 (0 + 3) [.slice groupsO groupsL groupsC] ∧
    Ix groupsO groupsL g ∧
    (∃ (parent : Int),
    CellsX [] w groupsO (Int.toNat g * 14 + 1) [.int .i64 parent] ∧
    xInv [.int .i64 parent] ∧ mu [.int .i64 parent] < mu [.int .i64 g])))))) ∧
    ((g != 0) = false →
    R (.bool true) w)))))))
theorem v_impl_lane_inLine (p0 : Option Addr) (p1 : Int) (task : Int) (w : World) (R : Value → World → Prop) : evFn c_impl_lane_inLine s_impl_lane_inLine [.agg #[.pointer p0, .int .i64 p1], .int .i64 task] (bodyOf Tryz.f103) Tryz.f103.results.toList w R = V_impl_lane_inLine p0 p1 task w R := by kernel_rfl
theorem p_impl_lane_inLine (p0 : Option Addr) (p1 : Int) (task : Int) {w : World} {bs : List Nat} {ret : Value} (hvc : ∀ wr0, ExtX bs w wr0 → V_impl_lane_inLine p0 p1 task wr0 fun v0 _ => v0 = ret) : PureX bs Tryz.prog fn_impl_lane_inLine #[.agg #[.pointer p0, .int .i64 p1], .int .i64 task] w ret :=
  pure_of_ev (C := c_impl_lane_inLine) (sps := s_impl_lane_inLine) (body := bodyOf Tryz.f103) (env _ _ _ _ _) Tryz.func103 rfl rfl (of_decide_eq_true (by kernel_rfl)) (of_decide_eq_true (by kernel_rfl)) rfl rfl fun wr0 hx0 => by rw [v_impl_lane_inLine]; exact hvc wr0 hx0
noncomputable def c_impl_World_cpusOk : Cfg := { P := Tryz.prog, T := tblGet tbl, pf := pfT, ef := efT, tt := ttT, vis := [], n := 127, pm := true, wr := false }
noncomputable def s_impl_World_cpusOk : List (Nat × LSpec) := [(2, { chg := [(14, .int .i64)], chgL := [], keep := [0, 12, 13] }), (14, { chg := [(7, .int .i64)], chgL := [], keep := [0, 4, 5, 12, 13, 14] })]
def V_impl_World_cpusOk (wv : Option Addr) (w : World) (R : Value → World → Prop) : Prop :=
    wv.isSome = true ∧
    (∃ (cpusO : Option Addr) (cpusL : Nat) (cpusC : Nat),
    CellsX [] w wv (0 + 1) [.slice cpusO cpusL cpusC] ∧
    (∃ (xInv : List Value → Prop) (mu : List Value → Nat), xInv [.int .i64 0] ∧
    ∀ (x : Int), xInv [.int .i64 x] →
    ((decide (x < ((cpusL : Nat) : Int))) = true →
    Ix cpusO cpusL x ∧
    (∃ (x0 : Bool) (x1 : Int) (x2 : Int) (x3 : Int) (x4 : Int),
    CellsX [] w cpusO (Int.toNat x * 5) [.bool x0, .int .i64 x1, .int .i64 x2, .int .i64 x3, .int .i64 x4] ∧
    (∀ b, w.heap.size ≤ b →
    (∀ b1, w.heap.size ≤ b1 →
    (∃ (timeOk : Bool),
    (∀ wx, ExtX [] w wx → wx.heap[b1]? = some (Obj.cells ([.int .i64 x3, .int .i64 x4] : List Value).toArray ty_int (0, 0)) → PureX [] Tryz.prog fn_impl_timeOk #[.slice (some (Addr.mk b1 0 none)) 2 2] wx (.bool timeOk)) ∧
    ((!timeOk) = true →
    R (.bool false) w) ∧
    ((!timeOk) = false →
    (((x1 == (-1)) && (x2 == 0)) = true →
    InR .i64 (x + 1) ∧
    xInv [.int .i64 (x + 1)] ∧ mu [.int .i64 (x + 1)] < mu [.int .i64 x]) ∧
    (((x1 == (-1)) && (x2 == 0)) = false →
    (∃ (lane : Option Addr) (lane1 : Int),
    PureX [] Tryz.prog fn_impl_World_lane #[.pointer wv, .int .i64 x] w (.agg #[.pointer lane, .int .i64 lane1]) ∧
    (∀ b2, w.heap.size ≤ b2 →
    (∃ (taskTh : Bool),
    ((!x0) = false → PureX [] Tryz.prog fn_impl_World_taskThere #[.pointer wv, .int .i64 x1] w (.bool taskTh)) ∧
    (∃ (inLine : Bool),
    (((!x0) || (!taskTh)) = false → PureX [] Tryz.prog fn_impl_lane_inLine #[.agg #[.pointer lane, .int .i64 lane1], .int .i64 x1] w (.bool inLine)) ∧
    (∃ (inRang : Bool),
    ((((!x0) || (!taskTh)) || (!inLine)) = false → PureX [] Tryz.prog fn_impl_inRange #[.int .i64 x2, .int .i64 1, .int .i64 149] w (.bool inRang)) ∧
    (((((!x0) || (!taskTh)) || (!inLine)) || (!inRang)) = true →
    R (.bool false) w) ∧
    (((((!x0) || (!taskTh)) || (!inLine)) || (!inRang)) = false →
    wv.isSome = true ∧
    (∃ (tasksO : Option Addr) (tasksL : Nat) (tasksC : Nat),
    CellsX [] w wv (0 + 2) [.slice tasksO tasksL tasksC] ∧
    Ix tasksO tasksL x1 ∧
    (∃ (x01 : Int) (x11 : Int) (x21 : Int) (x31 : Int) (x41 : Int) (x5 : Int) (x6 : Int) (x7 : Int) (x8 : Int),
    CellsX [] w tasksO (Int.toNat x1 * 9) [.int .i64 x01, .int .i64 x11, .int .i64 x21, .int .i64 x31, .int .i64 x41, .int .i64 x5, .int .i64 x6, .int .i64 x7, .int .i64 x8] ∧
    (∀ b3, w.heap.size ≤ b3 →
    CellsX [] w tasksO (Int.toNat x1 * 9) [.int .i64 x01, .int .i64 x11, .int .i64 x21, .int .i64 x31, .int .i64 x41, .int .i64 x5, .int .i64 x6, .int .i64 x7, .int .i64 x8] ∧
    (some (ty_impl_Cpu, ([.bool x0, .int .i64 x1, .int .i64 x2, .int .i64 x3, .int .i64 x4] : List Value)) = some (ty_impl_Cpu, ([.bool x0, .int .i64 x1, .int .i64 x2, .int .i64 x3, .int .i64 x4] : List Value))) ∧
    CellsX [] w wv (0 + 2) [.slice tasksO tasksL tasksC] ∧
    (∃ (shelf : Option Addr),
    PureX [] Tryz.prog fn_impl_lane_shelf #[.agg #[.pointer lane, .int .i64 lane1], .int .i64 x11] w (.pointer shelf) ∧
    shelf.isSome = true ∧
    (∃ (floor : Int),
    CellsX [] w shelf (0 + 0) [.int .i64 floor] ∧
    InR .i64 (x5 - floor) ∧
    (∃ (xWeight : Int),
    PureX [] Tryz.prog fn_impl_WeightOf #[.int .i64 x31] w (.int .i64 xWeight) ∧
    (∃ (xVirtua : Int),
    PureX [] Tryz.prog fn_impl_VirtualStep #[.int .i64 x2, .int .i64 xWeight] w (.int .i64 xVirtua) ∧
    ((decide (x5 - floor > xVirtua)) = true →
    R (.bool false) w) ∧
    ((decide (x5 - floor > xVirtua)) = false →
    (∃ (xInv1 : List Value → Prop) (mu1 : List Value → Nat), xInv1 [.int .i64 x11] ∧
    ∀ (g : Int), xInv1 [.int .i64 g] →
    ((g != 0) = true →
    (∃ (shelf1 : Option Addr),
    PureX [] Tryz.prog fn_impl_lane_shelf #[.agg #[.pointer lane, .int .i64 lane1], .int .i64 g] w (.pointer shelf1) ∧
    shelf1.isSome = true ∧
    (∃ (v : Int),
    CellsX [] w shelf1 (0 + 2) [.int .i64 v] ∧
    wv.isSome = true ∧
    (∃ (groupsO : Option Addr) (groupsL : Nat) (groupsC : Nat),
    CellsX [] w wv (0 + 3) [.slice groupsO groupsL groupsC] ∧
    Ix groupsO groupsL g ∧
    (∃ (parent : Int),
    CellsX [] w groupsO (Int.toNat g * 14 + 1) [.int .i64 parent] ∧
    (∃ (shelf2 : Option Addr),
    PureX [] Tryz.prog fn_impl_lane_shelf #[.agg #[.pointer lane, .int .i64 lane1], .int .i64 parent] w (.pointer shelf2) ∧
    shelf2.isSome = true ∧
    (∃ (floor1 : Int),
    CellsX [] w shelf2 (0 + 0) [.int .i64 floor1] ∧
    InR .i64 (v - floor1) ∧
    shelf1.isSome = true ∧
    (∃ (wv1 : Int),
    CellsX [] w shelf1 (0 + 3) [.int .i64 wv1] ∧
    (∃ (xVirtua1 : Int),
    PureX [] Tryz.prog fn_impl_VirtualStep #[.int .i64 x2, .int .i64 wv1] w (.int .i64 xVirtua1) ∧
    ((decide (v - floor1 > xVirtua1)) = true →
    R (.bool false) w) ∧
    ((decide (v - floor1 > xVirtua1)) = false →
    wv.isSome = true ∧
    (∃ (groups1O : Option Addr) (groups1L : Nat) (groups1C : Nat),
    CellsX [] w wv (0 + 3) [.slice groups1O groups1L groups1C] ∧
    Ix groups1O groups1L g ∧
    (∃ (parent1 : Int),
    CellsX [] w groups1O (Int.toNat g * 14 + 1) [.int .i64 parent1] ∧
    xInv1 [.int .i64 parent1] ∧ mu1 [.int .i64 parent1] < mu1 [.int .i64 g])))))))))))) ∧
    ((g != 0) = false →
    InR .i64 (x + 1) ∧
    xInv [.int .i64 (x + 1)] ∧ mu [.int .i64 (x + 1)] < mu [.int .i64 x]))))))))))))))))))))))) ∧
    ((decide (x < ((cpusL : Nat) : Int))) = false →
    R (.bool true) w)))
theorem v_impl_World_cpusOk (wv : Option Addr) (w : World) (R : Value → World → Prop) : evFn c_impl_World_cpusOk s_impl_World_cpusOk [.pointer wv] (bodyOf Tryz.f52) Tryz.f52.results.toList w R = V_impl_World_cpusOk wv w R := by kernel_rfl
theorem p_impl_World_cpusOk (wv : Option Addr) {w : World} {bs : List Nat} {ret : Value} (hvc : ∀ wr0, ExtX bs w wr0 → V_impl_World_cpusOk wv wr0 fun v0 _ => v0 = ret) : PureX bs Tryz.prog fn_impl_World_cpusOk #[.pointer wv] w ret :=
  pure_of_ev (C := c_impl_World_cpusOk) (sps := s_impl_World_cpusOk) (body := bodyOf Tryz.f52) (env _ _ _ _ _) Tryz.func52 rfl rfl (of_decide_eq_true (by kernel_rfl)) (of_decide_eq_true (by kernel_rfl)) rfl rfl fun wr0 hx0 => by rw [v_impl_World_cpusOk]; exact hvc wr0 hx0
noncomputable def c_impl_WorldOk : Cfg := { P := Tryz.prog, T := tblGet tbl, pf := pfT, ef := efT, tt := ttT, vis := [1], n := 17, pm := false, wr := false }
noncomputable def s_impl_WorldOk : List (Nat × LSpec) := [(4, { chg := [(4, .bool), (9, .int .i64)], chgL := [], keep := [1, 8] })]
def V_impl_WorldOk (w0 : Int) (w1O : Option Addr) (w1L : Nat) (w1C : Nat) (w2O : Option Addr) (w2L : Nat) (w2C : Nat) (w3O : Option Addr) (w3L : Nat) (w3C : Nat) (w : World) (R : Value → World → Prop) : Prop :=
    (∀ b wb, ExtX [] w wb → w.heap.size ≤ b → wb.heap[b]? = some (Obj.cells ([.int .i64 w0, .slice w1O w1L w1C, .slice w2O w2L w2C, .slice w3O w3L w3C] : List Value).toArray ty_impl_World (0, 0)) → b ∉ ([] : List Nat) →
    (∀ b1, wb.heap.size ≤ b1 →
    (∃ (xInv : List Value → World → Prop) (mu : List Value → World → Nat), (∀ wr, ExtX [] wb wr → (∀ bq ∈ ([b1] : List Nat), bq < wr.heap.size) → xInv [.bool true, .int .i64 0] wr) ∧
    ∀ (ok : Bool) (x : Int) wv, (∀ bq ∈ ([b1] : List Nat), bq < wv.heap.size) → xInv [.bool ok, .int .i64 x] wv →
    ((decide (x < 5)) = true →
    (∃ (x1F : Fn) (x1A : Array Value) (x1K : Array Value),
    (0 ≤ x ∧ x < ((5 : Nat) : Int) ∧ (#[.func (.func fn_impl_World_shapeOk) #[] #[], .func (.func fn_impl_World_groupsOk) #[] #[], .func (.func fn_impl_World_tasksOk) #[] #[], .func (.func fn_impl_World_shelvesOk) #[] #[], .func (.func fn_impl_World_cpusOk) #[] #[]] : Array Value)[Int.toNat x]? = some (.func x1F x1A x1K)) ∧
    (∀ wr1, ExtX [b1] wv wr1 → (∀ bq ∈ ([b1] : List Nat), bq < wr1.heap.size) →
    CallF Tryz.prog (.func x1F x1A x1K) [.pointer ((some (Addr.mk b 0 none)).map (·.add 0))] wr1 fun e wv1 =>
    (∃ (rv : Bool),
    e = .returned (.bool rv) ∧ Kept [b1] wr1 wv1 ∧
    ((!rv) = true →
    (∀ wr2, ExtX [b1] wv1 wr2 → R (.bool false) wr2)) ∧
    ((!rv) = false →
    InR .i64 (x + 1) ∧
    (∀ wr3, ExtX [b1] wv1 wr3 → (∀ bq ∈ ([b1] : List Nat), bq < wr3.heap.size) → xInv [.bool ok, .int .i64 (x + 1)] wr3 ∧ mu [.bool ok, .int .i64 (x + 1)] wr3 < mu [.bool ok, .int .i64 x] wv)))))) ∧
    ((decide (x < 5)) = false →
    (∀ wr4, ExtX [b1] wv wr4 → R (.bool ok) wr4)))))
theorem v_impl_WorldOk (w0 : Int) (w1O : Option Addr) (w1L : Nat) (w1C : Nat) (w2O : Option Addr) (w2L : Nat) (w2C : Nat) (w3O : Option Addr) (w3L : Nat) (w3C : Nat) (w : World) (R : Value → World → Prop) : evFn c_impl_WorldOk s_impl_WorldOk [.agg #[.int .i64 w0, .slice w1O w1L w1C, .slice w2O w2L w2C, .slice w3O w3L w3C]] (bodyOf Tryz.f24) Tryz.f24.results.toList w R = V_impl_WorldOk w0 w1O w1L w1C w2O w2L w2C w3O w3L w3C w R := by kernel_rfl
theorem e_impl_WorldOk (w0 : Int) (w1O : Option Addr) (w1L : Nat) (w1C : Nat) (w2O : Option Addr) (w2L : Nat) (w2C : Nat) (w3O : Option Addr) (w3L : Nat) (w3C : Nat) {w : World} {R : Value → World → Prop} (hvc : V_impl_WorldOk w0 w1O w1L w1C w2O w2L w2C w3O w3L w3C w R) : Calls Tryz.prog fn_impl_WorldOk #[.agg #[.int .i64 w0, .slice w1O w1L w1C, .slice w2O w2L w2C, .slice w3O w3L w3C]] w fun e0 wr0 => ∃ v0, e0 = .returned v0 ∧ R v0 wr0 :=
  eff_of_ev (C := c_impl_WorldOk) (sps := s_impl_WorldOk) (body := bodyOf Tryz.f24) (env _ _ _ _ _) Tryz.func24 rfl rfl (of_decide_eq_true (by kernel_rfl)) (of_decide_eq_true (by kernel_rfl)) rfl rfl (by rw [v_impl_WorldOk]; exact hvc)
noncomputable def c_impl_World_cpuThere : Cfg := { P := Tryz.prog, T := tblGet tbl, pf := pfT, ef := efT, tt := ttT, vis := [], n := 13, pm := true, wr := false }
noncomputable def s_impl_World_cpuThere : List (Nat × LSpec) := []
def V_impl_World_cpuThere (wv : Option Addr) (cpu : Int) (w : World) (R : Value → World → Prop) : Prop :=
    wv.isSome = true ∧
    (∃ (cpusO : Option Addr) (cpusL : Nat) (cpusC : Nat),
    CellsX [] w wv (0 + 1) [.slice cpusO cpusL cpusC] ∧
    InR .i64 (((cpusL : Nat) : Int) - 1) ∧
    (∃ (inRang : Bool),
    PureX [] Tryz.prog fn_impl_inRange #[.int .i64 cpu, .int .i64 0, .int .i64 (((cpusL : Nat) : Int) - 1)] w (.bool inRang) ∧
    R (.bool inRang) w))
theorem v_impl_World_cpuThere (wv : Option Addr) (cpu : Int) (w : World) (R : Value → World → Prop) : evFn c_impl_World_cpuThere s_impl_World_cpuThere [.pointer wv, .int .i64 cpu] (bodyOf Tryz.f25) Tryz.f25.results.toList w R = V_impl_World_cpuThere wv cpu w R := by kernel_rfl
theorem p_impl_World_cpuThere (wv : Option Addr) (cpu : Int) {w : World} {bs : List Nat} {ret : Value} (hvc : ∀ wr0, ExtX bs w wr0 → V_impl_World_cpuThere wv cpu wr0 fun v0 _ => v0 = ret) : PureX bs Tryz.prog fn_impl_World_cpuThere #[.pointer wv, .int .i64 cpu] w ret :=
  pure_of_ev (C := c_impl_World_cpuThere) (sps := s_impl_World_cpuThere) (body := bodyOf Tryz.f25) (env _ _ _ _ _) Tryz.func25 rfl rfl (of_decide_eq_true (by kernel_rfl)) (of_decide_eq_true (by kernel_rfl)) rfl rfl fun wr0 hx0 => by rw [v_impl_World_cpuThere]; exact hvc wr0 hx0
noncomputable def c_impl_DomainLevels : Cfg := { P := Tryz.prog, T := tblGet tbl, pf := pfT, ef := efT, tt := ttT, vis := [], n := 14, pm := true, wr := false }
noncomputable def s_impl_DomainLevels : List (Nat × LSpec) := [(4, { chg := [(3, .int .i64)], chgL := [], keep := [0] })]
def V_impl_DomainLevels (cpus : Int) (w : World) (R : Value → World → Prop) : Prop :=
    (∃ (inRang : Bool),
    PureX [] Tryz.prog fn_impl_inRange #[.int .i64 cpus, .int .i64 1, .int .i64 4] w (.bool inRang) ∧
    ((!inRang) = true →
    R (.int .i64 0) w) ∧
    ((!inRang) = false →
    (∃ (xInv : List Value → Prop) (mu : List Value → Nat), xInv [.int .i64 0] ∧
    ∀ (levels : Int), xInv [.int .i64 levels] →
    (0 ≤ levels ∧ InR .i64 (1 * 2 ^ (min (Int.toNat levels) 64))) ∧
    ((decide (1 * 2 ^ (min (Int.toNat levels) 64) < cpus)) = true →
    InR .i64 (levels + 1) ∧
    xInv [.int .i64 (levels + 1)] ∧ mu [.int .i64 (levels + 1)] < mu [.int .i64 levels]) ∧
    ((decide (1 * 2 ^ (min (Int.toNat levels) 64) < cpus)) = false →
    R (.int .i64 levels) w))))
theorem v_impl_DomainLevels (cpus : Int) (w : World) (R : Value → World → Prop) : evFn c_impl_DomainLevels s_impl_DomainLevels [.int .i64 cpus] (bodyOf Tryz.f27) Tryz.f27.results.toList w R = V_impl_DomainLevels cpus w R := by kernel_rfl
theorem p_impl_DomainLevels (cpus : Int) {w : World} {bs : List Nat} {ret : Value} (hvc : ∀ wr0, ExtX bs w wr0 → V_impl_DomainLevels cpus wr0 fun v0 _ => v0 = ret) : PureX bs Tryz.prog fn_impl_DomainLevels #[.int .i64 cpus] w ret :=
  pure_of_ev (C := c_impl_DomainLevels) (sps := s_impl_DomainLevels) (body := bodyOf Tryz.f27) (env _ _ _ _ _) Tryz.func27 rfl rfl (of_decide_eq_true (by kernel_rfl)) (of_decide_eq_true (by kernel_rfl)) rfl rfl fun wr0 hx0 => by rw [v_impl_DomainLevels]; exact hvc wr0 hx0
noncomputable def c_impl_lane_busiest : Cfg := { P := Tryz.prog, T := tblGet tbl, pf := pfT, ef := efT, tt := ttT, vis := [2, 3], n := 18, pm := false, wr := false }
noncomputable def s_impl_lane_busiest : List (Nat × LSpec) := []
def V_impl_lane_busiest (p0 : Option Addr) (p1 : Int) (level : Int) (w : World) (R : Value → World → Prop) : Prop :=
    (∀ b wb, ExtX [] w wb → w.heap.size ≤ b → wb.heap[b]? = some (Obj.cells ([.pointer p0, .int .i64 p1] : List Value).toArray ty_impl_lane (0, 0)) → b ∉ ([] : List Nat) →
    (∀ b1 wb1, ExtX [] wb wb1 → wb.heap.size ≤ b1 → wb1.heap[b1]? = some (Obj.cells ([.int .i64 level] : List Value).toArray ty_int (0, 0)) → b1 ∉ ([] : List Nat) →
    (∀ wr, ExtX [] wb1 wr → (∀ bq ∈ ([] : List Nat), bq < wr.heap.size) →
    Calls Tryz.prog fn_impl_best_int #[.func (.func fn_impl_lane_busiest_1) #[] #[.pointer ((some (Addr.mk b 0 none)).map (·.add 0)), .pointer ((some (Addr.mk b1 0 none)).map (·.add 0))], .func (.func fn_impl_lane_busiest_2) #[] #[.pointer ((some (Addr.mk b 0 none)).map (·.add 0))]] wr fun e wv =>
    (∃ (int : Int) (int1 : Bool),
    e = .returned (.tuple #[.int .i64 int, .bool int1]) ∧ Kept [] wr wv ∧
    ((!int1) = true →
    (∀ wr1, ExtX [] wv wr1 → R (.int .i64 (-1)) wr1)) ∧
    ((!int1) = false →
    (∀ wr2, ExtX [] wv wr2 → R (.int .i64 int) wr2))))))
theorem v_impl_lane_busiest (p0 : Option Addr) (p1 : Int) (level : Int) (w : World) (R : Value → World → Prop) : evFn c_impl_lane_busiest s_impl_lane_busiest [.agg #[.pointer p0, .int .i64 p1], .int .i64 level] (bodyOf Tryz.f29) Tryz.f29.results.toList w R = V_impl_lane_busiest p0 p1 level w R := by kernel_rfl
theorem e_impl_lane_busiest (p0 : Option Addr) (p1 : Int) (level : Int) {w : World} {R : Value → World → Prop} (hvc : V_impl_lane_busiest p0 p1 level w R) : Calls Tryz.prog fn_impl_lane_busiest #[.agg #[.pointer p0, .int .i64 p1], .int .i64 level] w fun e0 wr0 => ∃ v0, e0 = .returned v0 ∧ R v0 wr0 :=
  eff_of_ev (C := c_impl_lane_busiest) (sps := s_impl_lane_busiest) (body := bodyOf Tryz.f29) (env _ _ _ _ _) Tryz.func29 rfl rfl (of_decide_eq_true (by kernel_rfl)) (of_decide_eq_true (by kernel_rfl)) rfl rfl (by rw [v_impl_lane_busiest]; exact hvc)
noncomputable def c_laws_eqCpu : Cfg := { P := Tryz.prog, T := tblGet tbl, pf := pfT, ef := efT, tt := ttT, vis := [], n := 30, pm := true, wr := false }
noncomputable def s_laws_eqCpu : List (Nat × LSpec) := []
def V_laws_eqCpu (a0 : Bool) (a1 : Int) (a2 : Int) (a3 : Int) (a4 : Int) (b0 : Bool) (b1 : Int) (b2 : Int) (b3 : Int) (b4 : Int) (w : World) (R : Value → World → Prop) : Prop :=
    (∀ b, w.heap.size ≤ b →
    (∀ b5, w.heap.size ≤ b5 →
    ((!(a0 == b0)) = true →
    R (.bool false) w) ∧
    ((!(a0 == b0)) = false →
    ((a1 != b1) = true →
    R (.bool false) w) ∧
    ((a1 != b1) = false →
    ((a2 != b2) = true →
    R (.bool false) w) ∧
    ((a2 != b2) = false →
    ((a3 != b3) = true →
    R (.bool false) w) ∧
    ((a3 != b3) = false →
    ((a4 != b4) = true →
    R (.bool false) w) ∧
    ((a4 != b4) = false →
    R (.bool true) w)))))))
theorem v_laws_eqCpu (a0 : Bool) (a1 : Int) (a2 : Int) (a3 : Int) (a4 : Int) (b0 : Bool) (b1 : Int) (b2 : Int) (b3 : Int) (b4 : Int) (w : World) (R : Value → World → Prop) : evFn c_laws_eqCpu s_laws_eqCpu [.agg #[.bool a0, .int .i64 a1, .int .i64 a2, .int .i64 a3, .int .i64 a4], .agg #[.bool b0, .int .i64 b1, .int .i64 b2, .int .i64 b3, .int .i64 b4]] (bodyOf Tryz.f60) Tryz.f60.results.toList w R = V_laws_eqCpu a0 a1 a2 a3 a4 b0 b1 b2 b3 b4 w R := by kernel_rfl
theorem p_laws_eqCpu (a0 : Bool) (a1 : Int) (a2 : Int) (a3 : Int) (a4 : Int) (b0 : Bool) (b1 : Int) (b2 : Int) (b3 : Int) (b4 : Int) {w : World} {bs : List Nat} {ret : Value} (hvc : ∀ wr0, ExtX bs w wr0 → V_laws_eqCpu a0 a1 a2 a3 a4 b0 b1 b2 b3 b4 wr0 fun v0 _ => v0 = ret) : PureX bs Tryz.prog fn_laws_eqCpu #[.agg #[.bool a0, .int .i64 a1, .int .i64 a2, .int .i64 a3, .int .i64 a4], .agg #[.bool b0, .int .i64 b1, .int .i64 b2, .int .i64 b3, .int .i64 b4]] w ret :=
  pure_of_ev (C := c_laws_eqCpu) (sps := s_laws_eqCpu) (body := bodyOf Tryz.f60) (env _ _ _ _ _) Tryz.func60 rfl rfl (of_decide_eq_true (by kernel_rfl)) (of_decide_eq_true (by kernel_rfl)) rfl rfl fun wr0 hx0 => by rw [v_laws_eqCpu]; exact hvc wr0 hx0
end Go.Proofs.YtnofpcbjpcoghaaGreat
namespace Go.Proofs.YtnofpcbjpcoghaaGreat
open Go.RowKit
set_option linter.unusedVariables false
set_option maxRecDepth 100000
set_option maxHeartbeats 1600000
noncomputable def c_laws_eqCpuS : Cfg := { P := Tryz.prog, T := tblGet tbl, pf := pfT, ef := efT, tt := ttT, vis := [], n := 27, pm := true, wr := false }
noncomputable def s_laws_eqCpuS : List (Nat × LSpec) := [(4, { chg := [(5, .int .i64)], chgL := [], keep := [0, 1] })]
def V_laws_eqCpuS (aO : Option Addr) (aL : Nat) (aC : Nat) (bO : Option Addr) (bL : Nat) (bC : Nat) (w : World) (R : Value → World → Prop) : Prop :=
    ((((aL : Nat) : Int) != ((bL : Nat) : Int)) = true →
    R (.bool false) w) ∧
    ((((aL : Nat) : Int) != ((bL : Nat) : Int)) = false →
    (∃ (xInv : List Value → Prop) (mu : List Value → Nat), xInv [.int .i64 0] ∧
    ∀ (i : Int), xInv [.int .i64 i] →
    ((decide (i < ((aL : Nat) : Int))) = true →
    Ix aO aL i ∧
    (∃ (x0 : Bool) (x1 : Int) (x2 : Int) (x3 : Int) (x4 : Int),
    CellsX [] w aO (Int.toNat i * 5) [.bool x0, .int .i64 x1, .int .i64 x2, .int .i64 x3, .int .i64 x4] ∧
    Ix bO bL i ∧
    (∃ (x01 : Bool) (x11 : Int) (x21 : Int) (x31 : Int) (x41 : Int),
    CellsX [] w bO (Int.toNat i * 5) [.bool x01, .int .i64 x11, .int .i64 x21, .int .i64 x31, .int .i64 x41] ∧
    (∃ (eqCpu : Bool),
    PureX [] Tryz.prog fn_laws_eqCpu #[.agg #[.bool x0, .int .i64 x1, .int .i64 x2, .int .i64 x3, .int .i64 x4], .agg #[.bool x01, .int .i64 x11, .int .i64 x21, .int .i64 x31, .int .i64 x41]] w (.bool eqCpu) ∧
    ((!eqCpu) = true →
    R (.bool false) w) ∧
    ((!eqCpu) = false →
    InR .i64 (i + 1) ∧
    xInv [.int .i64 (i + 1)] ∧ mu [.int .i64 (i + 1)] < mu [.int .i64 i]))))) ∧
    ((decide (i < ((aL : Nat) : Int))) = false →
    R (.bool true) w)))
theorem v_laws_eqCpuS (aO : Option Addr) (aL : Nat) (aC : Nat) (bO : Option Addr) (bL : Nat) (bC : Nat) (w : World) (R : Value → World → Prop) : evFn c_laws_eqCpuS s_laws_eqCpuS [.slice aO aL aC, .slice bO bL bC] (bodyOf Tryz.f30) Tryz.f30.results.toList w R = V_laws_eqCpuS aO aL aC bO bL bC w R := by kernel_rfl
theorem p_laws_eqCpuS (aO : Option Addr) (aL : Nat) (aC : Nat) (bO : Option Addr) (bL : Nat) (bC : Nat) {w : World} {bs : List Nat} {ret : Value} (hvc : ∀ wr0, ExtX bs w wr0 → V_laws_eqCpuS aO aL aC bO bL bC wr0 fun v0 _ => v0 = ret) : PureX bs Tryz.prog fn_laws_eqCpuS #[.slice aO aL aC, .slice bO bL bC] w ret :=
  pure_of_ev (C := c_laws_eqCpuS) (sps := s_laws_eqCpuS) (body := bodyOf Tryz.f30) (env _ _ _ _ _) Tryz.func30 rfl rfl (of_decide_eq_true (by kernel_rfl)) (of_decide_eq_true (by kernel_rfl)) rfl rfl fun wr0 hx0 => by rw [v_laws_eqCpuS]; exact hvc wr0 hx0
noncomputable def c_laws_eqTask : Cfg := { P := Tryz.prog, T := tblGet tbl, pf := pfT, ef := efT, tt := ttT, vis := [], n := 50, pm := true, wr := false }
noncomputable def s_laws_eqTask : List (Nat × LSpec) := []
def V_laws_eqTask (a0 : Int) (a1 : Int) (a2 : Int) (a3 : Int) (a4 : Int) (a5 : Int) (a6 : Int) (a7 : Int) (a8 : Int) (b0 : Int) (b1 : Int) (b2 : Int) (b3 : Int) (b4 : Int) (b5 : Int) (b6 : Int) (b7 : Int) (b8 : Int) (w : World) (R : Value → World → Prop) : Prop :=
    (∀ b, w.heap.size ≤ b →
    (∀ b9, w.heap.size ≤ b9 →
    ((a0 != b0) = true →
    R (.bool false) w) ∧
    ((a0 != b0) = false →
    ((a1 != b1) = true →
    R (.bool false) w) ∧
    ((a1 != b1) = false →
    ((a2 != b2) = true →
    R (.bool false) w) ∧
    ((a2 != b2) = false →
    ((a3 != b3) = true →
    R (.bool false) w) ∧
    ((a3 != b3) = false →
    ((a4 != b4) = true →
    R (.bool false) w) ∧
    ((a4 != b4) = false →
    ((a5 != b5) = true →
    R (.bool false) w) ∧
    ((a5 != b5) = false →
    ((a6 != b6) = true →
    R (.bool false) w) ∧
    ((a6 != b6) = false →
    ((a7 != b7) = true →
    R (.bool false) w) ∧
    ((a7 != b7) = false →
    ((a8 != b8) = true →
    R (.bool false) w) ∧
    ((a8 != b8) = false →
    R (.bool true) w)))))))))))
theorem v_laws_eqTask (a0 : Int) (a1 : Int) (a2 : Int) (a3 : Int) (a4 : Int) (a5 : Int) (a6 : Int) (a7 : Int) (a8 : Int) (b0 : Int) (b1 : Int) (b2 : Int) (b3 : Int) (b4 : Int) (b5 : Int) (b6 : Int) (b7 : Int) (b8 : Int) (w : World) (R : Value → World → Prop) : evFn c_laws_eqTask s_laws_eqTask [.agg #[.int .i64 a0, .int .i64 a1, .int .i64 a2, .int .i64 a3, .int .i64 a4, .int .i64 a5, .int .i64 a6, .int .i64 a7, .int .i64 a8], .agg #[.int .i64 b0, .int .i64 b1, .int .i64 b2, .int .i64 b3, .int .i64 b4, .int .i64 b5, .int .i64 b6, .int .i64 b7, .int .i64 b8]] (bodyOf Tryz.f61) Tryz.f61.results.toList w R = V_laws_eqTask a0 a1 a2 a3 a4 a5 a6 a7 a8 b0 b1 b2 b3 b4 b5 b6 b7 b8 w R := by kernel_rfl
theorem p_laws_eqTask (a0 : Int) (a1 : Int) (a2 : Int) (a3 : Int) (a4 : Int) (a5 : Int) (a6 : Int) (a7 : Int) (a8 : Int) (b0 : Int) (b1 : Int) (b2 : Int) (b3 : Int) (b4 : Int) (b5 : Int) (b6 : Int) (b7 : Int) (b8 : Int) {w : World} {bs : List Nat} {ret : Value} (hvc : ∀ wr0, ExtX bs w wr0 → V_laws_eqTask a0 a1 a2 a3 a4 a5 a6 a7 a8 b0 b1 b2 b3 b4 b5 b6 b7 b8 wr0 fun v0 _ => v0 = ret) : PureX bs Tryz.prog fn_laws_eqTask #[.agg #[.int .i64 a0, .int .i64 a1, .int .i64 a2, .int .i64 a3, .int .i64 a4, .int .i64 a5, .int .i64 a6, .int .i64 a7, .int .i64 a8], .agg #[.int .i64 b0, .int .i64 b1, .int .i64 b2, .int .i64 b3, .int .i64 b4, .int .i64 b5, .int .i64 b6, .int .i64 b7, .int .i64 b8]] w ret :=
  pure_of_ev (C := c_laws_eqTask) (sps := s_laws_eqTask) (body := bodyOf Tryz.f61) (env _ _ _ _ _) Tryz.func61 rfl rfl (of_decide_eq_true (by kernel_rfl)) (of_decide_eq_true (by kernel_rfl)) rfl rfl fun wr0 hx0 => by rw [v_laws_eqTask]; exact hvc wr0 hx0
noncomputable def c_laws_eqTaskS : Cfg := { P := Tryz.prog, T := tblGet tbl, pf := pfT, ef := efT, tt := ttT, vis := [], n := 27, pm := true, wr := false }
noncomputable def s_laws_eqTaskS : List (Nat × LSpec) := [(4, { chg := [(5, .int .i64)], chgL := [], keep := [0, 1] })]
end Go.Proofs.YtnofpcbjpcoghaaGreat
