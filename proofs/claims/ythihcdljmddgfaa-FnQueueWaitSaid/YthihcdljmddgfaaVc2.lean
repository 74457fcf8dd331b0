/- Printed by wip/tools/vc.py: what a function's text asks for. -/
import Derived.Test.YthihcdljmddgfaaTab
namespace Go.Proofs.Ythihcdljmddgfaa
open Go.RowKit
set_option linter.unusedVariables false
set_option maxRecDepth 100000
set_option maxHeartbeats 1600000
noncomputable def c_laws_eqEntryS : Cfg := { P := Try.prog, T := tblGet tbl, pf := pfT, ef := efT, tt := ttT, vis := [], n := 27, pm := true }
noncomputable def s_laws_eqEntryS : List (Nat × LSpec) := [(4, { chg := [(5, .int .i64)], chgL := [], keep := [0, 1] })]
def V_laws_eqEntryS (aO : Option Addr) (aL : Nat) (aC : Nat) (bO : Option Addr) (bL : Nat) (bC : Nat) (w : World) (R : Value → World → Prop) : Prop :=
    ((((aL : Nat) : Int) != ((bL : Nat) : Int)) = true →
    R (.bool false) w) ∧
    ((((aL : Nat) : Int) != ((bL : Nat) : Int)) = false →
    (∃ (xInv : List Value → Prop) (mu : List Value → Nat), xInv [.int .i64 0] ∧
    ∀ (i : Int), xInv [.int .i64 i] →
    ((decide (i < ((aL : Nat) : Int))) = true →
    Ix aO aL i ∧
    (∃ (x0 : Bool) (x1 : Int) (x2 : Int) (x3 : Int),
    CellsX [] w aO (Int.toNat i * 4) [.bool x0, .int .i64 x1, .int .i64 x2, .int .i64 x3] ∧
    Ix bO bL i ∧
    (∃ (x01 : Bool) (x11 : Int) (x21 : Int) (x31 : Int),
    CellsX [] w bO (Int.toNat i * 4) [.bool x01, .int .i64 x11, .int .i64 x21, .int .i64 x31] ∧
    (∃ (eqEntr : Bool),
    PureX [] Try.prog fn_laws_eqEntry #[.agg #[.bool x0, .int .i64 x1, .int .i64 x2, .int .i64 x3], .agg #[.bool x01, .int .i64 x11, .int .i64 x21, .int .i64 x31]] w (.bool eqEntr) ∧
    ((!eqEntr) = true →
    R (.bool false) w) ∧
    ((!eqEntr) = false →
    InR .i64 (i + 1) ∧
    xInv [.int .i64 (i + 1)] ∧ mu [.int .i64 (i + 1)] < mu [.int .i64 i]))))) ∧
    ((decide (i < ((aL : Nat) : Int))) = false →
    R (.bool true) w)))
theorem v_laws_eqEntryS (aO : Option Addr) (aL : Nat) (aC : Nat) (bO : Option Addr) (bL : Nat) (bC : Nat) (w : World) (R : Value → World → Prop) : evFn c_laws_eqEntryS s_laws_eqEntryS [.slice aO aL aC, .slice bO bL bC] (bodyOf Try.f71) Try.f71.results.toList w R = V_laws_eqEntryS aO aL aC bO bL bC w R := by kernel_rfl
theorem p_laws_eqEntryS (aO : Option Addr) (aL : Nat) (aC : Nat) (bO : Option Addr) (bL : Nat) (bC : Nat) {w : World} {bs : List Nat} {ret : Value} (hvc : ∀ wr0, ExtX bs w wr0 → V_laws_eqEntryS aO aL aC bO bL bC wr0 fun v0 _ => v0 = ret) : PureX bs Try.prog fn_laws_eqEntryS #[.slice aO aL aC, .slice bO bL bC] w ret :=
  pure_of_ev (C := c_laws_eqEntryS) (sps := s_laws_eqEntryS) (body := bodyOf Try.f71) (env _ _ _) Try.func71 rfl rfl (of_decide_eq_true (by kernel_rfl)) (of_decide_eq_true (by kernel_rfl)) rfl fun wr0 hx0 => by rw [v_laws_eqEntryS]; exact hvc wr0 hx0
noncomputable def c_laws_eqQueue : Cfg := { P := Try.prog, T := tblGet tbl, pf := pfT, ef := efT, tt := ttT, vis := [], n := 26, pm := true }
noncomputable def s_laws_eqQueue : List (Nat × LSpec) := []
def V_laws_eqQueue (a0 : Int) (a1 : Int) (a2 : Int) (a3O : Option Addr) (a3L : Nat) (a3C : Nat) (b0 : Int) (b1 : Int) (b2 : Int) (b3O : Option Addr) (b3L : Nat) (b3C : Nat) (w : World) (R : Value → World → Prop) : Prop :=
    (∀ b, w.heap.size ≤ b →
    (∀ b4, w.heap.size ≤ b4 →
    ((a0 != b0) = true →
    R (.bool false) w) ∧
    ((a0 != b0) = false →
    ((a1 != b1) = true →
    R (.bool false) w) ∧
    ((a1 != b1) = false →
    ((a2 != b2) = true →
    R (.bool false) w) ∧
    ((a2 != b2) = false →
    (∃ (eqEntr : Bool),
    PureX [] Try.prog fn_laws_eqEntryS #[.slice a3O a3L a3C, .slice b3O b3L b3C] w (.bool eqEntr) ∧
    ((!eqEntr) = true →
    R (.bool false) w) ∧
    ((!eqEntr) = false →
    R (.bool true) w)))))))
theorem v_laws_eqQueue (a0 : Int) (a1 : Int) (a2 : Int) (a3O : Option Addr) (a3L : Nat) (a3C : Nat) (b0 : Int) (b1 : Int) (b2 : Int) (b3O : Option Addr) (b3L : Nat) (b3C : Nat) (w : World) (R : Value → World → Prop) : evFn c_laws_eqQueue s_laws_eqQueue [.agg #[.int .i64 a0, .int .i64 a1, .int .i64 a2, .slice a3O a3L a3C], .agg #[.int .i64 b0, .int .i64 b1, .int .i64 b2, .slice b3O b3L b3C]] (bodyOf Try.f24) Try.f24.results.toList w R = V_laws_eqQueue a0 a1 a2 a3O a3L a3C b0 b1 b2 b3O b3L b3C w R := by kernel_rfl
theorem p_laws_eqQueue (a0 : Int) (a1 : Int) (a2 : Int) (a3O : Option Addr) (a3L : Nat) (a3C : Nat) (b0 : Int) (b1 : Int) (b2 : Int) (b3O : Option Addr) (b3L : Nat) (b3C : Nat) {w : World} {bs : List Nat} {ret : Value} (hvc : ∀ wr0, ExtX bs w wr0 → V_laws_eqQueue a0 a1 a2 a3O a3L a3C b0 b1 b2 b3O b3L b3C wr0 fun v0 _ => v0 = ret) : PureX bs Try.prog fn_laws_eqQueue #[.agg #[.int .i64 a0, .int .i64 a1, .int .i64 a2, .slice a3O a3L a3C], .agg #[.int .i64 b0, .int .i64 b1, .int .i64 b2, .slice b3O b3L b3C]] w ret :=
  pure_of_ev (C := c_laws_eqQueue) (sps := s_laws_eqQueue) (body := bodyOf Try.f24) (env _ _ _) Try.func24 rfl rfl (of_decide_eq_true (by kernel_rfl)) (of_decide_eq_true (by kernel_rfl)) rfl fun wr0 hx0 => by rw [v_laws_eqQueue]; exact hvc wr0 hx0
noncomputable def c_laws_markEntryS : Cfg := { P := Try.prog, T := tblGet tbl, pf := pfT, ef := efT, tt := ttT, vis := [], n := 43, pm := false }
noncomputable def s_laws_markEntryS : List (Nat × LSpec) := [(2, { chg := [(1, .int .i64), (5, .int .i64)], chgL := [], keep := [0] })]
def V_laws_markEntryS (aO : Option Addr) (aL : Nat) (aC : Nat) (k : Int) (w : World) (R : Value → World → Prop) : Prop :=
    (∃ (xInv : List Value → World → Prop) (mu : List Value → World → Nat), (∀ wr, ExtX [] w wr → (∀ bq ∈ ([] : List Nat), bq < wr.heap.size) → xInv [.int .i64 k, .int .i64 0] wr) ∧
    ∀ (k1 : Int) (i : Int) wv, (∀ bq ∈ ([] : List Nat), bq < wv.heap.size) → xInv [.int .i64 k1, .int .i64 i] wv →
    ((decide (i < ((aL : Nat) : Int))) = true →
    (3 : Int) ≠ 0 ∧
    Ix aO aL i ∧
    WrX [] wv aO (Int.toNat i * 4 + 0) 1 ∧
    InR .i64 (k1 + 1) ∧
    Ix aO aL i ∧
    WrX [] (sto wv aO (Int.toNat i * 4 + 0) [.bool ((Int.tmod k1 3) == 0)]) aO (Int.toNat i * 4 + 1) 1 ∧
    InR .i64 ((k1 + 1) + 1) ∧
    Ix aO aL i ∧
    WrX [] (sto (sto wv aO (Int.toNat i * 4 + 0) [.bool ((Int.tmod k1 3) == 0)]) aO (Int.toNat i * 4 + 1) [.int .i64 (k1 + 1)]) aO (Int.toNat i * 4 + 2) 1 ∧
    InR .i64 (((k1 + 1) + 1) + 1) ∧
    Ix aO aL i ∧
    WrX [] (sto (sto (sto wv aO (Int.toNat i * 4 + 0) [.bool ((Int.tmod k1 3) == 0)]) aO (Int.toNat i * 4 + 1) [.int .i64 (k1 + 1)]) aO (Int.toNat i * 4 + 2) [.int .i64 ((k1 + 1) + 1)]) aO (Int.toNat i * 4 + 3) 1 ∧
    InR .i64 ((((k1 + 1) + 1) + 1) + 1) ∧
    InR .i64 (i + 1) ∧
    (∀ wr1, ExtX [] (sto (sto (sto (sto wv aO (Int.toNat i * 4 + 0) [.bool ((Int.tmod k1 3) == 0)]) aO (Int.toNat i * 4 + 1) [.int .i64 (k1 + 1)]) aO (Int.toNat i * 4 + 2) [.int .i64 ((k1 + 1) + 1)]) aO (Int.toNat i * 4 + 3) [.int .i64 (((k1 + 1) + 1) + 1)]) wr1 → (∀ bq ∈ ([] : List Nat), bq < wr1.heap.size) → xInv [.int .i64 ((((k1 + 1) + 1) + 1) + 1), .int .i64 (i + 1)] wr1 ∧ mu [.int .i64 ((((k1 + 1) + 1) + 1) + 1), .int .i64 (i + 1)] wr1 < mu [.int .i64 k1, .int .i64 i] wv)) ∧
    ((decide (i < ((aL : Nat) : Int))) = false →
    (∀ wr2, ExtX [] wv wr2 → R (.int .i64 k1) wr2)))
theorem v_laws_markEntryS (aO : Option Addr) (aL : Nat) (aC : Nat) (k : Int) (w : World) (R : Value → World → Prop) : evFn c_laws_markEntryS s_laws_markEntryS [.slice aO aL aC, .int .i64 k] (bodyOf Try.f72) Try.f72.results.toList w R = V_laws_markEntryS aO aL aC k w R := by kernel_rfl
theorem e_laws_markEntryS (aO : Option Addr) (aL : Nat) (aC : Nat) (k : Int) {w : World} {R : Value → World → Prop} (hvc : V_laws_markEntryS aO aL aC k w R) : Calls Try.prog fn_laws_markEntryS #[.slice aO aL aC, .int .i64 k] w fun e0 wr0 => ∃ v0, e0 = .returned v0 ∧ R v0 wr0 :=
  eff_of_ev (C := c_laws_markEntryS) (sps := s_laws_markEntryS) (body := bodyOf Try.f72) (env _ _ _) Try.func72 rfl rfl (of_decide_eq_true (by kernel_rfl)) (of_decide_eq_true (by kernel_rfl)) rfl (by rw [v_laws_markEntryS]; exact hvc)
noncomputable def c_laws_markQueue : Cfg := { P := Try.prog, T := tblGet tbl, pf := pfT, ef := efT, tt := ttT, vis := [], n := 10, pm := false }
noncomputable def s_laws_markQueue : List (Nat × LSpec) := []
def V_laws_markQueue (a0 : Int) (a1 : Int) (a2 : Int) (a3O : Option Addr) (a3L : Nat) (a3C : Nat) (k : Int) (w : World) (R : Value → World → Prop) : Prop :=
    (∀ b, w.heap.size ≤ b →
    (∀ wr, ExtX [] w wr → (∀ bq ∈ ([b] : List Nat), bq < wr.heap.size) → 
    Calls Try.prog fn_laws_markEntryS #[.slice a3O a3L a3C, .int .i64 k] wr fun e wv =>
    (∃ (markEn : Int),
    e = .returned (.int .i64 markEn) ∧ Kept [b] wr wv ∧
    (∀ wr1, ExtX [b] wv wr1 → R (.int .i64 markEn) wr1))))
theorem v_laws_markQueue (a0 : Int) (a1 : Int) (a2 : Int) (a3O : Option Addr) (a3L : Nat) (a3C : Nat) (k : Int) (w : World) (R : Value → World → Prop) : evFn c_laws_markQueue s_laws_markQueue [.agg #[.int .i64 a0, .int .i64 a1, .int .i64 a2, .slice a3O a3L a3C], .int .i64 k] (bodyOf Try.f25) Try.f25.results.toList w R = V_laws_markQueue a0 a1 a2 a3O a3L a3C k w R := by kernel_rfl
theorem e_laws_markQueue (a0 : Int) (a1 : Int) (a2 : Int) (a3O : Option Addr) (a3L : Nat) (a3C : Nat) (k : Int) {w : World} {R : Value → World → Prop} (hvc : V_laws_markQueue a0 a1 a2 a3O a3L a3C k w R) : Calls Try.prog fn_laws_markQueue #[.agg #[.int .i64 a0, .int .i64 a1, .int .i64 a2, .slice a3O a3L a3C], .int .i64 k] w fun e0 wr0 => ∃ v0, e0 = .returned v0 ∧ R v0 wr0 :=
  eff_of_ev (C := c_laws_markQueue) (sps := s_laws_markQueue) (body := bodyOf Try.f25) (env _ _ _) Try.func25 rfl rfl (of_decide_eq_true (by kernel_rfl)) (of_decide_eq_true (by kernel_rfl)) rfl (by rw [v_laws_markQueue]; exact hvc)
noncomputable def c_laws_heldEntryS : Cfg := { P := Try.prog, T := tblGet tbl, pf := pfT, ef := efT, tt := ttT, vis := [], n := 51, pm := true }
noncomputable def s_laws_heldEntryS : List (Nat × LSpec) := [(2, { chg := [(1, .int .i64), (5, .int .i64)], chgL := [], keep := [0] })]
def V_laws_heldEntryS (aO : Option Addr) (aL : Nat) (aC : Nat) (k : Int) (w : World) (R : Value → World → Prop) : Prop :=
    (∃ (xInv : List Value → Prop) (mu : List Value → Nat), xInv [.int .i64 k, .int .i64 0] ∧
    ∀ (k1 : Int) (i : Int), xInv [.int .i64 k1, .int .i64 i] →
    ((decide (i < ((aL : Nat) : Int))) = true →
    Ix aO aL i ∧
    (∃ (onv : Bool),
    CellsX [] w aO (Int.toNat i * 4 + 0) [.bool onv] ∧
    (3 : Int) ≠ 0 ∧
    ((!(onv == ((Int.tmod k1 3) == 0))) = true →
    R (.int .i64 (-1)) w) ∧
    ((!(onv == ((Int.tmod k1 3) == 0))) = false →
    InR .i64 (k1 + 1) ∧
    Ix aO aL i ∧
    (∃ (v : Int),
    CellsX [] w aO (Int.toNat i * 4 + 1) [.int .i64 v] ∧
    ((v != (k1 + 1)) = true →
    R (.int .i64 (-1)) w) ∧
    ((v != (k1 + 1)) = false →
    InR .i64 ((k1 + 1) + 1) ∧
    Ix aO aL i ∧
    (∃ (wv : Int),
    CellsX [] w aO (Int.toNat i * 4 + 2) [.int .i64 wv] ∧
    ((wv != ((k1 + 1) + 1)) = true →
    R (.int .i64 (-1)) w) ∧
    ((wv != ((k1 + 1) + 1)) = false →
    InR .i64 (((k1 + 1) + 1) + 1) ∧
    Ix aO aL i ∧
    (∃ (sum : Int),
    CellsX [] w aO (Int.toNat i * 4 + 3) [.int .i64 sum] ∧
    ((sum != (((k1 + 1) + 1) + 1)) = true →
    R (.int .i64 (-1)) w) ∧
    ((sum != (((k1 + 1) + 1) + 1)) = false →
    InR .i64 ((((k1 + 1) + 1) + 1) + 1) ∧
    InR .i64 (i + 1) ∧
    xInv [.int .i64 ((((k1 + 1) + 1) + 1) + 1), .int .i64 (i + 1)] ∧ mu [.int .i64 ((((k1 + 1) + 1) + 1) + 1), .int .i64 (i + 1)] < mu [.int .i64 k1, .int .i64 i]))))))))) ∧
    ((decide (i < ((aL : Nat) : Int))) = false →
    R (.int .i64 k1) w))
theorem v_laws_heldEntryS (aO : Option Addr) (aL : Nat) (aC : Nat) (k : Int) (w : World) (R : Value → World → Prop) : evFn c_laws_heldEntryS s_laws_heldEntryS [.slice aO aL aC, .int .i64 k] (bodyOf Try.f73) Try.f73.results.toList w R = V_laws_heldEntryS aO aL aC k w R := by kernel_rfl
theorem p_laws_heldEntryS (aO : Option Addr) (aL : Nat) (aC : Nat) (k : Int) {w : World} {bs : List Nat} {ret : Value} (hvc : ∀ wr0, ExtX bs w wr0 → V_laws_heldEntryS aO aL aC k wr0 fun v0 _ => v0 = ret) : PureX bs Try.prog fn_laws_heldEntryS #[.slice aO aL aC, .int .i64 k] w ret :=
  pure_of_ev (C := c_laws_heldEntryS) (sps := s_laws_heldEntryS) (body := bodyOf Try.f73) (env _ _ _) Try.func73 rfl rfl (of_decide_eq_true (by kernel_rfl)) (of_decide_eq_true (by kernel_rfl)) rfl fun wr0 hx0 => by rw [v_laws_heldEntryS]; exact hvc wr0 hx0
noncomputable def c_laws_heldQueue : Cfg := { P := Try.prog, T := tblGet tbl, pf := pfT, ef := efT, tt := ttT, vis := [], n := 12, pm := true }
noncomputable def s_laws_heldQueue : List (Nat × LSpec) := []
def V_laws_heldQueue (a0 : Int) (a1 : Int) (a2 : Int) (a3O : Option Addr) (a3L : Nat) (a3C : Nat) (k : Int) (w : World) (R : Value → World → Prop) : Prop :=
    (∀ b, w.heap.size ≤ b →
    (∃ (heldEn : Int),
    PureX [] Try.prog fn_laws_heldEntryS #[.slice a3O a3L a3C, .int .i64 k] w (.int .i64 heldEn) ∧
    ((decide (heldEn < 0)) = true →
    R (.int .i64 (-1)) w) ∧
    ((decide (heldEn < 0)) = false →
    R (.int .i64 heldEn) w)))
theorem v_laws_heldQueue (a0 : Int) (a1 : Int) (a2 : Int) (a3O : Option Addr) (a3L : Nat) (a3C : Nat) (k : Int) (w : World) (R : Value → World → Prop) : evFn c_laws_heldQueue s_laws_heldQueue [.agg #[.int .i64 a0, .int .i64 a1, .int .i64 a2, .slice a3O a3L a3C], .int .i64 k] (bodyOf Try.f26) Try.f26.results.toList w R = V_laws_heldQueue a0 a1 a2 a3O a3L a3C k w R := by kernel_rfl
theorem p_laws_heldQueue (a0 : Int) (a1 : Int) (a2 : Int) (a3O : Option Addr) (a3L : Nat) (a3C : Nat) (k : Int) {w : World} {bs : List Nat} {ret : Value} (hvc : ∀ wr0, ExtX bs w wr0 → V_laws_heldQueue a0 a1 a2 a3O a3L a3C k wr0 fun v0 _ => v0 = ret) : PureX bs Try.prog fn_laws_heldQueue #[.agg #[.int .i64 a0, .int .i64 a1, .int .i64 a2, .slice a3O a3L a3C], .int .i64 k] w ret :=
  pure_of_ev (C := c_laws_heldQueue) (sps := s_laws_heldQueue) (body := bodyOf Try.f26) (env _ _ _) Try.func26 rfl rfl (of_decide_eq_true (by kernel_rfl)) (of_decide_eq_true (by kernel_rfl)) rfl fun wr0 hx0 => by rw [v_laws_heldQueue]; exact hvc wr0 hx0
noncomputable def c_laws_FnExactQueueDo : Cfg := { P := Try.prog, T := tblGet tbl, pf := pfT, ef := efT, tt := ttT, vis := [], n := 104, pm := false }
noncomputable def s_laws_FnExactQueueDo : List (Nat × LSpec) := [(1000006, { chg := [(7, .bool)], chgL := [], keep := [2, 3], newL := [(ty_impl_Queue, [.int .i64, .int .i64, .int .i64, .slice])], ptr := [(6, 0)] }), (1000008, { chg := [(10, .bool)], chgL := [], keep := [2, 3, 6, 7, 8], newL := [(ty_impl_Queue, [.int .i64, .int .i64, .int .i64, .slice])], ptr := [(9, 0)] }), (1000025, { chg := [(15, .bool)], chgL := [], keep := [6, 7, 9, 12], newL := [(ty_impl_Queue, [.int .i64, .int .i64, .int .i64, .slice])], ptr := [(14, 0)] })]
def V_laws_FnExactQueueDo (aQ0 : Int) (aQ1 : Int) (aQ2 : Int) (aQ3O : Option Addr) (aQ3L : Nat) (aQ3C : Nat) (aOp0 : Int) (aOp1 : Int) (aOp2 : Int) (w : World) (R : Value → World → Prop) : Prop :=
    (∀ b, w.heap.size ≤ b →
    (∀ b1, w.heap.size ≤ b1 →
    (∃ (szQueu : Int),
    PureX [] Try.prog fn_laws_szQueue #[.agg #[.int .i64 aQ0, .int .i64 aQ1, .int .i64 aQ2, .slice aQ3O aQ3L aQ3C], .int .i64 1048576] w (.int .i64 szQueu) ∧
    ((decide (szQueu < 0)) = true →
    (∀ wr, ExtX [] w wr → R (.bool true) wr)) ∧
    ((decide (szQueu < 0)) = false →
    (∃ (Mid : List Value → List Nat → World → Prop),
    (((∀ wr1, ExtX [] w wr1 → (∀ bq ∈ ([b, b1] : List Nat), bq < wr1.heap.size) → 
    Calls Try.prog fn_laws_toQueue #[.agg #[.int .i64 aQ0, .int .i64 aQ1, .int .i64 aQ2, .slice aQ3O aQ3L aQ3C]] wr1 fun e wv =>
    (∃ (toQueu : Int) (toQueu1 : Int) (toQueu2 : Int) (toQueu3O : Option Addr) (toQueu3L : Nat) (toQueu3C : Nat),
    e = .returned (.agg #[.int .i64 toQueu, .int .i64 toQueu1, .int .i64 toQueu2, .slice toQueu3O toQueu3L toQueu3C]) ∧ Kept [b, b1] wr1 wv ∧
    (some (ty_laws_QueueOp, ([.int .i64 aOp0, .int .i64 aOp1, .int .i64 aOp2] : List Value)) = some (ty_laws_QueueOp, ([.int .i64 aOp0, .int .i64 aOp1, .int .i64 aOp2] : List Value))) ∧
    (∃ (toQueu4 : Int) (toQueu5 : Int) (toQueu6 : Int),
    PureX [b, b1] Try.prog fn_laws_toQueueOp #[.agg #[.int .i64 aOp0, .int .i64 aOp1, .int .i64 aOp2]] wv (.agg #[.int .i64 toQueu4, .int .i64 toQueu5, .int .i64 toQueu6]) ∧
    ((∀ wr2, ExtX [b, b1] wv wr2 → (∀ bq ∈ ([b, b1] : List Nat), bq < wr2.heap.size) → 
    Calls Try.prog fn_spec_QueueDo #[.agg #[.int .i64 toQueu, .int .i64 toQueu1, .int .i64 toQueu2, .slice toQueu3O toQueu3L toQueu3C], .agg #[.int .i64 toQueu4, .int .i64 toQueu5, .int .i64 toQueu6]] wr2 fun e1 wv1 =>
    (∃ (xQueueD : Int) (xQueueD1 : Int) (xQueueD2 : Int) (xQueueD3O : Option Addr) (xQueueD3L : Nat) (xQueueD3C : Nat) (xQueueD4 : Bool),
    e1 = .returned (.tuple #[.agg #[.int .i64 xQueueD, .int .i64 xQueueD1, .int .i64 xQueueD2, .slice xQueueD3O xQueueD3L xQueueD3C], .bool xQueueD4]) ∧ Kept [b, b1] wr2 wv1 ∧
    (∀ b2, wv1.heap.size ≤ b2 →
    PureX [b, b1] Try.prog fn_laws_toQueueOp #[.agg #[.int .i64 aOp0, .int .i64 aOp1, .int .i64 aOp2]] wv1 (.agg #[.int .i64 toQueu4, .int .i64 toQueu5, .int .i64 toQueu6]) ∧
    (some (ty_laws_QueueOp, ([.int .i64 aOp0, .int .i64 aOp1, .int .i64 aOp2] : List Value)) = some (ty_laws_QueueOp, ([.int .i64 aOp0, .int .i64 aOp1, .int .i64 aOp2] : List Value))) ∧
    (some (ty_laws_Queue, ([.int .i64 aQ0, .int .i64 aQ1, .int .i64 aQ2, .slice aQ3O aQ3L aQ3C] : List Value)) = some (ty_laws_Queue, ([.int .i64 aQ0, .int .i64 aQ1, .int .i64 aQ2, .slice aQ3O aQ3L aQ3C] : List Value))) ∧
    (∀ wr3, ExtX [b, b1] wv1 wr3 → (∀ bq ∈ ([b, b1, b2] : List Nat), bq < wr3.heap.size) → Mid [.bool xQueueD4, .int .i64 xQueueD, .int .i64 xQueueD1, .int .i64 xQueueD2, .slice xQueueD3O xQueueD3L xQueueD3C] [b2] wr3))))) ∧
    ((∀ b3, wv.heap.size ≤ b3 →
    PureX [b, b1] Try.prog fn_laws_toQueueOp #[.agg #[.int .i64 aOp0, .int .i64 aOp1, .int .i64 aOp2]] wv (.agg #[.int .i64 toQueu4, .int .i64 toQueu5, .int .i64 toQueu6]) ∧
    (some (ty_laws_QueueOp, ([.int .i64 aOp0, .int .i64 aOp1, .int .i64 aOp2] : List Value)) = some (ty_laws_QueueOp, ([.int .i64 aOp0, .int .i64 aOp1, .int .i64 aOp2] : List Value))) ∧
    (some (ty_laws_Queue, ([.int .i64 aQ0, .int .i64 aQ1, .int .i64 aQ2, .slice aQ3O aQ3L aQ3C] : List Value)) = some (ty_laws_Queue, ([.int .i64 aQ0, .int .i64 aQ1, .int .i64 aQ2, .slice aQ3O aQ3L aQ3C] : List Value))) ∧
    (∀ wr4, ExtX [b, b1] wv wr4 → (∀ bq ∈ ([b, b1, b3] : List Nat), bq < wr4.heap.size) → 
    Calls Try.prog fn_spec_QueueDo #[.agg #[.int .i64 toQueu, .int .i64 toQueu1, .int .i64 toQueu2, .slice toQueu3O toQueu3L toQueu3C], .agg #[.int .i64 toQueu4, .int .i64 toQueu5, .int .i64 toQueu6]] wr4 fun e2 wv2 =>
    (∃ (xQueueD5 : Int) (xQueueD6 : Int) (xQueueD7 : Int) (xQueueD8O : Option Addr) (xQueueD8L : Nat) (xQueueD8C : Nat) (xQueueD9 : Bool),
    e2 = .returned (.tuple #[.agg #[.int .i64 xQueueD5, .int .i64 xQueueD6, .int .i64 xQueueD7, .slice xQueueD8O xQueueD8L xQueueD8C], .bool xQueueD9]) ∧ Kept [b, b1, b3] wr4 wv2 ∧
    (∀ wr5, ExtX [b, b1, b3] wv2 wr5 → (∀ bq ∈ ([b, b1, b3] : List Nat), bq < wr5.heap.size) → Mid [.bool xQueueD9, .int .i64 xQueueD5, .int .i64 xQueueD6, .int .i64 xQueueD7, .slice xQueueD8O xQueueD8L xQueueD8C] [b3] wr5))))))))) ∧
    ((∀ b4, w.heap.size ≤ b4 →
    (some (ty_laws_QueueOp, ([.int .i64 aOp0, .int .i64 aOp1, .int .i64 aOp2] : List Value)) = some (ty_laws_QueueOp, ([.int .i64 aOp0, .int .i64 aOp1, .int .i64 aOp2] : List Value))) ∧
    (some (ty_laws_Queue, ([.int .i64 aQ0, .int .i64 aQ1, .int .i64 aQ2, .slice aQ3O aQ3L aQ3C] : List Value)) = some (ty_laws_Queue, ([.int .i64 aQ0, .int .i64 aQ1, .int .i64 aQ2, .slice aQ3O aQ3L aQ3C] : List Value))) ∧
    (∀ wr6, ExtX [] w wr6 → (∀ bq ∈ ([b, b1, b4] : List Nat), bq < wr6.heap.size) → 
    Calls Try.prog fn_laws_toQueue #[.agg #[.int .i64 aQ0, .int .i64 aQ1, .int .i64 aQ2, .slice aQ3O aQ3L aQ3C]] wr6 fun e3 wv3 =>
    (∃ (toQueu7 : Int) (toQueu8 : Int) (toQueu9 : Int) (toQueu10O : Option Addr) (toQueu10L : Nat) (toQueu10C : Nat),
    e3 = .returned (.agg #[.int .i64 toQueu7, .int .i64 toQueu8, .int .i64 toQueu9, .slice toQueu10O toQueu10L toQueu10C]) ∧ Kept [b, b1, b4] wr6 wv3 ∧
    (some (ty_laws_QueueOp, ([.int .i64 aOp0, .int .i64 aOp1, .int .i64 aOp2] : List Value)) = some (ty_laws_QueueOp, ([.int .i64 aOp0, .int .i64 aOp1, .int .i64 aOp2] : List Value))) ∧
    (∃ (toQueu11 : Int) (toQueu12 : Int) (toQueu13 : Int),
    PureX [b, b1, b4] Try.prog fn_laws_toQueueOp #[.agg #[.int .i64 aOp0, .int .i64 aOp1, .int .i64 aOp2]] wv3 (.agg #[.int .i64 toQueu11, .int .i64 toQueu12, .int .i64 toQueu13]) ∧
    (∀ wr7, ExtX [b, b1, b4] wv3 wr7 → (∀ bq ∈ ([b, b1, b4] : List Nat), bq < wr7.heap.size) → 
    Calls Try.prog fn_spec_QueueDo #[.agg #[.int .i64 toQueu7, .int .i64 toQueu8, .int .i64 toQueu9, .slice toQueu10O toQueu10L toQueu10C], .agg #[.int .i64 toQueu11, .int .i64 toQueu12, .int .i64 toQueu13]] wr7 fun e4 wv4 =>
    (∃ (xQueueD10 : Int) (xQueueD11 : Int) (xQueueD12 : Int) (xQueueD13O : Option Addr) (xQueueD13L : Nat) (xQueueD13C : Nat) (xQueueD14 : Bool),
    e4 = .returned (.tuple #[.agg #[.int .i64 xQueueD10, .int .i64 xQueueD11, .int .i64 xQueueD12, .slice xQueueD13O xQueueD13L xQueueD13C], .bool xQueueD14]) ∧ Kept [b, b1, b4] wr7 wv4 ∧
    (∀ wr8, ExtX [b, b1, b4] wv4 wr8 → (∀ bq ∈ ([b, b1, b4] : List Nat), bq < wr8.heap.size) → Mid [.bool xQueueD14, .int .i64 xQueueD10, .int .i64 xQueueD11, .int .i64 xQueueD12, .slice xQueueD13O xQueueD13L xQueueD13C] [b4] wr8))))))))) ∧
    (∀ (w1 : Bool) (l : Int) (l1 : Int) (l2 : Int) (l3O : Option Addr) (l3L : Nat) (l3C : Nat) (b5 : Nat) (wv5 : World), (∀ bq ∈ ([b, b1, b5] : List Nat), bq < wv5.heap.size) → Mid [.bool w1, .int .i64 l, .int .i64 l1, .int .i64 l2, .slice l3O l3L l3C] [b5] wv5 →
    (∀ wr9, ExtX [b, b1, b5] wv5 wr9 → (∀ bq ∈ ([b, b1, b5] : List Nat), bq < wr9.heap.size) → 
    Calls Try.prog fn_laws_toQueue #[.agg #[.int .i64 aQ0, .int .i64 aQ1, .int .i64 aQ2, .slice aQ3O aQ3L aQ3C]] wr9 fun e5 wv6 =>
    (∃ (toQueu14 : Int) (toQueu15 : Int) (toQueu16 : Int) (toQueu17O : Option Addr) (toQueu17L : Nat) (toQueu17C : Nat),
    e5 = .returned (.agg #[.int .i64 toQueu14, .int .i64 toQueu15, .int .i64 toQueu16, .slice toQueu17O toQueu17L toQueu17C]) ∧ Kept [b, b1, b5] wr9 wv6 ∧
    (∀ b6, wv6.heap.size ≤ b6 →
    (∃ (Mid1 : List Value → List Nat → World → Prop),
    ((∃ (toQueu18 : Int) (toQueu19 : Int) (toQueu20 : Int),
    PureX [b, b1, b5] Try.prog fn_laws_toQueueOp #[.agg #[.int .i64 aOp0, .int .i64 aOp1, .int .i64 aOp2]] wv6 (.agg #[.int .i64 toQueu18, .int .i64 toQueu19, .int .i64 toQueu20]) ∧
    ((∀ wr10, ExtX [b, b1, b5] wv6 wr10 → (∀ bq ∈ ([b, b1, b5, b6] : List Nat), bq < wr10.heap.size) → 
    Calls Try.prog fn_impl_QueueDo #[.agg #[.int .i64 toQueu14, .int .i64 toQueu15, .int .i64 toQueu16, .slice toQueu17O toQueu17L toQueu17C], .agg #[.int .i64 toQueu18, .int .i64 toQueu19, .int .i64 toQueu20]] wr10 fun e6 wv7 =>
    (∃ (xQueueD15 : Int) (xQueueD16 : Int) (xQueueD17 : Int) (xQueueD18O : Option Addr) (xQueueD18L : Nat) (xQueueD18C : Nat) (xQueueD19 : Bool),
    e6 = .returned (.tuple #[.agg #[.int .i64 xQueueD15, .int .i64 xQueueD16, .int .i64 xQueueD17, .slice xQueueD18O xQueueD18L xQueueD18C], .bool xQueueD19]) ∧ Kept [b, b1, b5, b6] wr10 wv7 ∧
    (∀ b7, wv7.heap.size ≤ b7 →
    PureX [b, b1, b5, b6] Try.prog fn_laws_toQueueOp #[.agg #[.int .i64 aOp0, .int .i64 aOp1, .int .i64 aOp2]] wv7 (.agg #[.int .i64 toQueu18, .int .i64 toQueu19, .int .i64 toQueu20]) ∧
    (some (ty_laws_QueueOp, ([.int .i64 aOp0, .int .i64 aOp1, .int .i64 aOp2] : List Value)) = some (ty_laws_QueueOp, ([.int .i64 aOp0, .int .i64 aOp1, .int .i64 aOp2] : List Value))) ∧
    (some (ty_impl_Queue, ([.int .i64 toQueu14, .int .i64 toQueu15, .int .i64 toQueu16, .slice toQueu17O toQueu17L toQueu17C] : List Value)) = some (ty_impl_Queue, ([.int .i64 toQueu14, .int .i64 toQueu15, .int .i64 toQueu16, .slice toQueu17O toQueu17L toQueu17C] : List Value))) ∧
    (∀ wr11, ExtX [b, b1, b5, b6] wv7 wr11 → (∀ bq ∈ ([b, b1, b5, b6, b7] : List Nat), bq < wr11.heap.size) → Mid1 [.bool xQueueD19, .int .i64 xQueueD15, .int .i64 xQueueD16, .int .i64 xQueueD17, .slice xQueueD18O xQueueD18L xQueueD18C] [b7] wr11))))) ∧
    ((∀ b8, wv6.heap.size ≤ b8 →
    PureX [b, b1, b5] Try.prog fn_laws_toQueueOp #[.agg #[.int .i64 aOp0, .int .i64 aOp1, .int .i64 aOp2]] wv6 (.agg #[.int .i64 toQueu18, .int .i64 toQueu19, .int .i64 toQueu20]) ∧
    (some (ty_laws_QueueOp, ([.int .i64 aOp0, .int .i64 aOp1, .int .i64 aOp2] : List Value)) = some (ty_laws_QueueOp, ([.int .i64 aOp0, .int .i64 aOp1, .int .i64 aOp2] : List Value))) ∧
    (some (ty_impl_Queue, ([.int .i64 toQueu14, .int .i64 toQueu15, .int .i64 toQueu16, .slice toQueu17O toQueu17L toQueu17C] : List Value)) = some (ty_impl_Queue, ([.int .i64 toQueu14, .int .i64 toQueu15, .int .i64 toQueu16, .slice toQueu17O toQueu17L toQueu17C] : List Value))) ∧
    (∀ wr12, ExtX [b, b1, b5] wv6 wr12 → (∀ bq ∈ ([b, b1, b5, b6, b8] : List Nat), bq < wr12.heap.size) → 
    Calls Try.prog fn_impl_QueueDo #[.agg #[.int .i64 toQueu14, .int .i64 toQueu15, .int .i64 toQueu16, .slice toQueu17O toQueu17L toQueu17C], .agg #[.int .i64 toQueu18, .int .i64 toQueu19, .int .i64 toQueu20]] wr12 fun e7 wv8 =>
    (∃ (xQueueD20 : Int) (xQueueD21 : Int) (xQueueD22 : Int) (xQueueD23O : Option Addr) (xQueueD23L : Nat) (xQueueD23C : Nat) (xQueueD24 : Bool),
    e7 = .returned (.tuple #[.agg #[.int .i64 xQueueD20, .int .i64 xQueueD21, .int .i64 xQueueD22, .slice xQueueD23O xQueueD23L xQueueD23C], .bool xQueueD24]) ∧ Kept [b, b1, b5, b6, b8] wr12 wv8 ∧
    (∀ wr13, ExtX [b, b1, b5, b6, b8] wv8 wr13 → (∀ bq ∈ ([b, b1, b5, b6, b8] : List Nat), bq < wr13.heap.size) → Mid1 [.bool xQueueD24, .int .i64 xQueueD20, .int .i64 xQueueD21, .int .i64 xQueueD22, .slice xQueueD23O xQueueD23L xQueueD23C] [b8] wr13))))))) ∧
    (∀ (g1 : Bool) (l4 : Int) (l5 : Int) (l6 : Int) (l7O : Option Addr) (l7L : Nat) (l7C : Nat) (b9 : Nat) (wv9 : World), (∀ bq ∈ ([b, b1, b5, b6, b9] : List Nat), bq < wv9.heap.size) → Mid1 [.bool g1, .int .i64 l4, .int .i64 l5, .int .i64 l6, .slice l7O l7L l7C] [b9] wv9 →
    (∃ (eqQueu : Bool),
    PureX [b, b1, b5, b6, b9] Try.prog fn_laws_eqQueue #[.agg #[.int .i64 l4, .int .i64 l5, .int .i64 l6, .slice l7O l7L l7C], .agg #[.int .i64 l, .int .i64 l1, .int .i64 l2, .slice l3O l3L l3C]] wv9 (.bool eqQueu) ∧
    (((!eqQueu) || (!(g1 == w1))) = true →
    (∀ wr14, ExtX [b, b1, b5, b6, b9] wv9 wr14 → R (.bool false) wr14)) ∧
    (((!eqQueu) || (!(g1 == w1))) = false →
    (∀ wr15, ExtX [b, b1, b5, b6, b9] wv9 wr15 → (∀ bq ∈ ([b, b1, b5, b6, b9] : List Nat), bq < wr15.heap.size) → 
    Calls Try.prog fn_laws_toQueue #[.agg #[.int .i64 aQ0, .int .i64 aQ1, .int .i64 aQ2, .slice aQ3O aQ3L aQ3C]] wr15 fun e8 wv10 =>
    (∃ (toQueu21 : Int) (toQueu22 : Int) (toQueu23 : Int) (toQueu24O : Option Addr) (toQueu24L : Nat) (toQueu24C : Nat),
    e8 = .returned (.agg #[.int .i64 toQueu21, .int .i64 toQueu22, .int .i64 toQueu23, .slice toQueu24O toQueu24L toQueu24C]) ∧ Kept [b, b1, b5, b6, b9] wr15 wv10 ∧
    (some (ty_impl_Queue, ([.int .i64 toQueu14, .int .i64 toQueu15, .int .i64 toQueu16, .slice toQueu17O toQueu17L toQueu17C] : List Value)) = some (ty_impl_Queue, ([.int .i64 toQueu14, .int .i64 toQueu15, .int .i64 toQueu16, .slice toQueu17O toQueu17L toQueu17C] : List Value))) ∧
    (∃ (eqQueu1 : Bool),
    PureX [b, b1, b5, b6, b9] Try.prog fn_laws_eqQueue #[.agg #[.int .i64 toQueu14, .int .i64 toQueu15, .int .i64 toQueu16, .slice toQueu17O toQueu17L toQueu17C], .agg #[.int .i64 toQueu21, .int .i64 toQueu22, .int .i64 toQueu23, .slice toQueu24O toQueu24L toQueu24C]] wv10 (.bool eqQueu1) ∧
    ((!eqQueu1) = true →
    (∀ wr16, ExtX [b, b1, b5, b6, b9] wv10 wr16 → R (.bool false) wr16)) ∧
    ((!eqQueu1) = false →
    (∀ wr17, ExtX [b, b1, b5, b6, b9] wv10 wr17 → (∀ bq ∈ ([b, b1, b5, b6, b9] : List Nat), bq < wr17.heap.size) → 
    Calls Try.prog fn_laws_markQueue #[.agg #[.int .i64 toQueu14, .int .i64 toQueu15, .int .i64 toQueu16, .slice toQueu17O toQueu17L toQueu17C], .int .i64 1] wr17 fun e9 wv11 =>
    (∃ (markQu : Int),
    e9 = .returned (.int .i64 markQu) ∧ Kept [b, b1, b5, b6, b9] wr17 wv11 ∧
    (∃ (eqQueu2 : Bool),
    ((decide (markQu < 0)) = false → PureX [b, b1, b5, b6, b9] Try.prog fn_laws_eqQueue #[.agg #[.int .i64 l4, .int .i64 l5, .int .i64 l6, .slice l7O l7L l7C], .agg #[.int .i64 l, .int .i64 l1, .int .i64 l2, .slice l3O l3L l3C]] wv11 (.bool eqQueu2)) ∧
    ((((decide (markQu < 0)) || (!eqQueu2)) || (!(g1 == w1))) = true →
    (∀ wr18, ExtX [b, b1, b5, b6, b9] wv11 wr18 → R (.bool false) wr18)) ∧
    ((((decide (markQu < 0)) || (!eqQueu2)) || (!(g1 == w1))) = false →
    (∀ wr19, ExtX [b, b1, b5, b6, b9] wv11 wr19 → (∀ bq ∈ ([b, b1, b5, b6, b9] : List Nat), bq < wr19.heap.size) → 
    Calls Try.prog fn_laws_markQueue #[.agg #[.int .i64 l4, .int .i64 l5, .int .i64 l6, .slice l7O l7L l7C], .int .i64 1] wr19 fun e10 wv12 =>
    (∃ (markQu1 : Int),
    e10 = .returned (.int .i64 markQu1) ∧ Kept [b, b1, b5, b6, b9] wr19 wv12 ∧
    (∃ (heldQu : Int),
    PureX [b, b1, b5, b6, b9] Try.prog fn_laws_heldQueue #[.agg #[.int .i64 l4, .int .i64 l5, .int .i64 l6, .slice l7O l7L l7C], .int .i64 1] wv12 (.int .i64 heldQu) ∧
    ((decide (heldQu < 0)) = true →
    (∀ wr20, ExtX [b, b1, b5, b6, b9] wv12 wr20 → R (.bool false) wr20)) ∧
    ((decide (heldQu < 0)) = false →
    ((heldQu != markQu1) = true →
    (∀ wr21, ExtX [b, b1, b5, b6, b9] wv12 wr21 → R (.bool false) wr21)) ∧
    ((heldQu != markQu1) = false →
    (∃ (Mid2 : List Value → List Nat → World → Prop),
    (((∀ wr22, ExtX [b, b1, b5, b6, b9] wv12 wr22 → (∀ bq ∈ ([b, b1, b5, b6, b9] : List Nat), bq < wr22.heap.size) → 
    Calls Try.prog fn_laws_toQueue #[.agg #[.int .i64 aQ0, .int .i64 aQ1, .int .i64 aQ2, .slice aQ3O aQ3L aQ3C]] wr22 fun e11 wv13 =>
    (∃ (toQueu25 : Int) (toQueu26 : Int) (toQueu27 : Int) (toQueu28O : Option Addr) (toQueu28L : Nat) (toQueu28C : Nat),
    e11 = .returned (.agg #[.int .i64 toQueu25, .int .i64 toQueu26, .int .i64 toQueu27, .slice toQueu28O toQueu28L toQueu28C]) ∧ Kept [b, b1, b5, b6, b9] wr22 wv13 ∧
    (some (ty_laws_QueueOp, ([.int .i64 aOp0, .int .i64 aOp1, .int .i64 aOp2] : List Value)) = some (ty_laws_QueueOp, ([.int .i64 aOp0, .int .i64 aOp1, .int .i64 aOp2] : List Value))) ∧
    (∃ (toQueu29 : Int) (toQueu30 : Int) (toQueu31 : Int),
    PureX [b, b1, b5, b6, b9] Try.prog fn_laws_toQueueOp #[.agg #[.int .i64 aOp0, .int .i64 aOp1, .int .i64 aOp2]] wv13 (.agg #[.int .i64 toQueu29, .int .i64 toQueu30, .int .i64 toQueu31]) ∧
    ((∀ wr23, ExtX [b, b1, b5, b6, b9] wv13 wr23 → (∀ bq ∈ ([b, b1, b5, b6, b9] : List Nat), bq < wr23.heap.size) → 
    Calls Try.prog fn_impl_QueueDo #[.agg #[.int .i64 toQueu25, .int .i64 toQueu26, .int .i64 toQueu27, .slice toQueu28O toQueu28L toQueu28C], .agg #[.int .i64 toQueu29, .int .i64 toQueu30, .int .i64 toQueu31]] wr23 fun e12 wv14 =>
    (∃ (xQueueD25 : Int) (xQueueD26 : Int) (xQueueD27 : Int) (xQueueD28O : Option Addr) (xQueueD28L : Nat) (xQueueD28C : Nat) (xQueueD29 : Bool),
    e12 = .returned (.tuple #[.agg #[.int .i64 xQueueD25, .int .i64 xQueueD26, .int .i64 xQueueD27, .slice xQueueD28O xQueueD28L xQueueD28C], .bool xQueueD29]) ∧ Kept [b, b1, b5, b6, b9] wr23 wv14 ∧
    (∀ b10, wv14.heap.size ≤ b10 →
    PureX [b, b1, b5, b6, b9] Try.prog fn_laws_toQueueOp #[.agg #[.int .i64 aOp0, .int .i64 aOp1, .int .i64 aOp2]] wv14 (.agg #[.int .i64 toQueu29, .int .i64 toQueu30, .int .i64 toQueu31]) ∧
    (some (ty_laws_QueueOp, ([.int .i64 aOp0, .int .i64 aOp1, .int .i64 aOp2] : List Value)) = some (ty_laws_QueueOp, ([.int .i64 aOp0, .int .i64 aOp1, .int .i64 aOp2] : List Value))) ∧
    (some (ty_laws_Queue, ([.int .i64 aQ0, .int .i64 aQ1, .int .i64 aQ2, .slice aQ3O aQ3L aQ3C] : List Value)) = some (ty_laws_Queue, ([.int .i64 aQ0, .int .i64 aQ1, .int .i64 aQ2, .slice aQ3O aQ3L aQ3C] : List Value))) ∧
    (∀ wr24, ExtX [b, b1, b5, b6, b9] wv14 wr24 → (∀ bq ∈ ([b, b1, b5, b6, b9, b10] : List Nat), bq < wr24.heap.size) → Mid2 [.bool xQueueD29, .int .i64 xQueueD25, .int .i64 xQueueD26, .int .i64 xQueueD27, .slice xQueueD28O xQueueD28L xQueueD28C] [b10] wr24))))) ∧
    ((∀ b11, wv13.heap.size ≤ b11 →
    PureX [b, b1, b5, b6, b9] Try.prog fn_laws_toQueueOp #[.agg #[.int .i64 aOp0, .int .i64 aOp1, .int .i64 aOp2]] wv13 (.agg #[.int .i64 toQueu29, .int .i64 toQueu30, .int .i64 toQueu31]) ∧
    (some (ty_laws_QueueOp, ([.int .i64 aOp0, .int .i64 aOp1, .int .i64 aOp2] : List Value)) = some (ty_laws_QueueOp, ([.int .i64 aOp0, .int .i64 aOp1, .int .i64 aOp2] : List Value))) ∧
    (some (ty_laws_Queue, ([.int .i64 aQ0, .int .i64 aQ1, .int .i64 aQ2, .slice aQ3O aQ3L aQ3C] : List Value)) = some (ty_laws_Queue, ([.int .i64 aQ0, .int .i64 aQ1, .int .i64 aQ2, .slice aQ3O aQ3L aQ3C] : List Value))) ∧
    (∀ wr25, ExtX [b, b1, b5, b6, b9] wv13 wr25 → (∀ bq ∈ ([b, b1, b5, b6, b9, b11] : List Nat), bq < wr25.heap.size) → 
    Calls Try.prog fn_impl_QueueDo #[.agg #[.int .i64 toQueu25, .int .i64 toQueu26, .int .i64 toQueu27, .slice toQueu28O toQueu28L toQueu28C], .agg #[.int .i64 toQueu29, .int .i64 toQueu30, .int .i64 toQueu31]] wr25 fun e13 wv15 =>
    (∃ (xQueueD30 : Int) (xQueueD31 : Int) (xQueueD32 : Int) (xQueueD33O : Option Addr) (xQueueD33L : Nat) (xQueueD33C : Nat) (xQueueD34 : Bool),
    e13 = .returned (.tuple #[.agg #[.int .i64 xQueueD30, .int .i64 xQueueD31, .int .i64 xQueueD32, .slice xQueueD33O xQueueD33L xQueueD33C], .bool xQueueD34]) ∧ Kept [b, b1, b5, b6, b9, b11] wr25 wv15 ∧
    (∀ wr26, ExtX [b, b1, b5, b6, b9, b11] wv15 wr26 → (∀ bq ∈ ([b, b1, b5, b6, b9, b11] : List Nat), bq < wr26.heap.size) → Mid2 [.bool xQueueD34, .int .i64 xQueueD30, .int .i64 xQueueD31, .int .i64 xQueueD32, .slice xQueueD33O xQueueD33L xQueueD33C] [b11] wr26))))))))) ∧
    ((∀ b12, wv12.heap.size ≤ b12 →
    (some (ty_laws_QueueOp, ([.int .i64 aOp0, .int .i64 aOp1, .int .i64 aOp2] : List Value)) = some (ty_laws_QueueOp, ([.int .i64 aOp0, .int .i64 aOp1, .int .i64 aOp2] : List Value))) ∧
    (some (ty_laws_Queue, ([.int .i64 aQ0, .int .i64 aQ1, .int .i64 aQ2, .slice aQ3O aQ3L aQ3C] : List Value)) = some (ty_laws_Queue, ([.int .i64 aQ0, .int .i64 aQ1, .int .i64 aQ2, .slice aQ3O aQ3L aQ3C] : List Value))) ∧
    (∀ wr27, ExtX [b, b1, b5, b6, b9] wv12 wr27 → (∀ bq ∈ ([b, b1, b5, b6, b9, b12] : List Nat), bq < wr27.heap.size) → 
    Calls Try.prog fn_laws_toQueue #[.agg #[.int .i64 aQ0, .int .i64 aQ1, .int .i64 aQ2, .slice aQ3O aQ3L aQ3C]] wr27 fun e14 wv16 =>
    (∃ (toQueu32 : Int) (toQueu33 : Int) (toQueu34 : Int) (toQueu35O : Option Addr) (toQueu35L : Nat) (toQueu35C : Nat),
    e14 = .returned (.agg #[.int .i64 toQueu32, .int .i64 toQueu33, .int .i64 toQueu34, .slice toQueu35O toQueu35L toQueu35C]) ∧ Kept [b, b1, b5, b6, b9, b12] wr27 wv16 ∧
    (some (ty_laws_QueueOp, ([.int .i64 aOp0, .int .i64 aOp1, .int .i64 aOp2] : List Value)) = some (ty_laws_QueueOp, ([.int .i64 aOp0, .int .i64 aOp1, .int .i64 aOp2] : List Value))) ∧
    (∃ (toQueu36 : Int) (toQueu37 : Int) (toQueu38 : Int),
    PureX [b, b1, b5, b6, b9, b12] Try.prog fn_laws_toQueueOp #[.agg #[.int .i64 aOp0, .int .i64 aOp1, .int .i64 aOp2]] wv16 (.agg #[.int .i64 toQueu36, .int .i64 toQueu37, .int .i64 toQueu38]) ∧
    (∀ wr28, ExtX [b, b1, b5, b6, b9, b12] wv16 wr28 → (∀ bq ∈ ([b, b1, b5, b6, b9, b12] : List Nat), bq < wr28.heap.size) → 
    Calls Try.prog fn_impl_QueueDo #[.agg #[.int .i64 toQueu32, .int .i64 toQueu33, .int .i64 toQueu34, .slice toQueu35O toQueu35L toQueu35C], .agg #[.int .i64 toQueu36, .int .i64 toQueu37, .int .i64 toQueu38]] wr28 fun e15 wv17 =>
    (∃ (xQueueD35 : Int) (xQueueD36 : Int) (xQueueD37 : Int) (xQueueD38O : Option Addr) (xQueueD38L : Nat) (xQueueD38C : Nat) (xQueueD39 : Bool),
    e15 = .returned (.tuple #[.agg #[.int .i64 xQueueD35, .int .i64 xQueueD36, .int .i64 xQueueD37, .slice xQueueD38O xQueueD38L xQueueD38C], .bool xQueueD39]) ∧ Kept [b, b1, b5, b6, b9, b12] wr28 wv17 ∧
    (∀ wr29, ExtX [b, b1, b5, b6, b9, b12] wv17 wr29 → (∀ bq ∈ ([b, b1, b5, b6, b9, b12] : List Nat), bq < wr29.heap.size) → Mid2 [.bool xQueueD39, .int .i64 xQueueD35, .int .i64 xQueueD36, .int .i64 xQueueD37, .slice xQueueD38O xQueueD38L xQueueD38C] [b12] wr29))))))))) ∧
    (∀ (h1 : Bool) (l8 : Int) (l9 : Int) (l10 : Int) (l11O : Option Addr) (l11L : Nat) (l11C : Nat) (b13 : Nat) (wv18 : World), (∀ bq ∈ ([b, b1, b5, b6, b9, b13] : List Nat), bq < wv18.heap.size) → Mid2 [.bool h1, .int .i64 l8, .int .i64 l9, .int .i64 l10, .slice l11O l11L l11C] [b13] wv18 →
    (∃ (eqQueu3 : Bool),
    PureX [b, b1, b5, b6, b9, b13] Try.prog fn_laws_eqQueue #[.agg #[.int .i64 l8, .int .i64 l9, .int .i64 l10, .slice l11O l11L l11C], .agg #[.int .i64 l, .int .i64 l1, .int .i64 l2, .slice l3O l3L l3C]] wv18 (.bool eqQueu3) ∧
    (((!eqQueu3) || (!(h1 == w1))) = true →
    (∀ wr30, ExtX [b, b1, b5, b6, b9, b13] wv18 wr30 → R (.bool false) wr30)) ∧
    (((!eqQueu3) || (!(h1 == w1))) = false →
    (∃ (heldQu1 : Int),
    PureX [b, b1, b5, b6, b9, b13] Try.prog fn_laws_heldQueue #[.agg #[.int .i64 l4, .int .i64 l5, .int .i64 l6, .slice l7O l7L l7C], .int .i64 1] wv18 (.int .i64 heldQu1) ∧
    ((decide (heldQu1 < 0)) = true →
    (∀ wr31, ExtX [b, b1, b5, b6, b9, b13] wv18 wr31 → R (.bool false) wr31)) ∧
    ((decide (heldQu1 < 0)) = false →
    ((heldQu1 != markQu1) = true →
    (∀ wr32, ExtX [b, b1, b5, b6, b9, b13] wv18 wr32 → R (.bool false) wr32)) ∧
    ((heldQu1 != markQu1) = false →
    (∀ wr33, ExtX [b, b1, b5, b6, b9, b13] wv18 wr33 → R (.bool true) wr33))))))))))))))))))))))))))))))))))
theorem v_laws_FnExactQueueDo (aQ0 : Int) (aQ1 : Int) (aQ2 : Int) (aQ3O : Option Addr) (aQ3L : Nat) (aQ3C : Nat) (aOp0 : Int) (aOp1 : Int) (aOp2 : Int) (w : World) (R : Value → World → Prop) : evFn c_laws_FnExactQueueDo s_laws_FnExactQueueDo [.agg #[.int .i64 aQ0, .int .i64 aQ1, .int .i64 aQ2, .slice aQ3O aQ3L aQ3C], .agg #[.int .i64 aOp0, .int .i64 aOp1, .int .i64 aOp2]] (bodyOf Try.f5) Try.f5.results.toList w R = V_laws_FnExactQueueDo aQ0 aQ1 aQ2 aQ3O aQ3L aQ3C aOp0 aOp1 aOp2 w R := by kernel_rfl
theorem e_laws_FnExactQueueDo (aQ0 : Int) (aQ1 : Int) (aQ2 : Int) (aQ3O : Option Addr) (aQ3L : Nat) (aQ3C : Nat) (aOp0 : Int) (aOp1 : Int) (aOp2 : Int) {w : World} {R : Value → World → Prop} (hvc : V_laws_FnExactQueueDo aQ0 aQ1 aQ2 aQ3O aQ3L aQ3C aOp0 aOp1 aOp2 w R) : Calls Try.prog fn_laws_FnExactQueueDo #[.agg #[.int .i64 aQ0, .int .i64 aQ1, .int .i64 aQ2, .slice aQ3O aQ3L aQ3C], .agg #[.int .i64 aOp0, .int .i64 aOp1, .int .i64 aOp2]] w fun e0 wr0 => ∃ v0, e0 = .returned v0 ∧ R v0 wr0 :=
  eff_of_ev (C := c_laws_FnExactQueueDo) (sps := s_laws_FnExactQueueDo) (body := bodyOf Try.f5) (env _ _ _) Try.func5 rfl rfl (of_decide_eq_true (by kernel_rfl)) (of_decide_eq_true (by kernel_rfl)) rfl (by rw [v_laws_FnExactQueueDo]; exact hvc)
noncomputable def c_impl_VirtualUnits : Cfg := { P := Try.prog, T := tblGet tbl, pf := pfT, ef := efT, tt := ttT, vis := [], n := 23, pm := true }
noncomputable def s_impl_VirtualUnits : List (Nat × LSpec) := []
def V_impl_VirtualUnits (v : Int) (weight : Int) (w : World) (R : Value → World → Prop) : Prop :=
    (∃ (inRang : Bool),
    PureX [] Try.prog fn_impl_inRange #[.int .i64 v, .int .i64 1, .int .i64 300000000000000000] w (.bool inRang) ∧
    (∃ (weight1 : Bool),
    ((!inRang) = false → PureX [] Try.prog fn_impl_weightOk #[.int .i64 weight] w (.bool weight1)) ∧
    (((!inRang) || (!weight1)) = true →
    R (.int .i64 0) w) ∧
    (((!inRang) || (!weight1)) = false →
    (∃ (weight2 : Int) (weight3 : Int) (weight4 : Int) (weight5 : Int) (weight6 : Int) (weight7 : Int) (weight8 : Int) (weight9 : Int) (weight10 : Int) (weight11 : Int) (weight12 : Int) (weight13 : Int) (weight14 : Int) (weight15 : Int) (weight16 : Int) (weight17 : Int) (weight18 : Int) (weight19 : Int) (weight20 : Int) (weight21 : Int) (weight22 : Int),
    PureX [] Try.prog fn_impl_weightSteps #[] w (.agg #[.int .i64 weight2, .int .i64 weight3, .int .i64 weight4, .int .i64 weight5, .int .i64 weight6, .int .i64 weight7, .int .i64 weight8, .int .i64 weight9, .int .i64 weight10, .int .i64 weight11, .int .i64 weight12, .int .i64 weight13, .int .i64 weight14, .int .i64 weight15, .int .i64 weight16, .int .i64 weight17, .int .i64 weight18, .int .i64 weight19, .int .i64 weight20, .int .i64 weight21, .int .i64 weight22]) ∧
    (∃ (x : Int),
    (0 ≤ weight ∧ weight < ((21 : Nat) : Int) ∧ (#[.int .i64 weight2, .int .i64 weight3, .int .i64 weight4, .int .i64 weight5, .int .i64 weight6, .int .i64 weight7, .int .i64 weight8, .int .i64 weight9, .int .i64 weight10, .int .i64 weight11, .int .i64 weight12, .int .i64 weight13, .int .i64 weight14, .int .i64 weight15, .int .i64 weight16, .int .i64 weight17, .int .i64 weight18, .int .i64 weight19, .int .i64 weight20, .int .i64 weight21, .int .i64 weight22] : Array Value)[Int.toNat weight]? = some (.int .i64 x)) ∧
    InR .i64 (v + x) ∧
    InR .i64 ((v + x) - 1) ∧
    (x ≠ 0 ∧ InR .i64 (Int.tdiv ((v + x) - 1) x)) ∧
    R (.int .i64 (Int.tdiv ((v + x) - 1) x)) w)))))
theorem v_impl_VirtualUnits (v : Int) (weight : Int) (w : World) (R : Value → World → Prop) : evFn c_impl_VirtualUnits s_impl_VirtualUnits [.int .i64 v, .int .i64 weight] (bodyOf Try.f74) Try.f74.results.toList w R = V_impl_VirtualUnits v weight w R := by kernel_rfl
theorem p_impl_VirtualUnits (v : Int) (weight : Int) {w : World} {bs : List Nat} {ret : Value} (hvc : ∀ wr0, ExtX bs w wr0 → V_impl_VirtualUnits v weight wr0 fun v0 _ => v0 = ret) : PureX bs Try.prog fn_impl_VirtualUnits #[.int .i64 v, .int .i64 weight] w ret :=
  pure_of_ev (C := c_impl_VirtualUnits) (sps := s_impl_VirtualUnits) (body := bodyOf Try.f74) (env _ _ _) Try.func74 rfl rfl (of_decide_eq_true (by kernel_rfl)) (of_decide_eq_true (by kernel_rfl)) rfl fun wr0 hx0 => by rw [v_impl_VirtualUnits]; exact hvc wr0 hx0
noncomputable def c_impl_QueueWait : Cfg := { P := Try.prog, T := tblGet tbl, pf := pfT, ef := efT, tt := ttT, vis := [3], n := 70, pm := false }
noncomputable def s_impl_QueueWait : List (Nat × LSpec) := [(9, { chg := [(9, .int .i64), (46, .int .i64)], chgL := [], keep := [1, 8, 44, 45] })]
def V_impl_QueueWait (q0 : Int) (q1 : Int) (q2 : Int) (q3O : Option Addr) (q3L : Nat) (q3C : Nat) (atv : Int) (units : Int) (w : World) (R : Value → World → Prop) : Prop :=
    (∀ b wb, ExtX [] w wb → w.heap.size ≤ b → wb.heap[b]? = some (Obj.cells ([.int .i64 q0, .int .i64 q1, .int .i64 q2, .slice q3O q3L q3C] : List Value).toArray ty_impl_Queue (0, 0)) → b ∉ ([] : List Nat) →
    (∃ (x0 : Int) (x1 : Int) (x2 : Int) (x3O : Option Addr) (x3L : Nat) (x3C : Nat),
    CellsX [] wb (some (Addr.mk b 0 none)) 0 [.int .i64 x0, .int .i64 x1, .int .i64 x2, .slice x3O x3L x3C] ∧
    (∃ (xQueueO : Bool),
    PureX [] Try.prog fn_impl_QueueOk #[.agg #[.int .i64 x0, .int .i64 x1, .int .i64 x2, .slice x3O x3L x3C]] wb (.bool xQueueO) ∧
    (∃ (inRang : Bool),
    ((!xQueueO) = false → PureX [] Try.prog fn_impl_inRange #[.int .i64 units, .int .i64 1, .int .i64 100000000] wb (.bool inRang)) ∧
    (((!xQueueO) || (!inRang)) = true →
    (∀ wr, ExtX [] wb wr → R (.int .i64 0) wr)) ∧
    (((!xQueueO) || (!inRang)) = false →
    (∃ (entry : Option Addr),
    PureX [] Try.prog fn_impl_Queue_entry #[.pointer ((some (Addr.mk b 0 none)).map (·.add 0)), .int .i64 atv] wb (.pointer entry) ∧
    (entry.isNone = false → entry.isSome = true) ∧
    (∃ (onv : Bool),
    (entry.isNone = false → CellsX [] wb entry (0 + 0) [.bool onv]) ∧
    ((entry.isNone || (!onv)) = true →
    (∀ wr1, ExtX [] wb wr1 → R (.int .i64 0) wr1)) ∧
    ((entry.isNone || (!onv)) = false →
    entry.isSome = true ∧
    (∃ (v : Int),
    CellsX [] wb entry (0 + 1) [.int .i64 v] ∧
    entry.isSome = true ∧
    (∃ (wv : Int),
    CellsX [] wb entry (0 + 2) [.int .i64 wv] ∧
    (∃ (xVirtua : Int),
    PureX [] Try.prog fn_impl_VirtualStep #[.int .i64 units, .int .i64 wv] wb (.int .i64 xVirtua) ∧
    InR .i64 (v + xVirtua) ∧
    (∃ (entriesO : Option Addr) (entriesL : Nat) (entriesC : Nat),
    CellsX [] wb (some (Addr.mk b 0 none)) (0 + 3) [.slice entriesO entriesL entriesC] ∧
    (∃ (xInv : List Value → World → Prop) (mu : List Value → World → Nat), (∀ wr2, ExtX [] wb wr2 → (∀ bq ∈ ([] : List Nat), bq < wr2.heap.size) → xInv [.int .i64 units, .int .i64 0] wr2) ∧
    ∀ (wait : Int) (x : Int) wv1, (∀ bq ∈ ([] : List Nat), bq < wv1.heap.size) → xInv [.int .i64 wait, .int .i64 x] wv1 →
    ((decide (x < ((entriesL : Nat) : Int))) = true →
    Ix entriesO entriesL x ∧
    (∃ (x01 : Bool) (x11 : Int) (x21 : Int) (x31 : Int),
    CellsX [] wv1 entriesO (Int.toNat x * 4) [.bool x01, .int .i64 x11, .int .i64 x21, .int .i64 x31] ∧
    (∀ b1, wv1.heap.size ≤ b1 →
    (((x != atv) && x01) = true →
    InR .i64 ((v + xVirtua) - x11) ∧
    (∃ (xVirtua1 : Int),
    PureX [] Try.prog fn_impl_VirtualUnits #[.int .i64 ((v + xVirtua) - x11), .int .i64 x21] wv1 (.int .i64 xVirtua1) ∧
    InR .i64 (149 + xVirtua1) ∧
    InR .i64 (wait + (149 + xVirtua1)) ∧
    InR .i64 (x + 1) ∧
    (∀ wr3, ExtX [] wv1 wr3 → (∀ bq ∈ ([b1] : List Nat), bq < wr3.heap.size) → xInv [.int .i64 (wait + (149 + xVirtua1)), .int .i64 (x + 1)] wr3 ∧ mu [.int .i64 (wait + (149 + xVirtua1)), .int .i64 (x + 1)] wr3 < mu [.int .i64 wait, .int .i64 x] wv1))) ∧
    (((x != atv) && x01) = false →
    InR .i64 (x + 1) ∧
    (∀ wr4, ExtX [] wv1 wr4 → (∀ bq ∈ ([b1] : List Nat), bq < wr4.heap.size) → xInv [.int .i64 wait, .int .i64 (x + 1)] wr4 ∧ mu [.int .i64 wait, .int .i64 (x + 1)] wr4 < mu [.int .i64 wait, .int .i64 x] wv1))))) ∧
    ((decide (x < ((entriesL : Nat) : Int))) = false →
    (∀ wr5, ExtX [] wv1 wr5 → R (.int .i64 wait) wr5)))))))))))))))
theorem v_impl_QueueWait (q0 : Int) (q1 : Int) (q2 : Int) (q3O : Option Addr) (q3L : Nat) (q3C : Nat) (atv : Int) (units : Int) (w : World) (R : Value → World → Prop) : evFn c_impl_QueueWait s_impl_QueueWait [.agg #[.int .i64 q0, .int .i64 q1, .int .i64 q2, .slice q3O q3L q3C], .int .i64 atv, .int .i64 units] (bodyOf Try.f27) Try.f27.results.toList w R = V_impl_QueueWait q0 q1 q2 q3O q3L q3C atv units w R := by kernel_rfl
theorem e_impl_QueueWait (q0 : Int) (q1 : Int) (q2 : Int) (q3O : Option Addr) (q3L : Nat) (q3C : Nat) (atv : Int) (units : Int) {w : World} {R : Value → World → Prop} (hvc : V_impl_QueueWait q0 q1 q2 q3O q3L q3C atv units w R) : Calls Try.prog fn_impl_QueueWait #[.agg #[.int .i64 q0, .int .i64 q1, .int .i64 q2, .slice q3O q3L q3C], .int .i64 atv, .int .i64 units] w fun e0 wr0 => ∃ v0, e0 = .returned v0 ∧ R v0 wr0 :=
  eff_of_ev (C := c_impl_QueueWait) (sps := s_impl_QueueWait) (body := bodyOf Try.f27) (env _ _ _) Try.func27 rfl rfl (of_decide_eq_true (by kernel_rfl)) (of_decide_eq_true (by kernel_rfl)) rfl (by rw [v_impl_QueueWait]; exact hvc)
noncomputable def c_spec_VirtualUnits : Cfg := { P := Try.prog, T := tblGet tbl, pf := pfT, ef := efT, tt := ttT, vis := [], n := 22, pm := true }
noncomputable def s_spec_VirtualUnits : List (Nat × LSpec) := []
def V_spec_VirtualUnits (v : Int) (weight : Int) (w : World) (R : Value → World → Prop) : Prop :=
    (∃ (l1Weig : Bool),
    PureX [] Try.prog fn_spec_l1Weight #[.int .i64 weight] w (.bool l1Weig) ∧
    (∃ (l1In : Bool),
    ((!l1Weig) = false → PureX [] Try.prog fn_spec_l1In #[.int .i64 v, .int .i64 1, .int .i64 300000000000000000] w (.bool l1In)) ∧
    (((!l1Weig) || (!l1In)) = true →
    R (.int .i64 0) w) ∧
    (((!l1Weig) || (!l1In)) = false →
    (weight ≠ 0 ∧ InR .i64 (Int.tdiv 232792560 weight)) ∧
    InR .i64 (v + (Int.tdiv 232792560 weight)) ∧
    InR .i64 ((v + (Int.tdiv 232792560 weight)) - 1) ∧
    (Int.tdiv 232792560 weight ≠ 0 ∧ InR .i64 (Int.tdiv ((v + (Int.tdiv 232792560 weight)) - 1) (Int.tdiv 232792560 weight))) ∧
    R (.int .i64 (Int.tdiv ((v + (Int.tdiv 232792560 weight)) - 1) (Int.tdiv 232792560 weight))) w)))
theorem v_spec_VirtualUnits (v : Int) (weight : Int) (w : World) (R : Value → World → Prop) : evFn c_spec_VirtualUnits s_spec_VirtualUnits [.int .i64 v, .int .i64 weight] (bodyOf Try.f76) Try.f76.results.toList w R = V_spec_VirtualUnits v weight w R := by kernel_rfl
theorem p_spec_VirtualUnits (v : Int) (weight : Int) {w : World} {bs : List Nat} {ret : Value} (hvc : ∀ wr0, ExtX bs w wr0 → V_spec_VirtualUnits v weight wr0 fun v0 _ => v0 = ret) : PureX bs Try.prog fn_spec_VirtualUnits #[.int .i64 v, .int .i64 weight] w ret :=
  pure_of_ev (C := c_spec_VirtualUnits) (sps := s_spec_VirtualUnits) (body := bodyOf Try.f76) (env _ _ _) Try.func76 rfl rfl (of_decide_eq_true (by kernel_rfl)) (of_decide_eq_true (by kernel_rfl)) rfl fun wr0 hx0 => by rw [v_spec_VirtualUnits]; exact hvc wr0 hx0
noncomputable def c_spec_QueueWait : Cfg := { P := Try.prog, T := tblGet tbl, pf := pfT, ef := efT, tt := ttT, vis := [], n := 91, pm := true }
noncomputable def s_spec_QueueWait : List (Nat × LSpec) := [(6, { chg := [(8, .int .i64), (9, .int .i64)], chgL := [], keep := [1, 3, 7] })]
def V_spec_QueueWait (q0 : Int) (q1 : Int) (q2 : Int) (q3O : Option Addr) (q3L : Nat) (q3C : Nat) (atv : Int) (units : Int) (w : World) (R : Value → World → Prop) : Prop :=
    (∀ b, w.heap.size ≤ b →
    (∃ (xQueueO : Bool),
    PureX [] Try.prog fn_spec_QueueOk #[.agg #[.int .i64 q0, .int .i64 q1, .int .i64 q2, .slice q3O q3L q3C]] w (.bool xQueueO) ∧
    ((!xQueueO) = false → InR .i64 (((q3L : Nat) : Int) - 1)) ∧
    (∃ (l1In : Bool),
    ((!xQueueO) = false → PureX [] Try.prog fn_spec_l1In #[.int .i64 atv, .int .i64 0, .int .i64 (((q3L : Nat) : Int) - 1)] w (.bool l1In)) ∧
    (∃ (l1In1 : Bool),
    (((!xQueueO) || (!l1In)) = false → PureX [] Try.prog fn_spec_l1In #[.int .i64 units, .int .i64 1, .int .i64 100000000] w (.bool l1In1)) ∧
    ((((!xQueueO) || (!l1In)) || (!l1In1)) = false → Ix q3O q3L atv) ∧
    (∃ (onv : Bool),
    ((((!xQueueO) || (!l1In)) || (!l1In1)) = false → CellsX [] w q3O (Int.toNat atv * 4 + 0) [.bool onv]) ∧
    (((((!xQueueO) || (!l1In)) || (!l1In1)) || (!onv)) = true →
    R (.int .i64 0) w) ∧
    (((((!xQueueO) || (!l1In)) || (!l1In1)) || (!onv)) = false →
    Ix q3O q3L atv ∧
    (∃ (v : Int),
    CellsX [] w q3O (Int.toNat atv * 4 + 1) [.int .i64 v] ∧
    Ix q3O q3L atv ∧
    (∃ (wv : Int),
    CellsX [] w q3O (Int.toNat atv * 4 + 2) [.int .i64 wv] ∧
    (∃ (xVirtua : Int),
    PureX [] Try.prog fn_spec_VirtualStep #[.int .i64 units, .int .i64 wv] w (.int .i64 xVirtua) ∧
    InR .i64 (v + xVirtua) ∧
    (∃ (xInv : List Value → Prop) (mu : List Value → Nat), xInv [.int .i64 units, .int .i64 0] ∧
    ∀ (n : Int) (j : Int), xInv [.int .i64 n, .int .i64 j] →
    ((decide (j < ((q3L : Nat) : Int))) = true →
    ((j != atv) = true → Ix q3O q3L j) ∧
    (∃ (onv1 : Bool),
    ((j != atv) = true → CellsX [] w q3O (Int.toNat j * 4 + 0) [.bool onv1]) ∧
    (((j != atv) && onv1) = true →
    Ix q3O q3L j ∧
    (∃ (v1 : Int),
    CellsX [] w q3O (Int.toNat j * 4 + 1) [.int .i64 v1] ∧
    InR .i64 ((v + xVirtua) - v1) ∧
    Ix q3O q3L j ∧
    (∃ (wv1 : Int),
    CellsX [] w q3O (Int.toNat j * 4 + 2) [.int .i64 wv1] ∧
    (∃ (xVirtua1 : Int),
    PureX [] Try.prog fn_spec_VirtualUnits #[.int .i64 ((v + xVirtua) - v1), .int .i64 wv1] w (.int .i64 xVirtua1) ∧
    InR .i64 (n + xVirtua1) ∧
    InR .i64 ((n + xVirtua1) + 50) ∧
    InR .i64 (((n + xVirtua1) + 50) - 1) ∧
    InR .i64 ((((n + xVirtua1) + 50) - 1) + 100) ∧
    InR .i64 (j + 1) ∧
    xInv [.int .i64 ((((n + xVirtua1) + 50) - 1) + 100), .int .i64 (j + 1)] ∧ mu [.int .i64 ((((n + xVirtua1) + 50) - 1) + 100), .int .i64 (j + 1)] < mu [.int .i64 n, .int .i64 j])))) ∧
    (((j != atv) && onv1) = false →
    InR .i64 (j + 1) ∧
    xInv [.int .i64 n, .int .i64 (j + 1)] ∧ mu [.int .i64 n, .int .i64 (j + 1)] < mu [.int .i64 n, .int .i64 j]))) ∧
    ((decide (j < ((q3L : Nat) : Int))) = false →
    R (.int .i64 n) w)))))))))))
theorem v_spec_QueueWait (q0 : Int) (q1 : Int) (q2 : Int) (q3O : Option Addr) (q3L : Nat) (q3C : Nat) (atv : Int) (units : Int) (w : World) (R : Value → World → Prop) : evFn c_spec_QueueWait s_spec_QueueWait [.agg #[.int .i64 q0, .int .i64 q1, .int .i64 q2, .slice q3O q3L q3C], .int .i64 atv, .int .i64 units] (bodyOf Try.f28) Try.f28.results.toList w R = V_spec_QueueWait q0 q1 q2 q3O q3L q3C atv units w R := by kernel_rfl
theorem p_spec_QueueWait (q0 : Int) (q1 : Int) (q2 : Int) (q3O : Option Addr) (q3L : Nat) (q3C : Nat) (atv : Int) (units : Int) {w : World} {bs : List Nat} {ret : Value} (hvc : ∀ wr0, ExtX bs w wr0 → V_spec_QueueWait q0 q1 q2 q3O q3L q3C atv units wr0 fun v0 _ => v0 = ret) : PureX bs Try.prog fn_spec_QueueWait #[.agg #[.int .i64 q0, .int .i64 q1, .int .i64 q2, .slice q3O q3L q3C], .int .i64 atv, .int .i64 units] w ret :=
  pure_of_ev (C := c_spec_QueueWait) (sps := s_spec_QueueWait) (body := bodyOf Try.f28) (env _ _ _) Try.func28 rfl rfl (of_decide_eq_true (by kernel_rfl)) (of_decide_eq_true (by kernel_rfl)) rfl fun wr0 hx0 => by rw [v_spec_QueueWait]; exact hvc wr0 hx0
noncomputable def c_laws_FnQueueWait : Cfg := { P := Try.prog, T := tblGet tbl, pf := pfT, ef := efT, tt := ttT, vis := [], n := 106, pm := false }
noncomputable def s_laws_FnQueueWait : List (Nat × LSpec) := [(13, { chg := [(9, .int .i64), (11, .int .i64)], chgL := [(0, [.int .i64, .int .i64, .int .i64, .slice])], keep := [1, 5, 7, 8, 10] })]
def V_laws_FnQueueWait (codeO : Option Addr) (codeL : Nat) (codeC : Nat) (moreO : Option Addr) (moreL : Nat) (moreC : Nat) (w : World) (R : Value → World → Prop) : Prop :=
    (((decide (((codeL : Nat) : Int) > 1048576)) || (decide (((moreL : Nat) : Int) > 1048576))) = true →
    (∀ wr, ExtX [] w wr → R (.bool true) wr)) ∧
    (((decide (((codeL : Nat) : Int) > 1048576)) || (decide (((moreL : Nat) : Int) > 1048576))) = false →
    (∀ wr1, ExtX [] w wr1 → (∀ bq ∈ ([] : List Nat), bq < wr1.heap.size) → 
    Calls Try.prog fn_spec_GoodQueue #[.slice codeO codeL codeC] wr1 fun e wv =>
    (∃ (xGoodQu : Int) (xGoodQu1 : Int) (xGoodQu2 : Int) (xGoodQu3O : Option Addr) (xGoodQu3L : Nat) (xGoodQu3C : Nat) (xGoodQu4O : Option Addr) (xGoodQu4L : Nat) (xGoodQu4C : Nat),
    e = .returned (.tuple #[.agg #[.int .i64 xGoodQu, .int .i64 xGoodQu1, .int .i64 xGoodQu2, .slice xGoodQu3O xGoodQu3L xGoodQu3C], .slice xGoodQu4O xGoodQu4L xGoodQu4C]) ∧ Kept [] wr1 wv ∧
    (∀ b, wv.heap.size ≤ b →
    (∃ (stByte : Int),
    PureX [] Try.prog fn_laws_stByte #[.slice moreO moreL moreC, .int .i64 0] wv (.int .i64 stByte) ∧
    ((xGoodQu3L : Nat) : Int) ≠ 0 ∧
    (∃ (stByte1 : Int),
    PureX [] Try.prog fn_laws_stByte #[.slice moreO moreL moreC, .int .i64 1] wv (.int .i64 stByte1) ∧
    InR .i64 (1 + stByte1) ∧
    (∃ (xQueueW : Int),
    PureX [] Try.prog fn_impl_QueueWait #[.agg #[.int .i64 xGoodQu, .int .i64 xGoodQu1, .int .i64 xGoodQu2, .slice xGoodQu3O xGoodQu3L xGoodQu3C], .int .i64 (Int.tmod stByte ((xGoodQu3L : Nat) : Int)), .int .i64 (1 + stByte1)] wv (.int .i64 xQueueW) ∧
    (∃ (xQueueW1 : Int),
    PureX [] Try.prog fn_spec_QueueWait #[.agg #[.int .i64 xGoodQu, .int .i64 xGoodQu1, .int .i64 xGoodQu2, .slice xGoodQu3O xGoodQu3L xGoodQu3C], .int .i64 (Int.tmod stByte ((xGoodQu3L : Nat) : Int)), .int .i64 (1 + stByte1)] wv (.int .i64 xQueueW1) ∧
    ((xQueueW != xQueueW1) = false → Ix xGoodQu3O xGoodQu3L (Int.tmod stByte ((xGoodQu3L : Nat) : Int))) ∧
    (∃ (onv : Bool),
    ((xQueueW != xQueueW1) = false → CellsX [] wv xGoodQu3O (Int.toNat (Int.tmod stByte ((xGoodQu3L : Nat) : Int)) * 4 + 0) [.bool onv]) ∧
    (((xQueueW != xQueueW1) || (!((decide (xQueueW > 0)) == onv))) = true →
    (∀ wr2, ExtX [] wv wr2 → R (.bool false) wr2)) ∧
    (((xQueueW != xQueueW1) || (!((decide (xQueueW > 0)) == onv))) = false →
    (((xQueueW == 0) || (decide (xQueueW > 20000))) = true →
    (∀ wr3, ExtX [] wv wr3 → R (.bool true) wr3)) ∧
    (((xQueueW == 0) || (decide (xQueueW > 20000))) = false →
    Ix xGoodQu3O xGoodQu3L (Int.tmod stByte ((xGoodQu3L : Nat) : Int)) ∧
    (∃ (sum : Int),
    CellsX [] wv xGoodQu3O (Int.toNat (Int.tmod stByte ((xGoodQu3L : Nat) : Int)) * 4 + 3) [.int .i64 sum] ∧
    (∃ (xInv1 : List Value → World → Prop) (mu1 : List Value → World → Nat), (∀ wr7, ExtX [] wv wr7 → (∀ bq ∈ ([b] : List Nat), bq < wr7.heap.size) → xInv1 [.int .i64 xQueueW, .int .i64 2, .int .i64 xGoodQu, .int .i64 xGoodQu1, .int .i64 xGoodQu2, .slice xGoodQu3O xGoodQu3L xGoodQu3C] wr7) ∧
    ∀ (n1 : Int) (i1 : Int) (l : Int) (l1 : Int) (l2 : Int) (l3O : Option Addr) (l3L : Nat) (l3C : Nat) wv3, (∀ bq ∈ ([b] : List Nat), bq < wv3.heap.size) → xInv1 [.int .i64 n1, .int .i64 i1, .int .i64 l, .int .i64 l1, .int .i64 l2, .slice l3O l3L l3C] wv3 →
    ((decide (n1 > 0)) = true →
    (∃ (stByte3 : Int),
    PureX [b] Try.prog fn_laws_stByte #[.slice moreO moreL moreC, .int .i64 i1] wv3 (.int .i64 stByte3) ∧
    (100 : Int) ≠ 0 ∧
    InR .i64 (1 + (Int.tmod stByte3 100)) ∧
    ((decide (1 + (Int.tmod stByte3 100) > n1)) = true →
    (∀ wr8, ExtX [b] wv3 wr8 → (∀ bq ∈ ([b] : List Nat), bq < wr8.heap.size) → 
    Calls Try.prog fn_impl_QueueDo #[.agg #[.int .i64 l, .int .i64 l1, .int .i64 l2, .slice l3O l3L l3C], .agg #[.int .i64 3, .int .i64 0, .int .i64 n1]] wr8 fun e2 wv4 =>
    (∃ (xQueueD5 : Int) (xQueueD6 : Int) (xQueueD7 : Int) (xQueueD8O : Option Addr) (xQueueD8L : Nat) (xQueueD8C : Nat) (xQueueD9 : Bool),
    e2 = .returned (.tuple #[.agg #[.int .i64 xQueueD5, .int .i64 xQueueD6, .int .i64 xQueueD7, .slice xQueueD8O xQueueD8L xQueueD8C], .bool xQueueD9]) ∧ Kept [b] wr8 wv4 ∧
    (∀ b2, wv4.heap.size ≤ b2 →
    ((!xQueueD9) = true →
    (∀ wr9, ExtX [b] wv4 wr9 → R (.bool false) wr9)) ∧
    ((!xQueueD9) = false →
    InR .i64 (n1 - n1) ∧
    InR .i64 (i1 + 1) ∧
    (∀ wr10, ExtX [b] wv4 wr10 → (∀ bq ∈ ([b, b2] : List Nat), bq < wr10.heap.size) → xInv1 [.int .i64 (n1 - n1), .int .i64 (i1 + 1), .int .i64 xQueueD5, .int .i64 xQueueD6, .int .i64 xQueueD7, .slice xQueueD8O xQueueD8L xQueueD8C] wr10 ∧ mu1 [.int .i64 (n1 - n1), .int .i64 (i1 + 1), .int .i64 xQueueD5, .int .i64 xQueueD6, .int .i64 xQueueD7, .slice xQueueD8O xQueueD8L xQueueD8C] wr10 < mu1 [.int .i64 n1, .int .i64 i1, .int .i64 l, .int .i64 l1, .int .i64 l2, .slice l3O l3L l3C] wv3)))))) ∧
    ((decide (1 + (Int.tmod stByte3 100) > n1)) = false →
    (∀ wr11, ExtX [b] wv3 wr11 → (∀ bq ∈ ([b] : List Nat), bq < wr11.heap.size) → 
    Calls Try.prog fn_impl_QueueDo #[.agg #[.int .i64 l, .int .i64 l1, .int .i64 l2, .slice l3O l3L l3C], .agg #[.int .i64 3, .int .i64 0, .int .i64 (1 + (Int.tmod stByte3 100))]] wr11 fun e3 wv5 =>
    (∃ (xQueueD10 : Int) (xQueueD11 : Int) (xQueueD12 : Int) (xQueueD13O : Option Addr) (xQueueD13L : Nat) (xQueueD13C : Nat) (xQueueD14 : Bool),
    e3 = .returned (.tuple #[.agg #[.int .i64 xQueueD10, .int .i64 xQueueD11, .int .i64 xQueueD12, .slice xQueueD13O xQueueD13L xQueueD13C], .bool xQueueD14]) ∧ Kept [b] wr11 wv5 ∧
    (∀ b3, wv5.heap.size ≤ b3 →
    ((!xQueueD14) = true →
    (∀ wr12, ExtX [b] wv5 wr12 → R (.bool false) wr12)) ∧
    ((!xQueueD14) = false →
    InR .i64 (n1 - (1 + (Int.tmod stByte3 100))) ∧
    InR .i64 (i1 + 1) ∧
    (∀ wr13, ExtX [b] wv5 wr13 → (∀ bq ∈ ([b, b3] : List Nat), bq < wr13.heap.size) → xInv1 [.int .i64 (n1 - (1 + (Int.tmod stByte3 100))), .int .i64 (i1 + 1), .int .i64 xQueueD10, .int .i64 xQueueD11, .int .i64 xQueueD12, .slice xQueueD13O xQueueD13L xQueueD13C] wr13 ∧ mu1 [.int .i64 (n1 - (1 + (Int.tmod stByte3 100))), .int .i64 (i1 + 1), .int .i64 xQueueD10, .int .i64 xQueueD11, .int .i64 xQueueD12, .slice xQueueD13O xQueueD13L xQueueD13C] wr13 < mu1 [.int .i64 n1, .int .i64 i1, .int .i64 l, .int .i64 l1, .int .i64 l2, .slice l3O l3L l3C] wv3)))))))) ∧
    ((decide (n1 > 0)) = false →
    Ix l3O l3L (Int.tmod stByte ((xGoodQu3L : Nat) : Int)) ∧
    (∃ (sum1 : Int),
    CellsX [b] wv3 l3O (Int.toNat (Int.tmod stByte ((xGoodQu3L : Nat) : Int)) * 4 + 3) [.int .i64 sum1] ∧
    InR .i64 (sum1 - sum) ∧
    (∀ wr14, ExtX [b] wv3 wr14 → R (.bool (decide (sum1 - sum ≥ 1 + stByte1))) wr14))))))))))))))))
theorem v_laws_FnQueueWait (codeO : Option Addr) (codeL : Nat) (codeC : Nat) (moreO : Option Addr) (moreL : Nat) (moreC : Nat) (w : World) (R : Value → World → Prop) : evFn c_laws_FnQueueWait s_laws_FnQueueWait [.slice codeO codeL codeC, .slice moreO moreL moreC] (bodyOf Try.f6) Try.f6.results.toList w R = V_laws_FnQueueWait codeO codeL codeC moreO moreL moreC w R := by kernel_rfl
theorem e_laws_FnQueueWait (codeO : Option Addr) (codeL : Nat) (codeC : Nat) (moreO : Option Addr) (moreL : Nat) (moreC : Nat) {w : World} {R : Value → World → Prop} (hvc : V_laws_FnQueueWait codeO codeL codeC moreO moreL moreC w R) : Calls Try.prog fn_laws_FnQueueWait #[.slice codeO codeL codeC, .slice moreO moreL moreC] w fun e0 wr0 => ∃ v0, e0 = .returned v0 ∧ R v0 wr0 :=
  eff_of_ev (C := c_laws_FnQueueWait) (sps := s_laws_FnQueueWait) (body := bodyOf Try.f6) (env _ _ _) Try.func6 rfl rfl (of_decide_eq_true (by kernel_rfl)) (of_decide_eq_true (by kernel_rfl)) rfl (by rw [v_laws_FnQueueWait]; exact hvc)
noncomputable def c_spec_l20Rd_big : Cfg := { P := Try.prog, T := tblGet tbl, pf := pfT, ef := efT, tt := ttT, vis := [], n := 15, pm := false }
noncomputable def s_spec_l20Rd_big : List (Nat × LSpec) := [(3, { chg := [(3, .int .i64), (4, .int .i64)], chgL := [], keep := [0] })]
def V_spec_l20Rd_big (r : Option Addr) (w : World) (R : Value → World → Prop) : Prop :=
    (∃ (xInv : List Value → World → Prop) (mu : List Value → World → Nat), (∀ wr, ExtX [] w wr → (∀ bq ∈ ([] : List Nat), bq < wr.heap.size) → xInv [.int .i64 0, .int .i64 0] wr) ∧
    ∀ (n : Int) (i : Int) wv, (∀ bq ∈ ([] : List Nat), bq < wv.heap.size) → xInv [.int .i64 n, .int .i64 i] wv →
    ((decide (i < 7)) = true →
    InR .i64 (n * 256) ∧
    (∀ wr1, ExtX [] wv wr1 → (∀ bq ∈ ([] : List Nat), bq < wr1.heap.size) → 
    Calls Try.prog fn_spec_l20Rd_pick #[.pointer r, .int .i64 256] wr1 fun e wv1 =>
    (∃ (pick : Int),
    e = .returned (.int .i64 pick) ∧ Kept [] wr1 wv1 ∧
    InR .i64 ((n * 256) + pick) ∧
    InR .i64 (i + 1) ∧
    (∀ wr2, ExtX [] wv1 wr2 → (∀ bq ∈ ([] : List Nat), bq < wr2.heap.size) → xInv [.int .i64 ((n * 256) + pick), .int .i64 (i + 1)] wr2 ∧ mu [.int .i64 ((n * 256) + pick), .int .i64 (i + 1)] wr2 < mu [.int .i64 n, .int .i64 i] wv)))) ∧
    ((decide (i < 7)) = false →
    (∀ wr3, ExtX [] wv wr3 → R (.int .i64 n) wr3)))
theorem v_spec_l20Rd_big (r : Option Addr) (w : World) (R : Value → World → Prop) : evFn c_spec_l20Rd_big s_spec_l20Rd_big [.pointer r] (bodyOf Try.f107) Try.f107.results.toList w R = V_spec_l20Rd_big r w R := by kernel_rfl
theorem e_spec_l20Rd_big (r : Option Addr) {w : World} {R : Value → World → Prop} (hvc : V_spec_l20Rd_big r w R) : Calls Try.prog fn_spec_l20Rd_big #[.pointer r] w fun e0 wr0 => ∃ v0, e0 = .returned v0 ∧ R v0 wr0 :=
  eff_of_ev (C := c_spec_l20Rd_big) (sps := s_spec_l20Rd_big) (body := bodyOf Try.f107) (env _ _ _) Try.func107 rfl rfl (of_decide_eq_true (by kernel_rfl)) (of_decide_eq_true (by kernel_rfl)) rfl (by rw [v_spec_l20Rd_big]; exact hvc)
noncomputable def c_spec_l20Rd_spoilt : Cfg := { P := Try.prog, T := tblGet tbl, pf := pfT, ef := efT, tt := ttT, vis := [], n := 126, pm := false }
noncomputable def s_spec_l20Rd_spoilt : List (Nat × LSpec) := [(24, { chg := [(5, .int .i64)], chgL := [], keep := [2, 3] })]
def V_spec_l20Rd_spoilt (r : Option Addr) (w : World) (R : Value → World → Prop) : Prop :=
    (∀ b, w.heap.size ≤ b →
    (∀ wr, ExtX [] w wr → (∀ bq ∈ ([b] : List Nat), bq < wr.heap.size) → 
    Calls Try.prog fn_spec_l20Rd_queue #[.pointer r] wr fun e wv =>
    (∃ (queue : Int) (queue1 : Int) (queue2 : Int) (queue3O : Option Addr) (queue3L : Nat) (queue3C : Nat),
    e = .returned (.agg #[.int .i64 queue, .int .i64 queue1, .int .i64 queue2, .slice queue3O queue3L queue3C]) ∧ Kept [b] wr wv ∧
    (∀ b1, wv.heap.size ≤ b1 →
    (∀ wr1, ExtX [b] wv wr1 → (∀ bq ∈ ([b, b1] : List Nat), bq < wr1.heap.size) → 
    Calls Try.prog fn_spec_l20Rd_pick #[.pointer r, .int .i64 8] wr1 fun e1 wv1 =>
    (∃ (pick : Int),
    e1 = .returned (.int .i64 pick) ∧ Kept [b, b1] wr1 wv1 ∧
    ((decide (pick > 0)) = true →
    (∀ wr2, ExtX [b, b1] wv1 wr2 → R (.agg #[.int .i64 queue, .int .i64 queue1, .int .i64 queue2, .slice queue3O queue3L queue3C]) wr2)) ∧
    ((decide (pick > 0)) = false →
    (∀ wr3, ExtX [b, b1] wv1 wr3 → (∀ bq ∈ ([b, b1] : List Nat), bq < wr3.heap.size) → 
    Calls Try.prog fn_spec_l20Rd_pick #[.pointer r, .int .i64 ((queue3L : Nat) : Int)] wr3 fun e2 wv2 =>
    (∃ (pick1 : Int),
    e2 = .returned (.int .i64 pick1) ∧ Kept [b, b1] wr3 wv2 ∧
    (∀ wr4, ExtX [b, b1] wv2 wr4 → (∀ bq ∈ ([b, b1] : List Nat), bq < wr4.heap.size) → 
    Calls Try.prog fn_spec_l20Rd_pick #[.pointer r, .int .i64 9] wr4 fun e3 wv3 =>
    (∃ (pick2 : Int),
    e3 = .returned (.int .i64 pick2) ∧ Kept [b, b1] wr4 wv3 ∧
    ((pick2 == 0) = true →
    (∀ wr5, ExtX [b, b1] wv3 wr5 → (∀ bq ∈ ([b, b1] : List Nat), bq < wr5.heap.size) → 
    Calls Try.prog fn_spec_l20Rd_big #[.pointer r] wr5 fun e4 wv4 =>
    (∃ (big : Int),
    e4 = .returned (.int .i64 big) ∧ Kept [b, b1] wr5 wv4 ∧
    (some (ty_impl_Queue, ([.int .i64 queue, .int .i64 queue1, .int .i64 queue2, .slice queue3O queue3L queue3C] : List Value)) = some (ty_impl_Queue, ([.int .i64 queue, .int .i64 queue1, .int .i64 queue2, .slice queue3O queue3L queue3C] : List Value))) ∧
    InR .i64 (queue + big) ∧
    (∀ wr6, ExtX [b, b1] wv4 wr6 → R (.agg #[.int .i64 (queue + big), .int .i64 queue1, .int .i64 queue2, .slice queue3O queue3L queue3C]) wr6)))) ∧
    ((pick2 == 0) = false →
    ((pick2 == 1) = true →
    Ix queue3O queue3L pick1 ∧
    (∃ (wv5 : Int),
    CellsX [b, b1] wv3 queue3O (Int.toNat pick1 * 4 + 2) [.int .i64 wv5] ∧
    (∃ (xLagMos : Int),
    PureX [b, b1] Try.prog fn_spec_LagMost #[.int .i64 wv5] wv3 (.int .i64 xLagMos) ∧
    InR .i64 (queue + xLagMos) ∧
    (∀ wr7, ExtX [b, b1] wv3 wr7 → (∀ bq ∈ ([b, b1] : List Nat), bq < wr7.heap.size) → 
    Calls Try.prog fn_spec_l20Rd_pick #[.pointer r, .int .i64 2] wr7 fun e5 wv6 =>
    (∃ (pick3 : Int),
    e5 = .returned (.int .i64 pick3) ∧ Kept [b, b1] wr7 wv6 ∧
    (some (ty_impl_Queue, ([.int .i64 queue, .int .i64 queue1, .int .i64 queue2, .slice queue3O queue3L queue3C] : List Value)) = some (ty_impl_Queue, ([.int .i64 queue, .int .i64 queue1, .int .i64 queue2, .slice queue3O queue3L queue3C] : List Value))) ∧
    (some (ty_impl_Queue, ([.int .i64 queue, .int .i64 queue1, .int .i64 queue2, .slice queue3O queue3L queue3C] : List Value)) = some (ty_impl_Queue, ([.int .i64 queue, .int .i64 queue1, .int .i64 queue2, .slice queue3O queue3L queue3C] : List Value))) ∧
    InR .i64 ((queue + xLagMos) + pick3) ∧
    Ix queue3O queue3L pick1 ∧
    WrX [b, b1] wv6 queue3O (Int.toNat pick1 * 4 + 1) 1 ∧
    (∀ wr8, ExtX [b, b1] (sto wv6 queue3O (Int.toNat pick1 * 4 + 1) [.int .i64 ((queue + xLagMos) + pick3)]) wr8 → R (.agg #[.int .i64 queue, .int .i64 queue1, .int .i64 queue2, .slice queue3O queue3L queue3C]) wr8)))))) ∧
    ((pick2 == 1) = false →
    ((pick2 == 2) = true →
    ((∀ b2, wv3.heap.size ≤ b2 →
    (some (ty_impl_Queue, ([.int .i64 queue, .int .i64 queue1, .int .i64 queue2, .slice queue3O queue3L queue3C] : List Value)) = some (ty_impl_Queue, ([.int .i64 queue, .int .i64 queue1, .int .i64 queue2, .slice queue3O queue3L queue3C] : List Value))) ∧
    (∀ wr9, ExtX [b, b1] wv3 wr9 → (∀ bq ∈ ([b, b1, b2] : List Nat), bq < wr9.heap.size) → 
    Calls Try.prog fn_spec_l20Rd_pick #[.pointer r, .int .i64 3] wr9 fun e6 wv7 =>
    (∃ (pick4 : Int),
    e6 = .returned (.int .i64 pick4) ∧ Kept [b, b1, b2] wr9 wv7 ∧
    (some (ty_impl_Queue, ([.int .i64 queue, .int .i64 queue1, .int .i64 queue2, .slice queue3O queue3L queue3C] : List Value)) = some (ty_impl_Queue, ([.int .i64 queue, .int .i64 queue1, .int .i64 queue2, .slice queue3O queue3L queue3C] : List Value))) ∧
    (0 ≤ pick4 ∧ pick4 < ((3 : Nat) : Int)) ∧
    (∃ (x : Int),
    (0 ≤ pick4 ∧ ([.int .i64 0, .int .i64 21, .int .i64 (-1)] : List Value)[Int.toNat pick4 + 0]? = some (.int .i64 x)) ∧
    Ix queue3O queue3L pick1 ∧
    WrX [b, b1, b2] wv7 queue3O (Int.toNat pick1 * 4 + 2) 1 ∧
    (∀ wr10, ExtX [b, b1, b2] (sto wv7 queue3O (Int.toNat pick1 * 4 + 2) [.int .i64 x]) wr10 → R (.agg #[.int .i64 queue, .int .i64 queue1, .int .i64 queue2, .slice queue3O queue3L queue3C]) wr10)))))) ∧
    ((∀ wr11, ExtX [b, b1] wv3 wr11 → (∀ bq ∈ ([b, b1] : List Nat), bq < wr11.heap.size) → 
    Calls Try.prog fn_spec_l20Rd_pick #[.pointer r, .int .i64 3] wr11 fun e7 wv8 =>
    (∃ (pick5 : Int),
    e7 = .returned (.int .i64 pick5) ∧ Kept [b, b1] wr11 wv8 ∧
    (some (ty_impl_Queue, ([.int .i64 queue, .int .i64 queue1, .int .i64 queue2, .slice queue3O queue3L queue3C] : List Value)) = some (ty_impl_Queue, ([.int .i64 queue, .int .i64 queue1, .int .i64 queue2, .slice queue3O queue3L queue3C] : List Value))) ∧
    (∀ b3, wv8.heap.size ≤ b3 →
    (some (ty_impl_Queue, ([.int .i64 queue, .int .i64 queue1, .int .i64 queue2, .slice queue3O queue3L queue3C] : List Value)) = some (ty_impl_Queue, ([.int .i64 queue, .int .i64 queue1, .int .i64 queue2, .slice queue3O queue3L queue3C] : List Value))) ∧
    (0 ≤ pick5 ∧ pick5 < ((3 : Nat) : Int)) ∧
    (∃ (x1 : Int),
    (0 ≤ pick5 ∧ ([.int .i64 0, .int .i64 21, .int .i64 (-1)] : List Value)[Int.toNat pick5 + 0]? = some (.int .i64 x1)) ∧
    Ix queue3O queue3L pick1 ∧
    WrX [b, b1] wv8 queue3O (Int.toNat pick1 * 4 + 2) 1 ∧
    (∀ wr12, ExtX [b, b1] (sto wv8 queue3O (Int.toNat pick1 * 4 + 2) [.int .i64 x1]) wr12 → R (.agg #[.int .i64 queue, .int .i64 queue1, .int .i64 queue2, .slice queue3O queue3L queue3C]) wr12))))))) ∧
    ((pick2 == 2) = false →
    ((pick2 == 3) = true →
    InR .i64 (((queue3L : Nat) : Int) + 2) ∧
    (∀ wr13, ExtX [b, b1] wv3 wr13 → (∀ bq ∈ ([b, b1] : List Nat), bq < wr13.heap.size) → 
    Calls Try.prog fn_spec_l20Rd_pick #[.pointer r, .int .i64 (((queue3L : Nat) : Int) + 2)] wr13 fun e8 wv9 =>
    (∃ (pick6 : Int),
    e8 = .returned (.int .i64 pick6) ∧ Kept [b, b1] wr13 wv9 ∧
    InR .i64 (pick6 - 1) ∧
    (∀ wr14, ExtX [b, b1] wv9 wr14 → R (.agg #[.int .i64 queue, .int .i64 (pick6 - 1), .int .i64 queue2, .slice queue3O queue3L queue3C]) wr14)))) ∧
    ((pick2 == 3) = false →
    ((pick2 == 4) = true →
    (∀ wr15, ExtX [b, b1] wv3 wr15 → (∀ bq ∈ ([b, b1] : List Nat), bq < wr15.heap.size) → 
    Calls Try.prog fn_spec_l20Rd_pick #[.pointer r, .int .i64 152] wr15 fun e9 wv10 =>
    (∃ (pick7 : Int),
    e9 = .returned (.int .i64 pick7) ∧ Kept [b, b1] wr15 wv10 ∧
    (∀ wr16, ExtX [b, b1] wv10 wr16 → R (.agg #[.int .i64 queue, .int .i64 queue1, .int .i64 pick7, .slice queue3O queue3L queue3C]) wr16)))) ∧
    ((pick2 == 4) = false →
    ((pick2 == 5) = true →
    Ix queue3O queue3L pick1 ∧
    (∃ (onv : Bool),
    CellsX [b, b1] wv3 queue3O (Int.toNat pick1 * 4 + 0) [.bool onv] ∧
    Ix queue3O queue3L pick1 ∧
    WrX [b, b1] wv3 queue3O (Int.toNat pick1 * 4 + 0) 1 ∧
    (∀ wr17, ExtX [b, b1] (sto wv3 queue3O (Int.toNat pick1 * 4 + 0) [.bool (!onv)]) wr17 → R (.agg #[.int .i64 queue, .int .i64 queue1, .int .i64 queue2, .slice queue3O queue3L queue3C]) wr17))) ∧
    ((pick2 == 5) = false →
    ((pick2 == 6) = true →
    Ix queue3O queue3L pick1 ∧
    WrX [b, b1] wv3 queue3O (Int.toNat pick1 * 4 + 3) 1 ∧
    (∀ wr18, ExtX [b, b1] (sto wv3 queue3O (Int.toNat pick1 * 4 + 3) [.int .i64 (-1)]) wr18 → R (.agg #[.int .i64 queue, .int .i64 queue1, .int .i64 queue2, .slice queue3O queue3L queue3C]) wr18)) ∧
    ((pick2 == 6) = false →
    ((pick2 == 7) = true →
    (∀ wr19, ExtX [b, b1] wv3 wr19 → R (.agg #[.int .i64 queue, .int .i64 queue1, .int .i64 queue2, .slice none 0 0]) wr19)) ∧
    ((pick2 == 7) = false →
    ((pick2 == 8) = true →
    (∃ (xInv : List Value → World → Prop) (mu : List Value → World → Nat), (∀ wr20, ExtX [b, b1] wv3 wr20 → (∀ bq ∈ ([b, b1] : List Nat), bq < wr20.heap.size) → xInv [.int .i64 0] wr20) ∧
    ∀ (i : Int) wv11, (∀ bq ∈ ([b, b1] : List Nat), bq < wv11.heap.size) → xInv [.int .i64 i] wv11 →
    ((decide (i < ((queue3L : Nat) : Int))) = true →
    Ix queue3O queue3L i ∧
    (∃ (v : Int),
    CellsX [b, b1] wv11 queue3O (Int.toNat i * 4 + 1) [.int .i64 v] ∧
    InR .i64 (v + 100000000000000000) ∧
    InR .i64 ((v + 100000000000000000) - 5000000000) ∧
    Ix queue3O queue3L i ∧
    WrX [b, b1] wv11 queue3O (Int.toNat i * 4 + 1) 1 ∧
    InR .i64 (i + 1) ∧
    (∀ wr21, ExtX [b, b1] (sto wv11 queue3O (Int.toNat i * 4 + 1) [.int .i64 ((v + 100000000000000000) - 5000000000)]) wr21 → (∀ bq ∈ ([b, b1] : List Nat), bq < wr21.heap.size) → xInv [.int .i64 (i + 1)] wr21 ∧ mu [.int .i64 (i + 1)] wr21 < mu [.int .i64 i] wv11))) ∧
    ((decide (i < ((queue3L : Nat) : Int))) = false →
    InR .i64 (queue + 100000000000000000) ∧
    InR .i64 ((queue + 100000000000000000) - 5000000000) ∧
    (∀ wr22, ExtX [b, b1] wv11 wr22 → R (.agg #[.int .i64 ((queue + 100000000000000000) - 5000000000), .int .i64 queue1, .int .i64 queue2, .slice queue3O queue3L queue3C]) wr22)))) ∧
    ((pick2 == 8) = false →
    (∀ wr23, ExtX [b, b1] wv3 wr23 → R (.agg #[.int .i64 queue, .int .i64 queue1, .int .i64 queue2, .slice queue3O queue3L queue3C]) wr23)))))))))))))))))))))
theorem v_spec_l20Rd_spoilt (r : Option Addr) (w : World) (R : Value → World → Prop) : evFn c_spec_l20Rd_spoilt s_spec_l20Rd_spoilt [.pointer r] (bodyOf Try.f77) Try.f77.results.toList w R = V_spec_l20Rd_spoilt r w R := by kernel_rfl
theorem e_spec_l20Rd_spoilt (r : Option Addr) {w : World} {R : Value → World → Prop} (hvc : V_spec_l20Rd_spoilt r w R) : Calls Try.prog fn_spec_l20Rd_spoilt #[.pointer r] w fun e0 wr0 => ∃ v0, e0 = .returned v0 ∧ R v0 wr0 :=
  eff_of_ev (C := c_spec_l20Rd_spoilt) (sps := s_spec_l20Rd_spoilt) (body := bodyOf Try.f77) (env _ _ _) Try.func77 rfl rfl (of_decide_eq_true (by kernel_rfl)) (of_decide_eq_true (by kernel_rfl)) rfl (by rw [v_spec_l20Rd_spoilt]; exact hvc)
noncomputable def c_spec_DrawQueuePlay : Cfg := { P := Try.prog, T := tblGet tbl, pf := pfT, ef := efT, tt := ttT, vis := [], n := 31, pm := false }
noncomputable def s_spec_DrawQueuePlay : List (Nat × LSpec) := [(6, { chg := [(6, .slice), (8, .int .i64)], chgL := [], keep := [2, 4, 5, 7] })]
def V_spec_DrawQueuePlay (codeO : Option Addr) (codeL : Nat) (codeC : Nat) (w : World) (R : Value → World → Prop) : Prop :=
    (∀ b, w.heap.size ≤ b →
    (∀ wr, ExtX [] w wr → (∀ bq ∈ ([b] : List Nat), bq < wr.heap.size) → 
    Calls Try.prog fn_spec_l20Open #[.slice codeO codeL codeC] wr fun e wv =>
    (∃ (l20Ope : Option Addr),
    e = .returned (.pointer l20Ope) ∧ Kept [b] wr wv ∧
    (∀ wr1, ExtX [b] wv wr1 → (∀ bq ∈ ([b] : List Nat), bq < wr1.heap.size) → 
    Calls Try.prog fn_spec_l20Rd_spoilt #[.pointer l20Ope] wr1 fun e1 wv1 =>
    (∃ (spoilt : Int) (spoilt1 : Int) (spoilt2 : Int) (spoilt3O : Option Addr) (spoilt3L : Nat) (spoilt3C : Nat),
    e1 = .returned (.agg #[.int .i64 spoilt, .int .i64 spoilt1, .int .i64 spoilt2, .slice spoilt3O spoilt3L spoilt3C]) ∧ Kept [b] wr1 wv1 ∧
    (∀ b1, wv1.heap.size ≤ b1 →
    (∀ wr2, ExtX [b] wv1 wr2 → (∀ bq ∈ ([b, b1] : List Nat), bq < wr2.heap.size) → 
    Calls Try.prog fn_spec_l20Rd_pick #[.pointer l20Ope, .int .i64 30] wr2 fun e2 wv2 =>
    (∃ (pick : Int),
    e2 = .returned (.int .i64 pick) ∧ Kept [b, b1] wr2 wv2 ∧
    (∃ (xInv : List Value → World → Prop) (mu : List Value → World → Nat), (∀ wr3, ExtX [b, b1] wv2 wr3 → (∀ bq ∈ ([b, b1] : List Nat), bq < wr3.heap.size) → xInv [.slice none 0 0, .int .i64 0] wr3) ∧
    ∀ (opsO : Option Addr) (opsL : Nat) (opsC : Nat) (i : Int) wv3, (∀ bq ∈ ([b, b1] : List Nat), bq < wv3.heap.size) → xInv [.slice opsO opsL opsC, .int .i64 i] wv3 →
    ((decide (i < pick)) = true →
    (∃ (l1Max : Int),
    PureX [b, b1] Try.prog fn_spec_l1Max #[.int .i64 1, .int .i64 ((spoilt3L : Nat) : Int)] wv3 (.int .i64 l1Max) ∧
    (∀ wr4, ExtX [b, b1] wv3 wr4 → (∀ bq ∈ ([b, b1] : List Nat), bq < wr4.heap.size) → 
    Calls Try.prog fn_spec_l20Rd_op #[.pointer l20Ope, .int .i64 l1Max] wr4 fun e3 wv4 =>
    (∃ (op : Int) (op1 : Int) (op2 : Int),
    e3 = .returned (.agg #[.int .i64 op, .int .i64 op1, .int .i64 op2]) ∧ Kept [b, b1] wr4 wv4 ∧
    (∀ b2, wv4.heap.size ≤ b2 →
    (∀ wr5, ExtX [b, b1] wv4 wr5 → (∀ bq ∈ ([b, b1, b2] : List Nat), bq < wr5.heap.size) → wr5.heap[b2]? = some (Obj.cells ([.int .i64 op, .int .i64 op1, .int .i64 op2] : List Value).toArray ty_impl_QueueOp (0, 0)) → 
    (∃ (apO : Option Addr) (apL : Nat) (apC : Nat),
    ∃ wv5, (builtin .append #[ty_sl_impl_QueueOp, ty_sl_impl_QueueOp] ty_sl_impl_QueueOp #[false, false] #[.slice opsO opsL opsC, .slice (some (Addr.mk b2 0 none)) 1 1]).run Try.prog wr5 = .ok (.value (.slice apO apL apC)) wv5 ∧ Kept [b, b1, b2] wr5 wv5 ∧
    InR .i64 (i + 1) ∧
    (∀ wr6, ExtX [b, b1, b2] wv5 wr6 → (∀ bq ∈ ([b, b1, b2] : List Nat), bq < wr6.heap.size) → xInv [.slice apO apL apC, .int .i64 (i + 1)] wr6 ∧ mu [.slice apO apL apC, .int .i64 (i + 1)] wr6 < mu [.slice opsO opsL opsC, .int .i64 i] wv3)))))))) ∧
    ((decide (i < pick)) = false →
    (∀ wr7, ExtX [b, b1] wv3 wr7 → R (.tuple #[.agg #[.int .i64 spoilt, .int .i64 spoilt1, .int .i64 spoilt2, .slice spoilt3O spoilt3L spoilt3C], .slice opsO opsL opsC]) wr7)))))))))))
theorem v_spec_DrawQueuePlay (codeO : Option Addr) (codeL : Nat) (codeC : Nat) (w : World) (R : Value → World → Prop) : evFn c_spec_DrawQueuePlay s_spec_DrawQueuePlay [.slice codeO codeL codeC] (bodyOf Try.f29) Try.f29.results.toList w R = V_spec_DrawQueuePlay codeO codeL codeC w R := by kernel_rfl
theorem e_spec_DrawQueuePlay (codeO : Option Addr) (codeL : Nat) (codeC : Nat) {w : World} {R : Value → World → Prop} (hvc : V_spec_DrawQueuePlay codeO codeL codeC w R) : Calls Try.prog fn_spec_DrawQueuePlay #[.slice codeO codeL codeC] w fun e0 wr0 => ∃ v0, e0 = .returned v0 ∧ R v0 wr0 :=
  eff_of_ev (C := c_spec_DrawQueuePlay) (sps := s_spec_DrawQueuePlay) (body := bodyOf Try.f29) (env _ _ _) Try.func29 rfl rfl (of_decide_eq_true (by kernel_rfl)) (of_decide_eq_true (by kernel_rfl)) rfl (by rw [v_spec_DrawQueuePlay]; exact hvc)
noncomputable def c_impl_QueuePlay : Cfg := { P := Try.prog, T := tblGet tbl, pf := pfT, ef := efT, tt := ttT, vis := [], n := 43, pm := false }
noncomputable def s_impl_QueuePlay : List (Nat × LSpec) := [(5, { chg := [(7, .int .i64), (25, .int .i64)], chgL := [(2, [.int .i64, .int .i64, .int .i64, .slice])], keep := [4, 6, 23, 24] })]
def V_impl_QueuePlay (q0 : Int) (q1 : Int) (q2 : Int) (q3O : Option Addr) (q3L : Nat) (q3C : Nat) (opsO : Option Addr) (opsL : Nat) (opsC : Nat) (w : World) (R : Value → World → Prop) : Prop :=
    (∀ b, w.heap.size ≤ b →
    (∀ b1, w.heap.size ≤ b1 →
    (∃ (xQueueO : Bool),
    PureX [] Try.prog fn_impl_QueueOk #[.agg #[.int .i64 q0, .int .i64 q1, .int .i64 q2, .slice q3O q3L q3C]] w (.bool xQueueO) ∧
    (((!xQueueO) || (decide (((opsL : Nat) : Int) > 2000))) = true →
    (∀ wr, ExtX [] w wr → R (.tuple #[.agg #[.int .i64 0, .int .i64 0, .int .i64 0, .slice none 0 0], .int .i64 0]) wr)) ∧
    (((!xQueueO) || (decide (((opsL : Nat) : Int) > 2000))) = false →
    (∀ wr1, ExtX [] w wr1 → (∀ bq ∈ ([b, b1] : List Nat), bq < wr1.heap.size) → 
    Calls Try.prog fn_impl_queueCopy #[.agg #[.int .i64 q0, .int .i64 q1, .int .i64 q2, .slice q3O q3L q3C]] wr1 fun e wv =>
    (∃ (queueC : Int) (queueC1 : Int) (queueC2 : Int) (queueC3O : Option Addr) (queueC3L : Nat) (queueC3C : Nat),
    e = .returned (.agg #[.int .i64 queueC, .int .i64 queueC1, .int .i64 queueC2, .slice queueC3O queueC3L queueC3C]) ∧ Kept [b, b1] wr1 wv ∧
    (∀ b2, wv.heap.size ≤ b2 →
    (∃ (xInv1 : List Value → World → Prop) (mu1 : List Value → World → Nat), (∀ wr4, ExtX [b, b1] wv wr4 → (∀ bq ∈ ([b, b1, b2] : List Nat), bq < wr4.heap.size) → xInv1 [.int .i64 0, .int .i64 0, .int .i64 queueC, .int .i64 queueC1, .int .i64 queueC2, .slice queueC3O queueC3L queueC3C] wr4) ∧
    ∀ (refused1 : Int) (x3 : Int) (l : Int) (l1 : Int) (l2 : Int) (l3O : Option Addr) (l3L : Nat) (l3C : Nat) wv3, (∀ bq ∈ ([b, b1, b2] : List Nat), bq < wv3.heap.size) → xInv1 [.int .i64 refused1, .int .i64 x3, .int .i64 l, .int .i64 l1, .int .i64 l2, .slice l3O l3L l3C] wv3 →
    ((decide (x3 < ((opsL : Nat) : Int))) = true →
    Ix opsO opsL x3 ∧
    (∃ (x01 : Int) (x11 : Int) (x21 : Int),
    CellsX [b, b1, b2] wv3 opsO (Int.toNat x3 * 3) [.int .i64 x01, .int .i64 x11, .int .i64 x21] ∧
    (∀ b5, wv3.heap.size ≤ b5 →
    (∀ wr5, ExtX [b, b1, b2] wv3 wr5 → (∀ bq ∈ ([b, b1, b2, b5] : List Nat), bq < wr5.heap.size) → 
    Calls Try.prog fn_impl_QueueDo #[.agg #[.int .i64 l, .int .i64 l1, .int .i64 l2, .slice l3O l3L l3C], .agg #[.int .i64 x01, .int .i64 x11, .int .i64 x21]] wr5 fun e2 wv4 =>
    (∃ (xQueueD5 : Int) (xQueueD6 : Int) (xQueueD7 : Int) (xQueueD8O : Option Addr) (xQueueD8L : Nat) (xQueueD8C : Nat) (xQueueD9 : Bool),
    e2 = .returned (.tuple #[.agg #[.int .i64 xQueueD5, .int .i64 xQueueD6, .int .i64 xQueueD7, .slice xQueueD8O xQueueD8L xQueueD8C], .bool xQueueD9]) ∧ Kept [b, b1, b2, b5] wr5 wv4 ∧
    (∀ b6, wv4.heap.size ≤ b6 →
    ((!xQueueD9) = true →
    InR .i64 (refused1 + 1) ∧
    InR .i64 (x3 + 1) ∧
    (∀ wr6, ExtX [b, b1, b2, b5] wv4 wr6 → (∀ bq ∈ ([b, b1, b2, b5, b6] : List Nat), bq < wr6.heap.size) → xInv1 [.int .i64 (refused1 + 1), .int .i64 (x3 + 1), .int .i64 xQueueD5, .int .i64 xQueueD6, .int .i64 xQueueD7, .slice xQueueD8O xQueueD8L xQueueD8C] wr6 ∧ mu1 [.int .i64 (refused1 + 1), .int .i64 (x3 + 1), .int .i64 xQueueD5, .int .i64 xQueueD6, .int .i64 xQueueD7, .slice xQueueD8O xQueueD8L xQueueD8C] wr6 < mu1 [.int .i64 refused1, .int .i64 x3, .int .i64 l, .int .i64 l1, .int .i64 l2, .slice l3O l3L l3C] wv3)) ∧
    ((!xQueueD9) = false →
    InR .i64 (x3 + 1) ∧
    (∀ wr7, ExtX [b, b1, b2, b5] wv4 wr7 → (∀ bq ∈ ([b, b1, b2, b5, b6] : List Nat), bq < wr7.heap.size) → xInv1 [.int .i64 refused1, .int .i64 (x3 + 1), .int .i64 xQueueD5, .int .i64 xQueueD6, .int .i64 xQueueD7, .slice xQueueD8O xQueueD8L xQueueD8C] wr7 ∧ mu1 [.int .i64 refused1, .int .i64 (x3 + 1), .int .i64 xQueueD5, .int .i64 xQueueD6, .int .i64 xQueueD7, .slice xQueueD8O xQueueD8L xQueueD8C] wr7 < mu1 [.int .i64 refused1, .int .i64 x3, .int .i64 l, .int .i64 l1, .int .i64 l2, .slice l3O l3L l3C] wv3)))))))) ∧
    ((decide (x3 < ((opsL : Nat) : Int))) = false →
    (∀ wr8, ExtX [b, b1, b2] wv3 wr8 → R (.tuple #[.agg #[.int .i64 l, .int .i64 l1, .int .i64 l2, .slice l3O l3L l3C], .int .i64 refused1]) wr8))))))))))
theorem v_impl_QueuePlay (q0 : Int) (q1 : Int) (q2 : Int) (q3O : Option Addr) (q3L : Nat) (q3C : Nat) (opsO : Option Addr) (opsL : Nat) (opsC : Nat) (w : World) (R : Value → World → Prop) : evFn c_impl_QueuePlay s_impl_QueuePlay [.agg #[.int .i64 q0, .int .i64 q1, .int .i64 q2, .slice q3O q3L q3C], .slice opsO opsL opsC] (bodyOf Try.f30) Try.f30.results.toList w R = V_impl_QueuePlay q0 q1 q2 q3O q3L q3C opsO opsL opsC w R := by kernel_rfl
theorem e_impl_QueuePlay (q0 : Int) (q1 : Int) (q2 : Int) (q3O : Option Addr) (q3L : Nat) (q3C : Nat) (opsO : Option Addr) (opsL : Nat) (opsC : Nat) {w : World} {R : Value → World → Prop} (hvc : V_impl_QueuePlay q0 q1 q2 q3O q3L q3C opsO opsL opsC w R) : Calls Try.prog fn_impl_QueuePlay #[.agg #[.int .i64 q0, .int .i64 q1, .int .i64 q2, .slice q3O q3L q3C], .slice opsO opsL opsC] w fun e0 wr0 => ∃ v0, e0 = .returned v0 ∧ R v0 wr0 :=
  eff_of_ev (C := c_impl_QueuePlay) (sps := s_impl_QueuePlay) (body := bodyOf Try.f30) (env _ _ _) Try.func30 rfl rfl (of_decide_eq_true (by kernel_rfl)) (of_decide_eq_true (by kernel_rfl)) rfl (by rw [v_impl_QueuePlay]; exact hvc)
noncomputable def c_spec_QueuePlay : Cfg := { P := Try.prog, T := tblGet tbl, pf := pfT, ef := efT, tt := ttT, vis := [], n := 43, pm := false }
noncomputable def s_spec_QueuePlay : List (Nat × LSpec) := [(6, { chg := [(6, .int .i64), (7, .int .i64)], chgL := [(0, [.int .i64, .int .i64, .int .i64, .slice])], keep := [1, 2, 4] })]
def V_spec_QueuePlay (q0 : Int) (q1 : Int) (q2 : Int) (q3O : Option Addr) (q3L : Nat) (q3C : Nat) (opsO : Option Addr) (opsL : Nat) (opsC : Nat) (w : World) (R : Value → World → Prop) : Prop :=
    (∀ b, w.heap.size ≤ b →
    (∀ b1, w.heap.size ≤ b1 →
    (∃ (xQueueO : Bool),
    PureX [] Try.prog fn_spec_QueueOk #[.agg #[.int .i64 q0, .int .i64 q1, .int .i64 q2, .slice q3O q3L q3C]] w (.bool xQueueO) ∧
    (((!xQueueO) || (decide (((opsL : Nat) : Int) > 2000))) = true →
    (∀ wr, ExtX [] w wr → R (.tuple #[.agg #[.int .i64 0, .int .i64 0, .int .i64 0, .slice none 0 0], .int .i64 0]) wr)) ∧
    (((!xQueueO) || (decide (((opsL : Nat) : Int) > 2000))) = false →
    (∀ wr1, ExtX [] w wr1 → (∀ bq ∈ ([b, b1] : List Nat), bq < wr1.heap.size) → 
    Calls Try.prog fn_spec_l4Own #[.agg #[.int .i64 q0, .int .i64 q1, .int .i64 q2, .slice q3O q3L q3C]] wr1 fun e wv =>
    (∃ (l4Own : Int) (l4Own1 : Int) (l4Own2 : Int) (l4Own3O : Option Addr) (l4Own3L : Nat) (l4Own3C : Nat),
    e = .returned (.agg #[.int .i64 l4Own, .int .i64 l4Own1, .int .i64 l4Own2, .slice l4Own3O l4Own3L l4Own3C]) ∧ Kept [b, b1] wr1 wv ∧
    (∃ (xInv1 : List Value → World → Prop) (mu1 : List Value → World → Nat), (∀ wr4, ExtX [b, b1] wv wr4 → (∀ bq ∈ ([b, b1] : List Nat), bq < wr4.heap.size) → xInv1 [.int .i64 0, .int .i64 0, .int .i64 l4Own, .int .i64 l4Own1, .int .i64 l4Own2, .slice l4Own3O l4Own3L l4Own3C] wr4) ∧
    ∀ (refused1 : Int) (i1 : Int) (l : Int) (l1 : Int) (l2 : Int) (l3O : Option Addr) (l3L : Nat) (l3C : Nat) wv3, (∀ bq ∈ ([b, b1] : List Nat), bq < wv3.heap.size) → xInv1 [.int .i64 refused1, .int .i64 i1, .int .i64 l, .int .i64 l1, .int .i64 l2, .slice l3O l3L l3C] wv3 →
    ((decide (i1 < ((opsL : Nat) : Int))) = true →
    Ix opsO opsL i1 ∧
    (∃ (x01 : Int) (x11 : Int) (x21 : Int),
    CellsX [b, b1] wv3 opsO (Int.toNat i1 * 3) [.int .i64 x01, .int .i64 x11, .int .i64 x21] ∧
    ((∀ wr5, ExtX [b, b1] wv3 wr5 → (∀ bq ∈ ([b, b1] : List Nat), bq < wr5.heap.size) → 
    Calls Try.prog fn_spec_QueueDo #[.agg #[.int .i64 l, .int .i64 l1, .int .i64 l2, .slice l3O l3L l3C], .agg #[.int .i64 x01, .int .i64 x11, .int .i64 x21]] wr5 fun e2 wv4 =>
    (∃ (xQueueD5 : Int) (xQueueD6 : Int) (xQueueD7 : Int) (xQueueD8O : Option Addr) (xQueueD8L : Nat) (xQueueD8C : Nat) (xQueueD9 : Bool),
    e2 = .returned (.tuple #[.agg #[.int .i64 xQueueD5, .int .i64 xQueueD6, .int .i64 xQueueD7, .slice xQueueD8O xQueueD8L xQueueD8C], .bool xQueueD9]) ∧ Kept [b, b1] wr5 wv4 ∧
    (∀ b3, wv4.heap.size ≤ b3 →
    CellsX [b, b1] wv4 opsO (Int.toNat i1 * 3) [.int .i64 x01, .int .i64 x11, .int .i64 x21] ∧
    (some (ty_impl_Queue, ([.int .i64 l, .int .i64 l1, .int .i64 l2, .slice l3O l3L l3C] : List Value)) = some (ty_impl_Queue, ([.int .i64 l, .int .i64 l1, .int .i64 l2, .slice l3O l3L l3C] : List Value))) ∧
    ((!xQueueD9) = true →
    InR .i64 (refused1 + 1) ∧
    InR .i64 (i1 + 1) ∧
    (∀ wr6, ExtX [b, b1] wv4 wr6 → (∀ bq ∈ ([b, b1, b3] : List Nat), bq < wr6.heap.size) → xInv1 [.int .i64 (refused1 + 1), .int .i64 (i1 + 1), .int .i64 xQueueD5, .int .i64 xQueueD6, .int .i64 xQueueD7, .slice xQueueD8O xQueueD8L xQueueD8C] wr6 ∧ mu1 [.int .i64 (refused1 + 1), .int .i64 (i1 + 1), .int .i64 xQueueD5, .int .i64 xQueueD6, .int .i64 xQueueD7, .slice xQueueD8O xQueueD8L xQueueD8C] wr6 < mu1 [.int .i64 refused1, .int .i64 i1, .int .i64 l, .int .i64 l1, .int .i64 l2, .slice l3O l3L l3C] wv3)) ∧
    ((!xQueueD9) = false →
    InR .i64 (i1 + 1) ∧
    (∀ wr7, ExtX [b, b1] wv4 wr7 → (∀ bq ∈ ([b, b1, b3] : List Nat), bq < wr7.heap.size) → xInv1 [.int .i64 refused1, .int .i64 (i1 + 1), .int .i64 xQueueD5, .int .i64 xQueueD6, .int .i64 xQueueD7, .slice xQueueD8O xQueueD8L xQueueD8C] wr7 ∧ mu1 [.int .i64 refused1, .int .i64 (i1 + 1), .int .i64 xQueueD5, .int .i64 xQueueD6, .int .i64 xQueueD7, .slice xQueueD8O xQueueD8L xQueueD8C] wr7 < mu1 [.int .i64 refused1, .int .i64 i1, .int .i64 l, .int .i64 l1, .int .i64 l2, .slice l3O l3L l3C] wv3)))))) ∧
    ((∀ b4, wv3.heap.size ≤ b4 →
    CellsX [b, b1] wv3 opsO (Int.toNat i1 * 3) [.int .i64 x01, .int .i64 x11, .int .i64 x21] ∧
    (some (ty_impl_Queue, ([.int .i64 l, .int .i64 l1, .int .i64 l2, .slice l3O l3L l3C] : List Value)) = some (ty_impl_Queue, ([.int .i64 l, .int .i64 l1, .int .i64 l2, .slice l3O l3L l3C] : List Value))) ∧
    (∀ wr8, ExtX [b, b1] wv3 wr8 → (∀ bq ∈ ([b, b1, b4] : List Nat), bq < wr8.heap.size) → 
    Calls Try.prog fn_spec_QueueDo #[.agg #[.int .i64 l, .int .i64 l1, .int .i64 l2, .slice l3O l3L l3C], .agg #[.int .i64 x01, .int .i64 x11, .int .i64 x21]] wr8 fun e3 wv5 =>
    (∃ (xQueueD10 : Int) (xQueueD11 : Int) (xQueueD12 : Int) (xQueueD13O : Option Addr) (xQueueD13L : Nat) (xQueueD13C : Nat) (xQueueD14 : Bool),
    e3 = .returned (.tuple #[.agg #[.int .i64 xQueueD10, .int .i64 xQueueD11, .int .i64 xQueueD12, .slice xQueueD13O xQueueD13L xQueueD13C], .bool xQueueD14]) ∧ Kept [b, b1, b4] wr8 wv5 ∧
    ((!xQueueD14) = true →
    InR .i64 (refused1 + 1) ∧
    InR .i64 (i1 + 1) ∧
    (∀ wr9, ExtX [b, b1, b4] wv5 wr9 → (∀ bq ∈ ([b, b1, b4] : List Nat), bq < wr9.heap.size) → xInv1 [.int .i64 (refused1 + 1), .int .i64 (i1 + 1), .int .i64 xQueueD10, .int .i64 xQueueD11, .int .i64 xQueueD12, .slice xQueueD13O xQueueD13L xQueueD13C] wr9 ∧ mu1 [.int .i64 (refused1 + 1), .int .i64 (i1 + 1), .int .i64 xQueueD10, .int .i64 xQueueD11, .int .i64 xQueueD12, .slice xQueueD13O xQueueD13L xQueueD13C] wr9 < mu1 [.int .i64 refused1, .int .i64 i1, .int .i64 l, .int .i64 l1, .int .i64 l2, .slice l3O l3L l3C] wv3)) ∧
    ((!xQueueD14) = false →
    InR .i64 (i1 + 1) ∧
    (∀ wr10, ExtX [b, b1, b4] wv5 wr10 → (∀ bq ∈ ([b, b1, b4] : List Nat), bq < wr10.heap.size) → xInv1 [.int .i64 refused1, .int .i64 (i1 + 1), .int .i64 xQueueD10, .int .i64 xQueueD11, .int .i64 xQueueD12, .slice xQueueD13O xQueueD13L xQueueD13C] wr10 ∧ mu1 [.int .i64 refused1, .int .i64 (i1 + 1), .int .i64 xQueueD10, .int .i64 xQueueD11, .int .i64 xQueueD12, .slice xQueueD13O xQueueD13L xQueueD13C] wr10 < mu1 [.int .i64 refused1, .int .i64 i1, .int .i64 l, .int .i64 l1, .int .i64 l2, .slice l3O l3L l3C] wv3)))))))) ∧
    ((decide (i1 < ((opsL : Nat) : Int))) = false →
    (∀ wr11, ExtX [b, b1] wv3 wr11 → R (.tuple #[.agg #[.int .i64 l, .int .i64 l1, .int .i64 l2, .slice l3O l3L l3C], .int .i64 refused1]) wr11)))))))))
theorem v_spec_QueuePlay (q0 : Int) (q1 : Int) (q2 : Int) (q3O : Option Addr) (q3L : Nat) (q3C : Nat) (opsO : Option Addr) (opsL : Nat) (opsC : Nat) (w : World) (R : Value → World → Prop) : evFn c_spec_QueuePlay s_spec_QueuePlay [.agg #[.int .i64 q0, .int .i64 q1, .int .i64 q2, .slice q3O q3L q3C], .slice opsO opsL opsC] (bodyOf Try.f31) Try.f31.results.toList w R = V_spec_QueuePlay q0 q1 q2 q3O q3L q3C opsO opsL opsC w R := by kernel_rfl
theorem e_spec_QueuePlay (q0 : Int) (q1 : Int) (q2 : Int) (q3O : Option Addr) (q3L : Nat) (q3C : Nat) (opsO : Option Addr) (opsL : Nat) (opsC : Nat) {w : World} {R : Value → World → Prop} (hvc : V_spec_QueuePlay q0 q1 q2 q3O q3L q3C opsO opsL opsC w R) : Calls Try.prog fn_spec_QueuePlay #[.agg #[.int .i64 q0, .int .i64 q1, .int .i64 q2, .slice q3O q3L q3C], .slice opsO opsL opsC] w fun e0 wr0 => ∃ v0, e0 = .returned v0 ∧ R v0 wr0 :=
  eff_of_ev (C := c_spec_QueuePlay) (sps := s_spec_QueuePlay) (body := bodyOf Try.f31) (env _ _ _) Try.func31 rfl rfl (of_decide_eq_true (by kernel_rfl)) (of_decide_eq_true (by kernel_rfl)) rfl (by rw [v_spec_QueuePlay]; exact hvc)
noncomputable def c_laws_FnQueuePlay : Cfg := { P := Try.prog, T := tblGet tbl, pf := pfT, ef := efT, tt := ttT, vis := [], n := 106, pm := false }
noncomputable def s_laws_FnQueuePlay : List (Nat × LSpec) := [(1000007, { chg := [(7, .int .i64)], chgL := [], keep := [5, 6] }), (1000009, { chg := [(11, .int .i64)], chgL := [], keep := [5, 6, 7, 8, 9], newL := [(ty_impl_Queue, [.int .i64, .int .i64, .int .i64, .slice])], ptr := [(10, 0)] }), (1000010, { chg := [(13, .int .i64)], chgL := [], keep := [5, 6, 8, 9, 11], newL := [(ty_impl_Queue, [.int .i64, .int .i64, .int .i64, .slice])], ptr := [(12, 0)] })]
def V_laws_FnQueuePlay (codeO : Option Addr) (codeL : Nat) (codeC : Nat) (moreO : Option Addr) (moreL : Nat) (moreC : Nat) (w : World) (R : Value → World → Prop) : Prop :=
    (((decide (((codeL : Nat) : Int) > 1048576)) || (decide (((moreL : Nat) : Int) > 1048576))) = true →
    (∀ wr, ExtX [] w wr → R (.bool true) wr)) ∧
    (((decide (((codeL : Nat) : Int) > 1048576)) || (decide (((moreL : Nat) : Int) > 1048576))) = false →
    (∀ wr1, ExtX [] w wr1 → (∀ bq ∈ ([] : List Nat), bq < wr1.heap.size) → 
    Calls Try.prog fn_spec_DrawQueuePlay #[.slice codeO codeL codeC] wr1 fun e wv =>
    (∃ (xDrawQu : Int) (xDrawQu1 : Int) (xDrawQu2 : Int) (xDrawQu3O : Option Addr) (xDrawQu3L : Nat) (xDrawQu3C : Nat) (xDrawQu4O : Option Addr) (xDrawQu4L : Nat) (xDrawQu4C : Nat),
    e = .returned (.tuple #[.agg #[.int .i64 xDrawQu, .int .i64 xDrawQu1, .int .i64 xDrawQu2, .slice xDrawQu3O xDrawQu3L xDrawQu3C], .slice xDrawQu4O xDrawQu4L xDrawQu4C]) ∧ Kept [] wr1 wv ∧
    (∀ b, wv.heap.size ≤ b →
    (∃ (Mid : List Value → List Nat → World → Prop),
    (((decide (((xDrawQu4L : Nat) : Int) > 0)) = true →
    (∃ (stByte : Int),
    PureX [] Try.prog fn_laws_stByte #[.slice moreO moreL moreC, .int .i64 0] wv (.int .i64 stByte) ∧
    InR .i64 (((xDrawQu4L : Nat) : Int) + 1) ∧
    ((xDrawQu4L : Nat) : Int) + 1 ≠ 0 ∧
    (∀ wr2, ExtX [] wv wr2 → (∀ bq ∈ ([b] : List Nat), bq < wr2.heap.size) → Mid [.int .i64 (Int.tmod stByte (((xDrawQu4L : Nat) : Int) + 1))] [] wr2))) ∧
    ((decide (((xDrawQu4L : Nat) : Int) > 0)) = false →
    (∀ wr3, ExtX [] wv wr3 → (∀ bq ∈ ([b] : List Nat), bq < wr3.heap.size) → Mid [.int .i64 0] [] wr3))) ∧
    (∀ (k : Int) (wv1 : World), (∀ bq ∈ ([b] : List Nat), bq < wv1.heap.size) → Mid [.int .i64 k] [] wv1 →
    (∀ wr4, ExtX [b] wv1 wr4 → (∀ bq ∈ ([b] : List Nat), bq < wr4.heap.size) → 
    Calls Try.prog fn_impl_QueuePlay #[.agg #[.int .i64 xDrawQu, .int .i64 xDrawQu1, .int .i64 xDrawQu2, .slice xDrawQu3O xDrawQu3L xDrawQu3C], .slice xDrawQu4O xDrawQu4L xDrawQu4C] wr4 fun e1 wv2 =>
    (∃ (xQueueP : Int) (xQueueP1 : Int) (xQueueP2 : Int) (xQueueP3O : Option Addr) (xQueueP3L : Nat) (xQueueP3C : Nat) (xQueueP4 : Int),
    e1 = .returned (.tuple #[.agg #[.int .i64 xQueueP, .int .i64 xQueueP1, .int .i64 xQueueP2, .slice xQueueP3O xQueueP3L xQueueP3C], .int .i64 xQueueP4]) ∧ Kept [b] wr4 wv2 ∧
    (∀ b1, wv2.heap.size ≤ b1 →
    (∃ (Mid1 : List Value → List Nat → World → Prop),
    ((0 ≤ (0 : Int) ∧ (0 : Int) ≤ k ∧ k ≤ (xDrawQu4C : Int)) ∧
    ((∀ wr5, ExtX [b] wv2 wr5 → (∀ bq ∈ ([b, b1] : List Nat), bq < wr5.heap.size) → 
    Calls Try.prog fn_impl_QueuePlay #[.agg #[.int .i64 xDrawQu, .int .i64 xDrawQu1, .int .i64 xDrawQu2, .slice xDrawQu3O xDrawQu3L xDrawQu3C], .slice (if xDrawQu4C = Int.toNat 0 then xDrawQu4O else xDrawQu4O.map (·.add (Int.toNat 0 * 3))) (Int.toNat k - Int.toNat 0) (xDrawQu4C - Int.toNat 0)] wr5 fun e2 wv3 =>
    (∃ (xQueueP5 : Int) (xQueueP6 : Int) (xQueueP7 : Int) (xQueueP8O : Option Addr) (xQueueP8L : Nat) (xQueueP8C : Nat) (xQueueP9 : Int),
    e2 = .returned (.tuple #[.agg #[.int .i64 xQueueP5, .int .i64 xQueueP6, .int .i64 xQueueP7, .slice xQueueP8O xQueueP8L xQueueP8C], .int .i64 xQueueP9]) ∧ Kept [b, b1] wr5 wv3 ∧
    (∀ b2, wv3.heap.size ≤ b2 →
    (some (ty_impl_Queue, ([.int .i64 xDrawQu, .int .i64 xDrawQu1, .int .i64 xDrawQu2, .slice xDrawQu3O xDrawQu3L xDrawQu3C] : List Value)) = some (ty_impl_Queue, ([.int .i64 xDrawQu, .int .i64 xDrawQu1, .int .i64 xDrawQu2, .slice xDrawQu3O xDrawQu3L xDrawQu3C] : List Value))) ∧
    (∀ wr6, ExtX [b, b1] wv3 wr6 → (∀ bq ∈ ([b, b1, b2] : List Nat), bq < wr6.heap.size) → Mid1 [.int .i64 xQueueP9, .int .i64 xQueueP5, .int .i64 xQueueP6, .int .i64 xQueueP7, .slice xQueueP8O xQueueP8L xQueueP8C] [b2] wr6))))) ∧
    ((∀ b3, wv2.heap.size ≤ b3 →
    (some (ty_impl_Queue, ([.int .i64 xDrawQu, .int .i64 xDrawQu1, .int .i64 xDrawQu2, .slice xDrawQu3O xDrawQu3L xDrawQu3C] : List Value)) = some (ty_impl_Queue, ([.int .i64 xDrawQu, .int .i64 xDrawQu1, .int .i64 xDrawQu2, .slice xDrawQu3O xDrawQu3L xDrawQu3C] : List Value))) ∧
    (∀ wr7, ExtX [b] wv2 wr7 → (∀ bq ∈ ([b, b1, b3] : List Nat), bq < wr7.heap.size) → 
    Calls Try.prog fn_impl_QueuePlay #[.agg #[.int .i64 xDrawQu, .int .i64 xDrawQu1, .int .i64 xDrawQu2, .slice xDrawQu3O xDrawQu3L xDrawQu3C], .slice (if xDrawQu4C = Int.toNat 0 then xDrawQu4O else xDrawQu4O.map (·.add (Int.toNat 0 * 3))) (Int.toNat k - Int.toNat 0) (xDrawQu4C - Int.toNat 0)] wr7 fun e3 wv4 =>
    (∃ (xQueueP10 : Int) (xQueueP11 : Int) (xQueueP12 : Int) (xQueueP13O : Option Addr) (xQueueP13L : Nat) (xQueueP13C : Nat) (xQueueP14 : Int),
    e3 = .returned (.tuple #[.agg #[.int .i64 xQueueP10, .int .i64 xQueueP11, .int .i64 xQueueP12, .slice xQueueP13O xQueueP13L xQueueP13C], .int .i64 xQueueP14]) ∧ Kept [b, b1, b3] wr7 wv4 ∧
    (∀ wr8, ExtX [b, b1, b3] wv4 wr8 → (∀ bq ∈ ([b, b1, b3] : List Nat), bq < wr8.heap.size) → Mid1 [.int .i64 xQueueP14, .int .i64 xQueueP10, .int .i64 xQueueP11, .int .i64 xQueueP12, .slice xQueueP13O xQueueP13L xQueueP13C] [b3] wr8)))))) ∧
    (∀ (b4 : Int) (l : Int) (l1 : Int) (l2 : Int) (l3O : Option Addr) (l3L : Nat) (l3C : Nat) (b5 : Nat) (wv5 : World), (∀ bq ∈ ([b, b1, b5] : List Nat), bq < wv5.heap.size) → Mid1 [.int .i64 b4, .int .i64 l, .int .i64 l1, .int .i64 l2, .slice l3O l3L l3C] [b5] wv5 →
    (∃ (Mid2 : List Value → List Nat → World → Prop),
    ((0 ≤ k ∧ k ≤ ((xDrawQu4L : Nat) : Int) ∧ ((xDrawQu4L : Nat) : Int) ≤ (xDrawQu4C : Int)) ∧
    ((∀ wr9, ExtX [b, b1, b5] wv5 wr9 → (∀ bq ∈ ([b, b1, b5] : List Nat), bq < wr9.heap.size) → 
    Calls Try.prog fn_impl_QueuePlay #[.agg #[.int .i64 l, .int .i64 l1, .int .i64 l2, .slice l3O l3L l3C], .slice (if xDrawQu4C = Int.toNat k then xDrawQu4O else xDrawQu4O.map (·.add (Int.toNat k * 3))) (Int.toNat ((xDrawQu4L : Nat) : Int) - Int.toNat k) (xDrawQu4C - Int.toNat k)] wr9 fun e4 wv6 =>
    (∃ (xQueueP15 : Int) (xQueueP16 : Int) (xQueueP17 : Int) (xQueueP18O : Option Addr) (xQueueP18L : Nat) (xQueueP18C : Nat) (xQueueP19 : Int),
    e4 = .returned (.tuple #[.agg #[.int .i64 xQueueP15, .int .i64 xQueueP16, .int .i64 xQueueP17, .slice xQueueP18O xQueueP18L xQueueP18C], .int .i64 xQueueP19]) ∧ Kept [b, b1, b5] wr9 wv6 ∧
    (∀ b6, wv6.heap.size ≤ b6 →
    (some (ty_impl_Queue, ([.int .i64 l, .int .i64 l1, .int .i64 l2, .slice l3O l3L l3C] : List Value)) = some (ty_impl_Queue, ([.int .i64 l, .int .i64 l1, .int .i64 l2, .slice l3O l3L l3C] : List Value))) ∧
    (∀ wr10, ExtX [b, b1, b5] wv6 wr10 → (∀ bq ∈ ([b, b1, b5, b6] : List Nat), bq < wr10.heap.size) → Mid2 [.int .i64 xQueueP19, .int .i64 xQueueP15, .int .i64 xQueueP16, .int .i64 xQueueP17, .slice xQueueP18O xQueueP18L xQueueP18C] [b6] wr10))))) ∧
    ((∀ b7, wv5.heap.size ≤ b7 →
    (some (ty_impl_Queue, ([.int .i64 l, .int .i64 l1, .int .i64 l2, .slice l3O l3L l3C] : List Value)) = some (ty_impl_Queue, ([.int .i64 l, .int .i64 l1, .int .i64 l2, .slice l3O l3L l3C] : List Value))) ∧
    (∀ wr11, ExtX [b, b1, b5] wv5 wr11 → (∀ bq ∈ ([b, b1, b5, b7] : List Nat), bq < wr11.heap.size) → 
    Calls Try.prog fn_impl_QueuePlay #[.agg #[.int .i64 l, .int .i64 l1, .int .i64 l2, .slice l3O l3L l3C], .slice (if xDrawQu4C = Int.toNat k then xDrawQu4O else xDrawQu4O.map (·.add (Int.toNat k * 3))) (Int.toNat ((xDrawQu4L : Nat) : Int) - Int.toNat k) (xDrawQu4C - Int.toNat k)] wr11 fun e5 wv7 =>
    (∃ (xQueueP20 : Int) (xQueueP21 : Int) (xQueueP22 : Int) (xQueueP23O : Option Addr) (xQueueP23L : Nat) (xQueueP23C : Nat) (xQueueP24 : Int),
    e5 = .returned (.tuple #[.agg #[.int .i64 xQueueP20, .int .i64 xQueueP21, .int .i64 xQueueP22, .slice xQueueP23O xQueueP23L xQueueP23C], .int .i64 xQueueP24]) ∧ Kept [b, b1, b5, b7] wr11 wv7 ∧
    (∀ wr12, ExtX [b, b1, b5, b7] wv7 wr12 → (∀ bq ∈ ([b, b1, b5, b7] : List Nat), bq < wr12.heap.size) → Mid2 [.int .i64 xQueueP24, .int .i64 xQueueP20, .int .i64 xQueueP21, .int .i64 xQueueP22, .slice xQueueP23O xQueueP23L xQueueP23C] [b7] wr12)))))) ∧
    (∀ (c : Int) (l4 : Int) (l5 : Int) (l6 : Int) (l7O : Option Addr) (l7L : Nat) (l7C : Nat) (b8 : Nat) (wv8 : World), (∀ bq ∈ ([b, b1, b5, b8] : List Nat), bq < wv8.heap.size) → Mid2 [.int .i64 c, .int .i64 l4, .int .i64 l5, .int .i64 l6, .slice l7O l7L l7C] [b8] wv8 →
    (∀ wr13, ExtX [b, b1, b5, b8] wv8 wr13 → (∀ bq ∈ ([b, b1, b5, b8] : List Nat), bq < wr13.heap.size) → 
    Calls Try.prog fn_spec_QueuePlay #[.agg #[.int .i64 xDrawQu, .int .i64 xDrawQu1, .int .i64 xDrawQu2, .slice xDrawQu3O xDrawQu3L xDrawQu3C], .slice xDrawQu4O xDrawQu4L xDrawQu4C] wr13 fun e6 wv9 =>
    (∃ (xQueueP25 : Int) (xQueueP26 : Int) (xQueueP27 : Int) (xQueueP28O : Option Addr) (xQueueP28L : Nat) (xQueueP28C : Nat) (xQueueP29 : Int),
    e6 = .returned (.tuple #[.agg #[.int .i64 xQueueP25, .int .i64 xQueueP26, .int .i64 xQueueP27, .slice xQueueP28O xQueueP28L xQueueP28C], .int .i64 xQueueP29]) ∧ Kept [b, b1, b5, b8] wr13 wv9 ∧
    (∀ b9, wv9.heap.size ≤ b9 →
    ((xQueueP4 != xQueueP29) = false → InR .i64 (b4 + c)) ∧
    (∃ (stQueu : Bool),
    (((xQueueP4 != xQueueP29) || (xQueueP4 != (b4 + c))) = false → PureX [b, b1, b5, b8] Try.prog fn_laws_stQueue #[.agg #[.int .i64 xQueueP, .int .i64 xQueueP1, .int .i64 xQueueP2, .slice xQueueP3O xQueueP3L xQueueP3C], .agg #[.int .i64 l4, .int .i64 l5, .int .i64 l6, .slice l7O l7L l7C]] wv9 (.bool stQueu)) ∧
    ((((xQueueP4 != xQueueP29) || (xQueueP4 != (b4 + c))) || (!stQueu)) = true →
    (∀ wr14, ExtX [b, b1, b5, b8] wv9 wr14 → R (.bool false) wr14)) ∧
    ((((xQueueP4 != xQueueP29) || (xQueueP4 != (b4 + c))) || (!stQueu)) = false →
    (∃ (xQueueO : Bool),
    ((((xDrawQu4L : Nat) : Int) == 0) = false → PureX [b, b1, b5, b8] Try.prog fn_spec_QueueOk #[.agg #[.int .i64 xDrawQu, .int .i64 xDrawQu1, .int .i64 xDrawQu2, .slice xDrawQu3O xDrawQu3L xDrawQu3C]] wv9 (.bool xQueueO)) ∧
    (((((xDrawQu4L : Nat) : Int) == 0) || (!xQueueO)) = true →
    (∀ wr15, ExtX [b, b1, b5, b8] wv9 wr15 → R (.bool true) wr15)) ∧
    (((((xDrawQu4L : Nat) : Int) == 0) || (!xQueueO)) = false →
    Ix xDrawQu4O xDrawQu4L 0 ∧
    (∃ (x0 : Int) (x1 : Int) (x2 : Int),
    CellsX [b, b1, b5, b8] wv9 xDrawQu4O (Int.toNat 0 * 3) [.int .i64 x0, .int .i64 x1, .int .i64 x2] ∧
    ((∀ wr16, ExtX [b, b1, b5, b8] wv9 wr16 → (∀ bq ∈ ([b, b1, b5, b8, b9] : List Nat), bq < wr16.heap.size) → 
    Calls Try.prog fn_impl_QueueDo #[.agg #[.int .i64 xDrawQu, .int .i64 xDrawQu1, .int .i64 xDrawQu2, .slice xDrawQu3O xDrawQu3L xDrawQu3C], .agg #[.int .i64 x0, .int .i64 x1, .int .i64 x2]] wr16 fun e7 wv10 =>
    (∃ (xQueueD : Int) (xQueueD1 : Int) (xQueueD2 : Int) (xQueueD3O : Option Addr) (xQueueD3L : Nat) (xQueueD3C : Nat) (xQueueD4 : Bool),
    e7 = .returned (.tuple #[.agg #[.int .i64 xQueueD, .int .i64 xQueueD1, .int .i64 xQueueD2, .slice xQueueD3O xQueueD3L xQueueD3C], .bool xQueueD4]) ∧ Kept [b, b1, b5, b8, b9] wr16 wv10 ∧
    (∀ b10, wv10.heap.size ≤ b10 →
    CellsX [b, b1, b5, b8, b9] wv10 xDrawQu4O (Int.toNat 0 * 3) [.int .i64 x0, .int .i64 x1, .int .i64 x2] ∧
    (some (ty_impl_Queue, ([.int .i64 xDrawQu, .int .i64 xDrawQu1, .int .i64 xDrawQu2, .slice xDrawQu3O xDrawQu3L xDrawQu3C] : List Value)) = some (ty_impl_Queue, ([.int .i64 xDrawQu, .int .i64 xDrawQu1, .int .i64 xDrawQu2, .slice xDrawQu3O xDrawQu3L xDrawQu3C] : List Value))) ∧
    (∃ (stQueu1 : Bool),
    (xQueueD4 = false → PureX [b, b1, b5, b8, b9] Try.prog fn_laws_stQueue #[.agg #[.int .i64 xDrawQu, .int .i64 xDrawQu1, .int .i64 xDrawQu2, .slice xDrawQu3O xDrawQu3L xDrawQu3C], .agg #[.int .i64 xQueueD, .int .i64 xQueueD1, .int .i64 xQueueD2, .slice xQueueD3O xQueueD3L xQueueD3C]] wv10 (.bool stQueu1)) ∧
    (∀ wr17, ExtX [b, b1, b5, b8, b9] wv10 wr17 → R (.bool (xQueueD4 || stQueu1)) wr17)))))) ∧
    ((∀ b11, wv9.heap.size ≤ b11 →
    CellsX [b, b1, b5, b8] wv9 xDrawQu4O (Int.toNat 0 * 3) [.int .i64 x0, .int .i64 x1, .int .i64 x2] ∧
    (some (ty_impl_Queue, ([.int .i64 xDrawQu, .int .i64 xDrawQu1, .int .i64 xDrawQu2, .slice xDrawQu3O xDrawQu3L xDrawQu3C] : List Value)) = some (ty_impl_Queue, ([.int .i64 xDrawQu, .int .i64 xDrawQu1, .int .i64 xDrawQu2, .slice xDrawQu3O xDrawQu3L xDrawQu3C] : List Value))) ∧
    (∀ wr18, ExtX [b, b1, b5, b8] wv9 wr18 → (∀ bq ∈ ([b, b1, b5, b8, b9, b11] : List Nat), bq < wr18.heap.size) → 
    Calls Try.prog fn_impl_QueueDo #[.agg #[.int .i64 xDrawQu, .int .i64 xDrawQu1, .int .i64 xDrawQu2, .slice xDrawQu3O xDrawQu3L xDrawQu3C], .agg #[.int .i64 x0, .int .i64 x1, .int .i64 x2]] wr18 fun e8 wv11 =>
    (∃ (xQueueD5 : Int) (xQueueD6 : Int) (xQueueD7 : Int) (xQueueD8O : Option Addr) (xQueueD8L : Nat) (xQueueD8C : Nat) (xQueueD9 : Bool),
    e8 = .returned (.tuple #[.agg #[.int .i64 xQueueD5, .int .i64 xQueueD6, .int .i64 xQueueD7, .slice xQueueD8O xQueueD8L xQueueD8C], .bool xQueueD9]) ∧ Kept [b, b1, b5, b8, b9, b11] wr18 wv11 ∧
    (∃ (stQueu2 : Bool),
    (xQueueD9 = false → PureX [b, b1, b5, b8, b9, b11] Try.prog fn_laws_stQueue #[.agg #[.int .i64 xDrawQu, .int .i64 xDrawQu1, .int .i64 xDrawQu2, .slice xDrawQu3O xDrawQu3L xDrawQu3C], .agg #[.int .i64 xQueueD5, .int .i64 xQueueD6, .int .i64 xQueueD7, .slice xQueueD8O xQueueD8L xQueueD8C]] wv11 (.bool stQueu2)) ∧
    (∀ wr19, ExtX [b, b1, b5, b8, b9, b11] wv11 wr19 → R (.bool (xQueueD9 || stQueu2)) wr19)))))))))))))))))))))))))))
theorem v_laws_FnQueuePlay (codeO : Option Addr) (codeL : Nat) (codeC : Nat) (moreO : Option Addr) (moreL : Nat) (moreC : Nat) (w : World) (R : Value → World → Prop) : evFn c_laws_FnQueuePlay s_laws_FnQueuePlay [.slice codeO codeL codeC, .slice moreO moreL moreC] (bodyOf Try.f7) Try.f7.results.toList w R = V_laws_FnQueuePlay codeO codeL codeC moreO moreL moreC w R := by kernel_rfl
theorem e_laws_FnQueuePlay (codeO : Option Addr) (codeL : Nat) (codeC : Nat) (moreO : Option Addr) (moreL : Nat) (moreC : Nat) {w : World} {R : Value → World → Prop} (hvc : V_laws_FnQueuePlay codeO codeL codeC moreO moreL moreC w R) : Calls Try.prog fn_laws_FnQueuePlay #[.slice codeO codeL codeC, .slice moreO moreL moreC] w fun e0 wr0 => ∃ v0, e0 = .returned v0 ∧ R v0 wr0 :=
  eff_of_ev (C := c_laws_FnQueuePlay) (sps := s_laws_FnQueuePlay) (body := bodyOf Try.f7) (env _ _ _) Try.func7 rfl rfl (of_decide_eq_true (by kernel_rfl)) (of_decide_eq_true (by kernel_rfl)) rfl (by rw [v_laws_FnQueuePlay]; exact hvc)
noncomputable def c_laws_szQueueOpS : Cfg := { P := Try.prog, T := tblGet tbl, pf := pfT, ef := efT, tt := ttT, vis := [], n := 12, pm := true }
noncomputable def s_laws_szQueueOpS : List (Nat × LSpec) := []
def V_laws_szQueueOpS (aO : Option Addr) (aL : Nat) (aC : Nat) (leftv : Int) (w : World) (R : Value → World → Prop) : Prop :=
    InR .i64 (leftv - ((aL : Nat) : Int)) ∧
    ((decide (leftv - ((aL : Nat) : Int) < 0)) = true →
    R (.int .i64 (-1)) w) ∧
    ((decide (leftv - ((aL : Nat) : Int) < 0)) = false →
    R (.int .i64 (leftv - ((aL : Nat) : Int))) w)
theorem v_laws_szQueueOpS (aO : Option Addr) (aL : Nat) (aC : Nat) (leftv : Int) (w : World) (R : Value → World → Prop) : evFn c_laws_szQueueOpS s_laws_szQueueOpS [.slice aO aL aC, .int .i64 leftv] (bodyOf Try.f33) Try.f33.results.toList w R = V_laws_szQueueOpS aO aL aC leftv w R := by kernel_rfl
theorem p_laws_szQueueOpS (aO : Option Addr) (aL : Nat) (aC : Nat) (leftv : Int) {w : World} {bs : List Nat} {ret : Value} (hvc : ∀ wr0, ExtX bs w wr0 → V_laws_szQueueOpS aO aL aC leftv wr0 fun v0 _ => v0 = ret) : PureX bs Try.prog fn_laws_szQueueOpS #[.slice aO aL aC, .int .i64 leftv] w ret :=
  pure_of_ev (C := c_laws_szQueueOpS) (sps := s_laws_szQueueOpS) (body := bodyOf Try.f33) (env _ _ _) Try.func33 rfl rfl (of_decide_eq_true (by kernel_rfl)) (of_decide_eq_true (by kernel_rfl)) rfl fun wr0 hx0 => by rw [v_laws_szQueueOpS]; exact hvc wr0 hx0
noncomputable def c_laws_toQueueOpS : Cfg := { P := Try.prog, T := tblGet tbl, pf := pfT, ef := efT, tt := ttT, vis := [], n := 23, pm := false }
noncomputable def s_laws_toQueueOpS : List (Nat × LSpec) := [(3, { chg := [(4, .int .i64)], chgL := [], keep := [0, 3] })]
def V_laws_toQueueOpS (aO : Option Addr) (aL : Nat) (aC : Nat) (w : World) (R : Value → World → Prop) : Prop :=
    (∀ wr, ExtX [] w wr → (∀ bq ∈ ([] : List Nat), bq < wr.heap.size) →
    (∃ (mkO : Option Addr) (mkL : Nat) (mkC : Nat),
    ∃ wv, ((Instr.makeSlice ty_sl_impl_QueueOp (.int .i64 ((aL : Nat) : Int)) (.int .i64 ((aL : Nat) : Int))) : Sem Value).run Try.prog wr = .ok (.slice mkO mkL mkC) wv ∧ Kept [] wr wv ∧
    (∃ (xInv : List Value → World → Prop) (mu : List Value → World → Nat), (∀ wr1, ExtX [] wv wr1 → (∀ bq ∈ ([] : List Nat), bq < wr1.heap.size) → xInv [.int .i64 0] wr1) ∧
    ∀ (i : Int) wv1, (∀ bq ∈ ([] : List Nat), bq < wv1.heap.size) → xInv [.int .i64 i] wv1 →
    ((decide (i < ((aL : Nat) : Int))) = true →
    Ix aO aL i ∧
    (∃ (x0 : Int) (x1 : Int) (x2 : Int),
    CellsX [] wv1 aO (Int.toNat i * 3) [.int .i64 x0, .int .i64 x1, .int .i64 x2] ∧
    (∃ (toQueu : Int) (toQueu1 : Int) (toQueu2 : Int),
    PureX [] Try.prog fn_laws_toQueueOp #[.agg #[.int .i64 x0, .int .i64 x1, .int .i64 x2]] wv1 (.agg #[.int .i64 toQueu, .int .i64 toQueu1, .int .i64 toQueu2]) ∧
    Ix mkO mkL i ∧
    WrX [] wv1 mkO (Int.toNat i * 3) 3 ∧
    InR .i64 (i + 1) ∧
    (∀ wr2, ExtX [] (sto wv1 mkO (Int.toNat i * 3) [.int .i64 toQueu, .int .i64 toQueu1, .int .i64 toQueu2]) wr2 → (∀ bq ∈ ([] : List Nat), bq < wr2.heap.size) → xInv [.int .i64 (i + 1)] wr2 ∧ mu [.int .i64 (i + 1)] wr2 < mu [.int .i64 i] wv1)))) ∧
    ((decide (i < ((aL : Nat) : Int))) = false →
    (∀ wr3, ExtX [] wv1 wr3 → R (.slice mkO mkL mkC) wr3)))))
theorem v_laws_toQueueOpS (aO : Option Addr) (aL : Nat) (aC : Nat) (w : World) (R : Value → World → Prop) : evFn c_laws_toQueueOpS s_laws_toQueueOpS [.slice aO aL aC] (bodyOf Try.f34) Try.f34.results.toList w R = V_laws_toQueueOpS aO aL aC w R := by kernel_rfl
theorem e_laws_toQueueOpS (aO : Option Addr) (aL : Nat) (aC : Nat) {w : World} {R : Value → World → Prop} (hvc : V_laws_toQueueOpS aO aL aC w R) : Calls Try.prog fn_laws_toQueueOpS #[.slice aO aL aC] w fun e0 wr0 => ∃ v0, e0 = .returned v0 ∧ R v0 wr0 :=
  eff_of_ev (C := c_laws_toQueueOpS) (sps := s_laws_toQueueOpS) (body := bodyOf Try.f34) (env _ _ _) Try.func34 rfl rfl (of_decide_eq_true (by kernel_rfl)) (of_decide_eq_true (by kernel_rfl)) rfl (by rw [v_laws_toQueueOpS]; exact hvc)
noncomputable def c_laws_eqQueueOp : Cfg := { P := Try.prog, T := tblGet tbl, pf := pfT, ef := efT, tt := ttT, vis := [], n := 20, pm := true }
noncomputable def s_laws_eqQueueOp : List (Nat × LSpec) := []
def V_laws_eqQueueOp (a0 : Int) (a1 : Int) (a2 : Int) (b0 : Int) (b1 : Int) (b2 : Int) (w : World) (R : Value → World → Prop) : Prop :=
    (∀ b, w.heap.size ≤ b →
    (∀ b3, w.heap.size ≤ b3 →
    ((a0 != b0) = true →
    R (.bool false) w) ∧
    ((a0 != b0) = false →
    ((a1 != b1) = true →
    R (.bool false) w) ∧
    ((a1 != b1) = false →
    ((a2 != b2) = true →
    R (.bool false) w) ∧
    ((a2 != b2) = false →
    R (.bool true) w)))))
theorem v_laws_eqQueueOp (a0 : Int) (a1 : Int) (a2 : Int) (b0 : Int) (b1 : Int) (b2 : Int) (w : World) (R : Value → World → Prop) : evFn c_laws_eqQueueOp s_laws_eqQueueOp [.agg #[.int .i64 a0, .int .i64 a1, .int .i64 a2], .agg #[.int .i64 b0, .int .i64 b1, .int .i64 b2]] (bodyOf Try.f81) Try.f81.results.toList w R = V_laws_eqQueueOp a0 a1 a2 b0 b1 b2 w R := by kernel_rfl
theorem p_laws_eqQueueOp (a0 : Int) (a1 : Int) (a2 : Int) (b0 : Int) (b1 : Int) (b2 : Int) {w : World} {bs : List Nat} {ret : Value} (hvc : ∀ wr0, ExtX bs w wr0 → V_laws_eqQueueOp a0 a1 a2 b0 b1 b2 wr0 fun v0 _ => v0 = ret) : PureX bs Try.prog fn_laws_eqQueueOp #[.agg #[.int .i64 a0, .int .i64 a1, .int .i64 a2], .agg #[.int .i64 b0, .int .i64 b1, .int .i64 b2]] w ret :=
  pure_of_ev (C := c_laws_eqQueueOp) (sps := s_laws_eqQueueOp) (body := bodyOf Try.f81) (env _ _ _) Try.func81 rfl rfl (of_decide_eq_true (by kernel_rfl)) (of_decide_eq_true (by kernel_rfl)) rfl fun wr0 hx0 => by rw [v_laws_eqQueueOp]; exact hvc wr0 hx0
noncomputable def c_laws_eqQueueOpS : Cfg := { P := Try.prog, T := tblGet tbl, pf := pfT, ef := efT, tt := ttT, vis := [], n := 27, pm := true }
noncomputable def s_laws_eqQueueOpS : List (Nat × LSpec) := [(4, { chg := [(5, .int .i64)], chgL := [], keep := [0, 1] })]
def V_laws_eqQueueOpS (aO : Option Addr) (aL : Nat) (aC : Nat) (bO : Option Addr) (bL : Nat) (bC : Nat) (w : World) (R : Value → World → Prop) : Prop :=
    ((((aL : Nat) : Int) != ((bL : Nat) : Int)) = true →
    R (.bool false) w) ∧
    ((((aL : Nat) : Int) != ((bL : Nat) : Int)) = false →
    (∃ (xInv : List Value → Prop) (mu : List Value → Nat), xInv [.int .i64 0] ∧
    ∀ (i : Int), xInv [.int .i64 i] →
    ((decide (i < ((aL : Nat) : Int))) = true →
    Ix aO aL i ∧
    (∃ (x0 : Int) (x1 : Int) (x2 : Int),
    CellsX [] w aO (Int.toNat i * 3) [.int .i64 x0, .int .i64 x1, .int .i64 x2] ∧
    Ix bO bL i ∧
    (∃ (x01 : Int) (x11 : Int) (x21 : Int),
    CellsX [] w bO (Int.toNat i * 3) [.int .i64 x01, .int .i64 x11, .int .i64 x21] ∧
    (∃ (eqQueu : Bool),
    PureX [] Try.prog fn_laws_eqQueueOp #[.agg #[.int .i64 x0, .int .i64 x1, .int .i64 x2], .agg #[.int .i64 x01, .int .i64 x11, .int .i64 x21]] w (.bool eqQueu) ∧
    ((!eqQueu) = true →
    R (.bool false) w) ∧
    ((!eqQueu) = false →
    InR .i64 (i + 1) ∧
    xInv [.int .i64 (i + 1)] ∧ mu [.int .i64 (i + 1)] < mu [.int .i64 i]))))) ∧
    ((decide (i < ((aL : Nat) : Int))) = false →
    R (.bool true) w)))
theorem v_laws_eqQueueOpS (aO : Option Addr) (aL : Nat) (aC : Nat) (bO : Option Addr) (bL : Nat) (bC : Nat) (w : World) (R : Value → World → Prop) : evFn c_laws_eqQueueOpS s_laws_eqQueueOpS [.slice aO aL aC, .slice bO bL bC] (bodyOf Try.f35) Try.f35.results.toList w R = V_laws_eqQueueOpS aO aL aC bO bL bC w R := by kernel_rfl
theorem p_laws_eqQueueOpS (aO : Option Addr) (aL : Nat) (aC : Nat) (bO : Option Addr) (bL : Nat) (bC : Nat) {w : World} {bs : List Nat} {ret : Value} (hvc : ∀ wr0, ExtX bs w wr0 → V_laws_eqQueueOpS aO aL aC bO bL bC wr0 fun v0 _ => v0 = ret) : PureX bs Try.prog fn_laws_eqQueueOpS #[.slice aO aL aC, .slice bO bL bC] w ret :=
  pure_of_ev (C := c_laws_eqQueueOpS) (sps := s_laws_eqQueueOpS) (body := bodyOf Try.f35) (env _ _ _) Try.func35 rfl rfl (of_decide_eq_true (by kernel_rfl)) (of_decide_eq_true (by kernel_rfl)) rfl fun wr0 hx0 => by rw [v_laws_eqQueueOpS]; exact hvc wr0 hx0
noncomputable def c_laws_markQueueOpS : Cfg := { P := Try.prog, T := tblGet tbl, pf := pfT, ef := efT, tt := ttT, vis := [], n := 34, pm := false }
noncomputable def s_laws_markQueueOpS : List (Nat × LSpec) := [(2, { chg := [(1, .int .i64), (5, .int .i64)], chgL := [], keep := [0] })]
def V_laws_markQueueOpS (aO : Option Addr) (aL : Nat) (aC : Nat) (k : Int) (w : World) (R : Value → World → Prop) : Prop :=
    (∃ (xInv : List Value → World → Prop) (mu : List Value → World → Nat), (∀ wr, ExtX [] w wr → (∀ bq ∈ ([] : List Nat), bq < wr.heap.size) → xInv [.int .i64 k, .int .i64 0] wr) ∧
    ∀ (k1 : Int) (i : Int) wv, (∀ bq ∈ ([] : List Nat), bq < wv.heap.size) → xInv [.int .i64 k1, .int .i64 i] wv →
    ((decide (i < ((aL : Nat) : Int))) = true →
    Ix aO aL i ∧
    WrX [] wv aO (Int.toNat i * 3 + 0) 1 ∧
    InR .i64 (k1 + 1) ∧
    Ix aO aL i ∧
    WrX [] (sto wv aO (Int.toNat i * 3 + 0) [.int .i64 k1]) aO (Int.toNat i * 3 + 1) 1 ∧
    InR .i64 ((k1 + 1) + 1) ∧
    Ix aO aL i ∧
    WrX [] (sto (sto wv aO (Int.toNat i * 3 + 0) [.int .i64 k1]) aO (Int.toNat i * 3 + 1) [.int .i64 (k1 + 1)]) aO (Int.toNat i * 3 + 2) 1 ∧
    InR .i64 (((k1 + 1) + 1) + 1) ∧
    InR .i64 (i + 1) ∧
    (∀ wr1, ExtX [] (sto (sto (sto wv aO (Int.toNat i * 3 + 0) [.int .i64 k1]) aO (Int.toNat i * 3 + 1) [.int .i64 (k1 + 1)]) aO (Int.toNat i * 3 + 2) [.int .i64 ((k1 + 1) + 1)]) wr1 → (∀ bq ∈ ([] : List Nat), bq < wr1.heap.size) → xInv [.int .i64 (((k1 + 1) + 1) + 1), .int .i64 (i + 1)] wr1 ∧ mu [.int .i64 (((k1 + 1) + 1) + 1), .int .i64 (i + 1)] wr1 < mu [.int .i64 k1, .int .i64 i] wv)) ∧
    ((decide (i < ((aL : Nat) : Int))) = false →
    (∀ wr2, ExtX [] wv wr2 → R (.int .i64 k1) wr2)))
theorem v_laws_markQueueOpS (aO : Option Addr) (aL : Nat) (aC : Nat) (k : Int) (w : World) (R : Value → World → Prop) : evFn c_laws_markQueueOpS s_laws_markQueueOpS [.slice aO aL aC, .int .i64 k] (bodyOf Try.f36) Try.f36.results.toList w R = V_laws_markQueueOpS aO aL aC k w R := by kernel_rfl
theorem e_laws_markQueueOpS (aO : Option Addr) (aL : Nat) (aC : Nat) (k : Int) {w : World} {R : Value → World → Prop} (hvc : V_laws_markQueueOpS aO aL aC k w R) : Calls Try.prog fn_laws_markQueueOpS #[.slice aO aL aC, .int .i64 k] w fun e0 wr0 => ∃ v0, e0 = .returned v0 ∧ R v0 wr0 :=
  eff_of_ev (C := c_laws_markQueueOpS) (sps := s_laws_markQueueOpS) (body := bodyOf Try.f36) (env _ _ _) Try.func36 rfl rfl (of_decide_eq_true (by kernel_rfl)) (of_decide_eq_true (by kernel_rfl)) rfl (by rw [v_laws_markQueueOpS]; exact hvc)
noncomputable def c_laws_FnExactQueuePlay : Cfg := { P := Try.prog, T := tblGet tbl, pf := pfT, ef := efT, tt := ttT, vis := [], n := 119, pm := false }
noncomputable def s_laws_FnExactQueuePlay : List (Nat × LSpec) := []
def V_laws_FnExactQueuePlay (aQ0 : Int) (aQ1 : Int) (aQ2 : Int) (aQ3O : Option Addr) (aQ3L : Nat) (aQ3C : Nat) (aOpsO : Option Addr) (aOpsL : Nat) (aOpsC : Nat) (w : World) (R : Value → World → Prop) : Prop :=
    (∀ b, w.heap.size ≤ b →
    (∃ (szQueu : Int),
    PureX [] Try.prog fn_laws_szQueue #[.agg #[.int .i64 aQ0, .int .i64 aQ1, .int .i64 aQ2, .slice aQ3O aQ3L aQ3C], .int .i64 1048576] w (.int .i64 szQueu) ∧
    ((decide (szQueu < 0)) = true →
    (∀ wr, ExtX [] w wr → R (.bool true) wr)) ∧
    ((decide (szQueu < 0)) = false →
    (∃ (szQueu1 : Int),
    PureX [] Try.prog fn_laws_szQueueOpS #[.slice aOpsO aOpsL aOpsC, .int .i64 szQueu] w (.int .i64 szQueu1) ∧
    ((decide (szQueu1 < 0)) = true →
    (∀ wr1, ExtX [] w wr1 → R (.bool true) wr1)) ∧
    ((decide (szQueu1 < 0)) = false →
    (∀ wr2, ExtX [] w wr2 → (∀ bq ∈ ([b] : List Nat), bq < wr2.heap.size) → 
    Calls Try.prog fn_laws_toQueue #[.agg #[.int .i64 aQ0, .int .i64 aQ1, .int .i64 aQ2, .slice aQ3O aQ3L aQ3C]] wr2 fun e wv =>
    (∃ (toQueu : Int) (toQueu1 : Int) (toQueu2 : Int) (toQueu3O : Option Addr) (toQueu3L : Nat) (toQueu3C : Nat),
    e = .returned (.agg #[.int .i64 toQueu, .int .i64 toQueu1, .int .i64 toQueu2, .slice toQueu3O toQueu3L toQueu3C]) ∧ Kept [b] wr2 wv ∧
    (∀ wr3, ExtX [b] wv wr3 → (∀ bq ∈ ([b] : List Nat), bq < wr3.heap.size) → 
    Calls Try.prog fn_laws_toQueueOpS #[.slice aOpsO aOpsL aOpsC] wr3 fun e1 wv1 =>
    (∃ (toQueu4O : Option Addr) (toQueu4L : Nat) (toQueu4C : Nat),
    e1 = .returned (.slice toQueu4O toQueu4L toQueu4C) ∧ Kept [b] wr3 wv1 ∧
    (∀ wr4, ExtX [b] wv1 wr4 → (∀ bq ∈ ([b] : List Nat), bq < wr4.heap.size) → 
    Calls Try.prog fn_spec_QueuePlay #[.agg #[.int .i64 toQueu, .int .i64 toQueu1, .int .i64 toQueu2, .slice toQueu3O toQueu3L toQueu3C], .slice toQueu4O toQueu4L toQueu4C] wr4 fun e2 wv2 =>
    (∃ (xQueueP : Int) (xQueueP1 : Int) (xQueueP2 : Int) (xQueueP3O : Option Addr) (xQueueP3L : Nat) (xQueueP3C : Nat) (xQueueP4 : Int),
    e2 = .returned (.tuple #[.agg #[.int .i64 xQueueP, .int .i64 xQueueP1, .int .i64 xQueueP2, .slice xQueueP3O xQueueP3L xQueueP3C], .int .i64 xQueueP4]) ∧ Kept [b] wr4 wv2 ∧
    (∀ b1, wv2.heap.size ≤ b1 →
    (∀ wr5, ExtX [b] wv2 wr5 → (∀ bq ∈ ([b, b1] : List Nat), bq < wr5.heap.size) → 
    Calls Try.prog fn_laws_toQueue #[.agg #[.int .i64 aQ0, .int .i64 aQ1, .int .i64 aQ2, .slice aQ3O aQ3L aQ3C]] wr5 fun e3 wv3 =>
    (∃ (toQueu5 : Int) (toQueu6 : Int) (toQueu7 : Int) (toQueu8O : Option Addr) (toQueu8L : Nat) (toQueu8C : Nat),
    e3 = .returned (.agg #[.int .i64 toQueu5, .int .i64 toQueu6, .int .i64 toQueu7, .slice toQueu8O toQueu8L toQueu8C]) ∧ Kept [b, b1] wr5 wv3 ∧
    (∀ b2, wv3.heap.size ≤ b2 →
    (∀ wr6, ExtX [b, b1] wv3 wr6 → (∀ bq ∈ ([b, b1, b2] : List Nat), bq < wr6.heap.size) → 
    Calls Try.prog fn_laws_toQueueOpS #[.slice aOpsO aOpsL aOpsC] wr6 fun e4 wv4 =>
    (∃ (toQueu9O : Option Addr) (toQueu9L : Nat) (toQueu9C : Nat),
    e4 = .returned (.slice toQueu9O toQueu9L toQueu9C) ∧ Kept [b, b1, b2] wr6 wv4 ∧
    (∀ wr7, ExtX [b, b1, b2] wv4 wr7 → (∀ bq ∈ ([b, b1, b2] : List Nat), bq < wr7.heap.size) → 
    Calls Try.prog fn_impl_QueuePlay #[.agg #[.int .i64 toQueu5, .int .i64 toQueu6, .int .i64 toQueu7, .slice toQueu8O toQueu8L toQueu8C], .slice toQueu9O toQueu9L toQueu9C] wr7 fun e5 wv5 =>
    (∃ (xQueueP5 : Int) (xQueueP6 : Int) (xQueueP7 : Int) (xQueueP8O : Option Addr) (xQueueP8L : Nat) (xQueueP8C : Nat) (xQueueP9 : Int),
    e5 = .returned (.tuple #[.agg #[.int .i64 xQueueP5, .int .i64 xQueueP6, .int .i64 xQueueP7, .slice xQueueP8O xQueueP8L xQueueP8C], .int .i64 xQueueP9]) ∧ Kept [b, b1, b2] wr7 wv5 ∧
    (∀ b3, wv5.heap.size ≤ b3 →
    (∃ (eqQueu : Bool),
    PureX [b, b1, b2] Try.prog fn_laws_eqQueue #[.agg #[.int .i64 xQueueP5, .int .i64 xQueueP6, .int .i64 xQueueP7, .slice xQueueP8O xQueueP8L xQueueP8C], .agg #[.int .i64 xQueueP, .int .i64 xQueueP1, .int .i64 xQueueP2, .slice xQueueP3O xQueueP3L xQueueP3C]] wv5 (.bool eqQueu) ∧
    (((!eqQueu) || (xQueueP9 != xQueueP4)) = true →
    (∀ wr8, ExtX [b, b1, b2] wv5 wr8 → R (.bool false) wr8)) ∧
    (((!eqQueu) || (xQueueP9 != xQueueP4)) = false →
    (∀ wr9, ExtX [b, b1, b2] wv5 wr9 → (∀ bq ∈ ([b, b1, b2, b3] : List Nat), bq < wr9.heap.size) → 
    Calls Try.prog fn_laws_toQueue #[.agg #[.int .i64 aQ0, .int .i64 aQ1, .int .i64 aQ2, .slice aQ3O aQ3L aQ3C]] wr9 fun e6 wv6 =>
    (∃ (toQueu10 : Int) (toQueu11 : Int) (toQueu12 : Int) (toQueu13O : Option Addr) (toQueu13L : Nat) (toQueu13C : Nat),
    e6 = .returned (.agg #[.int .i64 toQueu10, .int .i64 toQueu11, .int .i64 toQueu12, .slice toQueu13O toQueu13L toQueu13C]) ∧ Kept [b, b1, b2, b3] wr9 wv6 ∧
    (some (ty_impl_Queue, ([.int .i64 toQueu5, .int .i64 toQueu6, .int .i64 toQueu7, .slice toQueu8O toQueu8L toQueu8C] : List Value)) = some (ty_impl_Queue, ([.int .i64 toQueu5, .int .i64 toQueu6, .int .i64 toQueu7, .slice toQueu8O toQueu8L toQueu8C] : List Value))) ∧
    (∃ (eqQueu1 : Bool),
    PureX [b, b1, b2, b3] Try.prog fn_laws_eqQueue #[.agg #[.int .i64 toQueu5, .int .i64 toQueu6, .int .i64 toQueu7, .slice toQueu8O toQueu8L toQueu8C], .agg #[.int .i64 toQueu10, .int .i64 toQueu11, .int .i64 toQueu12, .slice toQueu13O toQueu13L toQueu13C]] wv6 (.bool eqQueu1) ∧
    ((!eqQueu1) = true →
    (∀ wr10, ExtX [b, b1, b2, b3] wv6 wr10 → R (.bool false) wr10)) ∧
    ((!eqQueu1) = false →
    (∀ wr11, ExtX [b, b1, b2, b3] wv6 wr11 → (∀ bq ∈ ([b, b1, b2, b3] : List Nat), bq < wr11.heap.size) → 
    Calls Try.prog fn_laws_toQueueOpS #[.slice aOpsO aOpsL aOpsC] wr11 fun e7 wv7 =>
    (∃ (toQueu14O : Option Addr) (toQueu14L : Nat) (toQueu14C : Nat),
    e7 = .returned (.slice toQueu14O toQueu14L toQueu14C) ∧ Kept [b, b1, b2, b3] wr11 wv7 ∧
    (∃ (eqQueu2 : Bool),
    PureX [b, b1, b2, b3] Try.prog fn_laws_eqQueueOpS #[.slice toQueu9O toQueu9L toQueu9C, .slice toQueu14O toQueu14L toQueu14C] wv7 (.bool eqQueu2) ∧
    ((!eqQueu2) = true →
    (∀ wr12, ExtX [b, b1, b2, b3] wv7 wr12 → R (.bool false) wr12)) ∧
    ((!eqQueu2) = false →
    (∀ wr13, ExtX [b, b1, b2, b3] wv7 wr13 → (∀ bq ∈ ([b, b1, b2, b3] : List Nat), bq < wr13.heap.size) → 
    Calls Try.prog fn_laws_markQueue #[.agg #[.int .i64 toQueu5, .int .i64 toQueu6, .int .i64 toQueu7, .slice toQueu8O toQueu8L toQueu8C], .int .i64 1] wr13 fun e8 wv8 =>
    (∃ (markQu : Int),
    e8 = .returned (.int .i64 markQu) ∧ Kept [b, b1, b2, b3] wr13 wv8 ∧
    (∀ wr14, ExtX [b, b1, b2, b3] wv8 wr14 → (∀ bq ∈ ([b, b1, b2, b3] : List Nat), bq < wr14.heap.size) → 
    Calls Try.prog fn_laws_markQueueOpS #[.slice toQueu9O toQueu9L toQueu9C, .int .i64 markQu] wr14 fun e9 wv9 =>
    (∃ (markQu1 : Int),
    e9 = .returned (.int .i64 markQu1) ∧ Kept [b, b1, b2, b3] wr14 wv9 ∧
    (∃ (eqQueu3 : Bool),
    ((decide (markQu1 < 0)) = false → PureX [b, b1, b2, b3] Try.prog fn_laws_eqQueue #[.agg #[.int .i64 xQueueP5, .int .i64 xQueueP6, .int .i64 xQueueP7, .slice xQueueP8O xQueueP8L xQueueP8C], .agg #[.int .i64 xQueueP, .int .i64 xQueueP1, .int .i64 xQueueP2, .slice xQueueP3O xQueueP3L xQueueP3C]] wv9 (.bool eqQueu3)) ∧
    ((((decide (markQu1 < 0)) || (!eqQueu3)) || (xQueueP9 != xQueueP4)) = true →
    (∀ wr15, ExtX [b, b1, b2, b3] wv9 wr15 → R (.bool false) wr15)) ∧
    ((((decide (markQu1 < 0)) || (!eqQueu3)) || (xQueueP9 != xQueueP4)) = false →
    (∀ wr16, ExtX [b, b1, b2, b3] wv9 wr16 → (∀ bq ∈ ([b, b1, b2, b3] : List Nat), bq < wr16.heap.size) → 
    Calls Try.prog fn_laws_markQueue #[.agg #[.int .i64 xQueueP5, .int .i64 xQueueP6, .int .i64 xQueueP7, .slice xQueueP8O xQueueP8L xQueueP8C], .int .i64 1] wr16 fun e10 wv10 =>
    (∃ (markQu2 : Int),
    e10 = .returned (.int .i64 markQu2) ∧ Kept [b, b1, b2, b3] wr16 wv10 ∧
    (∃ (heldQu : Int),
    PureX [b, b1, b2, b3] Try.prog fn_laws_heldQueue #[.agg #[.int .i64 xQueueP5, .int .i64 xQueueP6, .int .i64 xQueueP7, .slice xQueueP8O xQueueP8L xQueueP8C], .int .i64 1] wv10 (.int .i64 heldQu) ∧
    ((decide (heldQu < 0)) = true →
    (∀ wr17, ExtX [b, b1, b2, b3] wv10 wr17 → R (.bool false) wr17)) ∧
    ((decide (heldQu < 0)) = false →
    ((heldQu != markQu2) = true →
    (∀ wr18, ExtX [b, b1, b2, b3] wv10 wr18 → R (.bool false) wr18)) ∧
    ((heldQu != markQu2) = false →
    (∀ wr19, ExtX [b, b1, b2, b3] wv10 wr19 → (∀ bq ∈ ([b, b1, b2, b3] : List Nat), bq < wr19.heap.size) → 
    Calls Try.prog fn_laws_toQueue #[.agg #[.int .i64 aQ0, .int .i64 aQ1, .int .i64 aQ2, .slice aQ3O aQ3L aQ3C]] wr19 fun e11 wv11 =>
    (∃ (toQueu15 : Int) (toQueu16 : Int) (toQueu17 : Int) (toQueu18O : Option Addr) (toQueu18L : Nat) (toQueu18C : Nat),
    e11 = .returned (.agg #[.int .i64 toQueu15, .int .i64 toQueu16, .int .i64 toQueu17, .slice toQueu18O toQueu18L toQueu18C]) ∧ Kept [b, b1, b2, b3] wr19 wv11 ∧
    (∀ wr20, ExtX [b, b1, b2, b3] wv11 wr20 → (∀ bq ∈ ([b, b1, b2, b3] : List Nat), bq < wr20.heap.size) → 
    Calls Try.prog fn_laws_toQueueOpS #[.slice aOpsO aOpsL aOpsC] wr20 fun e12 wv12 =>
    (∃ (toQueu19O : Option Addr) (toQueu19L : Nat) (toQueu19C : Nat),
    e12 = .returned (.slice toQueu19O toQueu19L toQueu19C) ∧ Kept [b, b1, b2, b3] wr20 wv12 ∧
    (∀ wr21, ExtX [b, b1, b2, b3] wv12 wr21 → (∀ bq ∈ ([b, b1, b2, b3] : List Nat), bq < wr21.heap.size) → 
    Calls Try.prog fn_impl_QueuePlay #[.agg #[.int .i64 toQueu15, .int .i64 toQueu16, .int .i64 toQueu17, .slice toQueu18O toQueu18L toQueu18C], .slice toQueu19O toQueu19L toQueu19C] wr21 fun e13 wv13 =>
    (∃ (xQueueP10 : Int) (xQueueP11 : Int) (xQueueP12 : Int) (xQueueP13O : Option Addr) (xQueueP13L : Nat) (xQueueP13C : Nat) (xQueueP14 : Int),
    e13 = .returned (.tuple #[.agg #[.int .i64 xQueueP10, .int .i64 xQueueP11, .int .i64 xQueueP12, .slice xQueueP13O xQueueP13L xQueueP13C], .int .i64 xQueueP14]) ∧ Kept [b, b1, b2, b3] wr21 wv13 ∧
    (∀ b4, wv13.heap.size ≤ b4 →
    (∃ (eqQueu4 : Bool),
    PureX [b, b1, b2, b3] Try.prog fn_laws_eqQueue #[.agg #[.int .i64 xQueueP10, .int .i64 xQueueP11, .int .i64 xQueueP12, .slice xQueueP13O xQueueP13L xQueueP13C], .agg #[.int .i64 xQueueP, .int .i64 xQueueP1, .int .i64 xQueueP2, .slice xQueueP3O xQueueP3L xQueueP3C]] wv13 (.bool eqQueu4) ∧
    (((!eqQueu4) || (xQueueP14 != xQueueP4)) = true →
    (∀ wr22, ExtX [b, b1, b2, b3] wv13 wr22 → R (.bool false) wr22)) ∧
    (((!eqQueu4) || (xQueueP14 != xQueueP4)) = false →
    (∃ (heldQu1 : Int),
    PureX [b, b1, b2, b3] Try.prog fn_laws_heldQueue #[.agg #[.int .i64 xQueueP5, .int .i64 xQueueP6, .int .i64 xQueueP7, .slice xQueueP8O xQueueP8L xQueueP8C], .int .i64 1] wv13 (.int .i64 heldQu1) ∧
    ((decide (heldQu1 < 0)) = true →
    (∀ wr23, ExtX [b, b1, b2, b3] wv13 wr23 → R (.bool false) wr23)) ∧
    ((decide (heldQu1 < 0)) = false →
    ((heldQu1 != markQu2) = true →
    (∀ wr24, ExtX [b, b1, b2, b3] wv13 wr24 → R (.bool false) wr24)) ∧
    ((heldQu1 != markQu2) = false →
    (∀ wr25, ExtX [b, b1, b2, b3] wv13 wr25 → R (.bool true) wr25))))))))))))))))))))))))))))))))))))))))))))))))))))))
theorem v_laws_FnExactQueuePlay (aQ0 : Int) (aQ1 : Int) (aQ2 : Int) (aQ3O : Option Addr) (aQ3L : Nat) (aQ3C : Nat) (aOpsO : Option Addr) (aOpsL : Nat) (aOpsC : Nat) (w : World) (R : Value → World → Prop) : evFn c_laws_FnExactQueuePlay s_laws_FnExactQueuePlay [.agg #[.int .i64 aQ0, .int .i64 aQ1, .int .i64 aQ2, .slice aQ3O aQ3L aQ3C], .slice aOpsO aOpsL aOpsC] (bodyOf Try.f8) Try.f8.results.toList w R = V_laws_FnExactQueuePlay aQ0 aQ1 aQ2 aQ3O aQ3L aQ3C aOpsO aOpsL aOpsC w R := by kernel_rfl
theorem e_laws_FnExactQueuePlay (aQ0 : Int) (aQ1 : Int) (aQ2 : Int) (aQ3O : Option Addr) (aQ3L : Nat) (aQ3C : Nat) (aOpsO : Option Addr) (aOpsL : Nat) (aOpsC : Nat) {w : World} {R : Value → World → Prop} (hvc : V_laws_FnExactQueuePlay aQ0 aQ1 aQ2 aQ3O aQ3L aQ3C aOpsO aOpsL aOpsC w R) : Calls Try.prog fn_laws_FnExactQueuePlay #[.agg #[.int .i64 aQ0, .int .i64 aQ1, .int .i64 aQ2, .slice aQ3O aQ3L aQ3C], .slice aOpsO aOpsL aOpsC] w fun e0 wr0 => ∃ v0, e0 = .returned v0 ∧ R v0 wr0 :=
  eff_of_ev (C := c_laws_FnExactQueuePlay) (sps := s_laws_FnExactQueuePlay) (body := bodyOf Try.f8) (env _ _ _) Try.func8 rfl rfl (of_decide_eq_true (by kernel_rfl)) (of_decide_eq_true (by kernel_rfl)) rfl (by rw [v_laws_FnExactQueuePlay]; exact hvc)
noncomputable def c_impl_queueFirst_1 : Cfg := { P := Try.prog, T := tblGet tbl, pf := pfT, ef := efT, tt := ttT, vis := [], n := 33, pm := true }
noncomputable def s_impl_queueFirst_1 : List (Nat × LSpec) := []
def V_impl_queueFirst_1 (a : Int) (b : Int) (cap : Option Addr) (w : World) (R : Value → World → Prop) : Prop :=
    cap.isSome = true ∧
    (∃ (entriesO : Option Addr) (entriesL : Nat) (entriesC : Nat),
    CellsX [] w cap 3 [.slice entriesO entriesL entriesC] ∧
    Ix entriesO entriesL a ∧
    (∃ (v : Int),
    CellsX [] w entriesO (Int.toNat a * 4 + 1) [.int .i64 v] ∧
    cap.isSome = true ∧
    (∃ (entries1O : Option Addr) (entries1L : Nat) (entries1C : Nat),
    CellsX [] w cap 3 [.slice entries1O entries1L entries1C] ∧
    Ix entries1O entries1L b ∧
    (∃ (v1 : Int),
    CellsX [] w entries1O (Int.toNat b * 4 + 1) [.int .i64 v1] ∧
    R (.bool ((decide (v < v1)) || ((v == v1) && (decide (a < b))))) w))))
theorem v_impl_queueFirst_1 (a : Int) (b : Int) (cap : Option Addr) (w : World) (R : Value → World → Prop) : evFn c_impl_queueFirst_1 s_impl_queueFirst_1 [.int .i64 a, .int .i64 b, .pointer cap] (bodyOf Try.f120) Try.f120.results.toList w R = V_impl_queueFirst_1 a b cap w R := by kernel_rfl
theorem p_impl_queueFirst_1 (a : Int) (b : Int) (cap : Option Addr) {w : World} {bs : List Nat} {ret : Value} (hvc : ∀ wr0, ExtX bs w wr0 → V_impl_queueFirst_1 a b cap wr0 fun v0 _ => v0 = ret) : PureX bs Try.prog fn_impl_queueFirst_1 #[.int .i64 a, .int .i64 b, .pointer cap] w ret :=
  pure_of_ev (C := c_impl_queueFirst_1) (sps := s_impl_queueFirst_1) (body := bodyOf Try.f120) (env _ _ _) Try.func120 rfl rfl (of_decide_eq_true (by kernel_rfl)) (of_decide_eq_true (by kernel_rfl)) rfl fun wr0 hx0 => by rw [v_impl_queueFirst_1]; exact hvc wr0 hx0
end Go.Proofs.Ythihcdljmddgfaa
