/- Two queues held against one another, by the laws. -/
import Derived.Test.YthihcdljmddgfaaGoodQ
import Derived.Test.YthihcdljmddgfaaEqv
namespace Go.Proofs.Ythihcdljmddgfaa
open Go.RowKit
set_option linter.unusedVariables false
set_option maxRecDepth 10000

theorem flat_Entry : FlatT Try.prog ty_impl_Entry := ⟨by kernel_rfl, by kernel_rfl, by kernel_rfl⟩
theorem fe_Entry (a b : Ent) : flatE Try.prog (Try.prog.fieldsOf ty_impl_Entry).toList 0 (encE a) (encE b) = some ((a.on == b.on) && ((a.v == b.v) && ((a.w == b.w) && ((a.sum == b.sum) && true)))) := by kernel_rfl
theorem k_stQueue {a b : Que} {aO bO : Option Addr} {aC bC : Nat} {w : World} {bs : List Nat} (ha : RdE bs w aO a.es) (hb : RdE bs w bO b.es) (hl : a.es.length ≤ maxLen) :
    PureX bs Try.prog fn_laws_stQueue #[.agg (encQ a aO aC).toArray, .agg (encQ b bO bC).toArray] w (.bool (decide (a = b))) :=
  p_laws_stQueue a.floor a.cur a.ran aO a.es.length aC b.floor b.cur b.ran bO b.es.length bC fun wr hx => by
    have ha := (ha.ext hx).less (cs := []) (by simp)
    have hb := (hb.ext hx).less (cs := []) (by simp)
    intro b1 _ b4 _
    refine ⟨fun g => ?_, fun g => ?_⟩
    · have : ¬ a = b := fun e => by
        rw [e] at g
        simp at g
      rw [decide_eq_false this]
    · simp only [Bool.or_eq_false_iff, bne_eq_false_iff_eq] at g
      obtain ⟨⟨⟨g1, g2⟩, g3⟩, g4⟩ := g
      have hlen : a.es.length = b.es.length := by omega
      refine loop1 a.es.length 0 rfl (fun k => k ≤ a.es.length ∧ ∀ j : Nat, j < k → gi a.es (j : Int) = gi b.es (j : Int)) ⟨Nat.zero_le _, fun j hj => absurd hj (Nat.not_lt_zero j)⟩ fun k ⟨hk, hI⟩ => ⟨fun hlt => ?_, fun hge => ?_⟩
      · have hlt := of_decide_eq_true hlt
        have hlt' : (k : Int) < (b.es.length : Int) := by omega
        refine ⟨ha.ix encE_c (by omega) hlt, _, _, _, _, ha k (by omega) hlt, hb.ix encE_c (by omega) hlt', _, _, _, _, hb k (by omega) hlt', _, fun wq => run_neq_of flat_Entry (fe_Entry _ _) _ _ wq, fun g5 => ?_, fun g5 => ⟨inR_nat hlt hl, loop1_next (by omega) ⟨by omega, fun j hj => ?_⟩⟩⟩
        · have : ¬ a = b := fun e => by
            rw [e] at g5
            simp at g5
          rw [decide_eq_false this]
        · by_cases hjk : j < k
          · exact hI j hjk
          · have : j = k := by omega
            subst this
            simp only [Bool.and_true, Bool.not_eq_false', Bool.and_eq_true, beq_iff_eq] at g5
            obtain ⟨e1, e2, e3, e4⟩ := g5
            cases hx1 : gi a.es (j : Int)
            cases hx2 : gi b.es (j : Int)
            rw [hx1, hx2] at e1 e2 e3 e4
            simp only at e1 e2 e3 e4
            rw [e1, e2, e3, e4]
      · have hge := of_decide_eq_false hge
        have hes : a.es = b.es := gi_ext hlen fun j hj => hI j (by omega)
        have : a = b := by
          cases a; cases b
          simp only at g1 g2 g3 hes
          rw [g1, g2, g3, hes]
        rw [decide_eq_true this]

end Go.Proofs.Ythihcdljmddgfaa
