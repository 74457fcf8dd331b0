/- The law FnExactTreeUnder: it returns true. -/
import Derived.Test.YthihcdljmddgfaaTreeI
namespace Go.Proofs.Ythihcdljmddgfaa
open Go.RowKit
set_option maxRecDepth 10000
theorem k_FnExactTreeUnder {gs : List Grp} {ms : Nat → MG} {o : Option Addr} {c : Nat} {w : World} {g h : Int} (hr : RdG [] w o gs ms) (hf : ∀ i : Int, 0 ≤ i → i < (gs.length : Int) → FitG (gi gs i)) (hl : gs.length ≤ maxLen) (_ : InR .i64 g) (_ : InR .i64 h) :
    Calls Try.prog fn_laws_FnExactTreeUnder #[.slice o gs.length c, .int .i64 g, .int .i64 h] w fun e w' => e = .returned (.bool true) ∧ ExtX [] w w' := by
  refine (e_laws_FnExactTreeUnder o gs.length c g h (R := fun v w' => v = .bool true ∧ ExtX [] w w') ?_).mono fun e w' ⟨v, he, hv, h3⟩ => ⟨by rw [he, hv], h3⟩
  refine ⟨_, k_szGroupS hr hf (by decide) (by decide) hl, fun _ w1 hx1 => ⟨rfl, hx1⟩, fun hs w1 hx1 _ => ?_⟩
  have hs := of_decide_eq_false hs
  obtain ⟨_, hl2, hsm⟩ := szGS_nn (gs := gs) (left := 1048576) (by decide) (by omega)
  refine (k_toGroupS (hr.ext hx1) hsm hl2).mono fun e w2 ⟨o2, c2, ps2, he, hm2, hO2, hx2⟩ => ⟨_, _, _, he, kept_nil, ?_⟩
  have hR2 := hO2.rd0
  rw [hm2] at hR2
  refine ⟨_, k_spec_TreeUnder hR2 hl, fun w3 hx3 _ => ?_⟩
  have g3 := (hx1.trans hx2).trans hx3
  refine (k_toGroupS (hr.ext g3) hsm hl2).mono fun e w4 ⟨o4, c4, ps4, he4, hm4, hO4, hx4⟩ => ⟨_, _, _, he4, kept_nil, ?_⟩
  have hR4 := hO4.rd0
  rw [hm4] at hR4
  refine ⟨_, k_impl_TreeUnder hR4 hl, fun hbad => by simp at hbad, fun _ w5 hx5 _ => ?_⟩
  have g5 := (g3.trans hx4).trans hx5
  refine (k_toGroupS (hr.ext g5) hsm hl2).mono fun e w6 ⟨o6, c6, ps6, he6, hm6, hO6, hx6⟩ => ⟨_, _, _, he6, kept_nil, ?_⟩
  have hR6 := hO6.rd0
  rw [hm6] at hR6
  refine ⟨_, k_eqGroupS ((hR4.ext hx5).ext hx6) hR6 hsm hl, fun hbad => ?_, fun _ w7 hx7 => ⟨rfl, (g5.trans hx6).trans hx7⟩⟩
  rw [decide_eq_true rfl] at hbad
  cases hbad
end Go.Proofs.Ythihcdljmddgfaa
