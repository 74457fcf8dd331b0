/- The law FnExactQueuePlay: it returns true. -/
import Derived.Test.YthihcdljmddgfaaQueP
namespace Go.Proofs.Ythihcdljmddgfaa
open Go.RowKit
set_option maxRecDepth 10000

theorem lt_of_kept3 {n m : Nat} (h : decide ((1 : Int) + 4 * (n : Int) + 3 * (m : Int) < 0) = true) : False := by
  have := of_decide_eq_true h
  omega
theorem lt_of_kept4 {n : Nat} (h : decide ((1 : Int) + 4 * (n : Int) < 0) = true) : False := by
  have := of_decide_eq_true h
  omega
theorem k_FnExactQueuePlay {D : Que} {M : Option Addr × Nat} {l : List QOp} {po : Option Addr} {pc : Nat} {w : World} (ft : FitQ w D M) (hp : RdO [] w po l) (hpl : l.length ≤ maxLen) :
    Calls Try.prog fn_laws_FnExactQueuePlay #[.agg (encQ D M.1 M.2).toArray, .slice po l.length pc] w fun e w' => e = .returned (.bool true) ∧ ExtX [] w w' := by
  obtain ⟨o, c⟩ := M
  obtain ⟨hrd, hle⟩ := ft
  dsimp only at hrd hle ⊢
  refine (e_laws_FnExactQueuePlay D.floor D.cur D.ran o D.es.length c po l.length pc (R := fun v w' => v = .bool true ∧ ExtX [] w w') ?_).mono fun e w' ⟨v, he, hv, h3⟩ => ⟨by rw [he, hv], h3⟩
  have hm9 := maxLen_big
  intro b hb
  refine ⟨_, k_szQueue hle (by decide) (by decide), fun _ w1 hx1 => ⟨rfl, hx1⟩, fun hs => ?_⟩
  have hs := of_decide_eq_false hs
  obtain ⟨hl, hsz⟩ := szN_nn (n := D.es.length) (left := 1048576) (by omega)
  refine ⟨_, k_szQueueOpS hpl (by omega) (by omega), fun _ w1 hx1 => ⟨rfl, hx1⟩, fun hs2 => ?_⟩
  have hs2 := of_decide_eq_false hs2
  obtain ⟨hl2, hsz2⟩ := szN_nn (n := l.length) (left := szN D.es.length 1048576) (by omega)
  have hlD : D.es.length ≤ 1048576 := by omega
  have hlP : l.length ≤ 1048576 := by omega
  generalize hr : playQ D l = r
  have hrl : r.1.es.length ≤ 1048576 := by
    have := playQ_len D l
    rw [hr] at this; omega
  have eqRR : ∀ {w : World} {bs : List Nat} {aO bO : Option Addr} {aC bC : Nat}, RdE bs w aO r.1.es → RdE bs w bO r.1.es → PureX bs Try.prog fn_laws_eqQueue #[.agg (encQ r.1 aO aC).toArray, .agg (encQ r.1 bO bC).toArray] w (.bool true) := fun ha hb => by
    rw [show (Value.bool true) = .bool (decide (r.1 = r.1)) by simp]
    exact k_eqQueue ha hb (by omega)
  have eqDD : ∀ {w : World} {bs : List Nat} {aO bO : Option Addr} {aC bC : Nat}, RdE bs w aO D.es → RdE bs w bO D.es → PureX bs Try.prog fn_laws_eqQueue #[.agg (encQ D aO aC).toArray, .agg (encQ D bO bC).toArray] w (.bool true) := fun ha hb => by
    rw [show (Value.bool true) = .bool (decide (D = D)) by simp]
    exact k_eqQueue ha hb (by omega)
  have eqPP : ∀ {w : World} {bs : List Nat} {aO bO : Option Addr} {aC bC : Nat}, RdO bs w aO l → RdO bs w bO l → PureX bs Try.prog fn_laws_eqQueueOpS #[.slice aO l.length aC, .slice bO l.length bC] w (.bool true) := fun ha hb => by
    rw [show (Value.bool true) = .bool (decide (l = l)) by simp]
    exact k_eqQueueOpS ha hb (by omega)
  have s0 : Sc w [b] w := (Sc.start w).add hb
  intro wr2 hx2 hs2'
  have s2 := s0.call0 hx2
  refine (k_toQueue (hrd.sc s2) hlD).mono fun e wv ⟨o1, c1, he, hO1, hy1⟩ => ⟨_, _, _, _, _, _, he, kept_of hy1 hs2', fun wr3 hx3 hs3 => ?_⟩
  have s3 := (s2.call0 hy1).step hx3
  have hA3 := (Ob.of hO1 hs2').step hx3
  refine (k_toQueueOpS (hp.sc s3) hlP).mono fun e wv1 ⟨o2, c2, he, hO2, hy2⟩ => ⟨_, _, _, he, kept_of hy2 hs3, fun wr4 hx4 hs4 => ?_⟩
  have s4 := (s3.call0 hy2).step hx4
  have hA4 := (hA3.call0 hy2).step hx4
  have hB4 := (Ob.of hO2 hs3).step hx4
  refine (k_spec_QueuePlay (hA4.rd0 elt_Entry.len) hlD (hB4.rd0 elt_QueueOp.len) hlP).mono fun e wv2 ⟨v, he, oW, cW, hv, hOW, hy3⟩ => ?_
  subst hv
  rw [hr] at he hOW
  refine ⟨_, _, _, _, _, _, _, he, kept_of hy3 hs4, fun b1 hb1 wr5 hx5 hs5 => ?_⟩
  have s5 := (s4.call0 hy3).put hx5 hb1
  have hW5 := ((Ob.of hOW hs4).mono s4.ext.size).put hx5 hb1
  refine (k_toQueue (hrd.sc s5) hlD).mono fun e wv3 ⟨oX, cX, he, hOX, hy4⟩ => ⟨_, _, _, _, _, _, he, kept_of hy4 hs5, fun b2 hb2 wr6 hx6 hs6 => ?_⟩
  have nXW := sep_of hW5.own hOX (Nat.le_refl _)
  have s6 := (s5.call0 hy4).put hx6 hb2
  have hW6 := (hW5.call0 hy4).put hx6 hb2
  have hX6 := ((Ob.of hOX hs5).mono s5.ext.size).put hx6 hb2
  refine (k_toQueueOpS (hp.sc s6) hlP).mono fun e wv4 ⟨oP, cP, he, hOP, hy5⟩ => ⟨_, _, _, he, kept_of hy5 hs6, fun wr7 hx7 hs7 => ?_⟩
  have nPW := sep_of hW6.own hOP (Nat.le_refl _)
  have s7 := (s6.call0 hy5).step hx7
  have hW7 := (hW6.call0 hy5).step hx7
  have hX7 := (hX6.call0 hy5).step hx7
  have hP7 := ((Ob.of hOP hs6).mono s6.ext.size).step hx7
  refine (k_impl_QueuePlay (hX7.rd0 elt_Entry.len) hlD (hP7.rd0 elt_QueueOp.len) hlP).mono fun e wv5 ⟨v, he, oG, cG, hv, hOG, hy6⟩ => ?_
  subst hv
  rw [hr] at he hOG
  have nGX := sep_of hX7.own hOG (Nat.le_refl _)
  have nGP := sep_of hP7.own hOG (Nat.le_refl _)
  have nGW := sep_of hW7.own hOG (Nat.le_refl _)
  refine ⟨_, _, _, _, _, _, _, he, kept_of hy6 hs7, fun b3 hb3 => ?_⟩
  have s8 := s7.call0 hy6
  have hW8 := hW7.call0 hy6
  have hX8 := hX7.call0 hy6
  have hP8 := hP7.call0 hy6
  have hG8 := (Ob.of hOG hs7).mono s7.ext.size
  refine ⟨true, eqRR (hG8.rd elt_Entry.len) (hW8.rd elt_Entry.len), fun hbad => by simp at hbad, fun _ wr9 hx9 hs9 => ?_⟩
  have s9 := s8.put hx9 hb3
  have hW9 := hW8.put hx9 hb3
  have hX9 := hX8.put hx9 hb3
  have hP9 := hP8.put hx9 hb3
  have hG9 := hG8.put hx9 hb3
  refine (k_toQueue (hrd.sc s9) hlD).mono fun e wv6 ⟨oY, cY, he, hOY, hy7⟩ => ⟨_, _, _, _, _, _, he, kept_of hy7 hs9, rfl, true, eqDD ((hX9.call0 hy7).rd elt_Entry.len) ((Ob.of hOY hs9).rd elt_Entry.len), fun hbad => by simp at hbad, fun _ wr11 hx11 hs11 => ?_⟩
  have s11 := (s9.call0 hy7).step hx11
  have hW11 := (hW9.call0 hy7).step hx11
  have hX11 := (hX9.call0 hy7).step hx11
  have hP11 := (hP9.call0 hy7).step hx11
  have hG11 := (hG9.call0 hy7).step hx11
  refine (k_toQueueOpS (hp.sc s11) hlP).mono fun e wv7 ⟨oZ, cZ, he, hOZ, hy8⟩ => ⟨_, _, _, he, kept_of hy8 hs11, true, eqPP ((hP11.call0 hy8).rd elt_QueueOp.len) ((Ob.of hOZ hs11).rd elt_QueueOp.len), fun hbad => by simp at hbad, fun _ wr13 hx13 hs13 => ?_⟩
  have s13 := (s11.call0 hy8).step hx13
  have hW13 := (hW11.call0 hy8).step hx13
  have hX13 := (hX11.call0 hy8).step hx13
  have hP13 := (hP11.call0 hy8).step hx13
  have hG13 := (hG11.call0 hy8).step hx13
  refine (k_markQueue (q := D) (k := 1) hX13.own hlD (by decide) (by decide)).mono fun e wv8 ⟨he, hOM, hyM⟩ => ⟨_, he, kept_sep hyM hs13 hX13.nb, fun wr14 hx14 hs14 => ?_⟩
  have nPX : ∀ x ∈ blkOf oP, x ∉ blkOf oX := fun x hx hx' => hP13.own.ty_ne hX13.own (by decide) x hx hx'
  have s14 := (s13.call hyM fun x hx => (hX13.own.lt x hx).1).step hx14
  have hW14 := (hW13.call hyM fun x hx hx' => nXW.1 x hx hx').step hx14
  have hP14 := (hP13.call hyM nPX).step hx14
  have hG14 := (hG13.call hyM fun x hx => nGX.2 x hx).step hx14
  refine (k_markQueueOpS (l := l) (k := 1 + 4 * (D.es.length : Int)) hP14.own hlP (by omega) (by omega)).mono fun e wv9 ⟨he, hyM2⟩ => ?_
  have s15 := s14.call hyM2 fun x hx => (hP14.own.lt x hx).1
  have hW15 := hW14.call hyM2 fun x hx hx' => nPW.1 x hx hx'
  have hG15 := hG14.call hyM2 fun x hx => nGP.2 x hx
  refine ⟨_, he, kept_sep hyM2 hs14 hP14.nb, true, fun _ => eqRR (hG15.rd elt_Entry.len) (hW15.rd elt_Entry.len), fun hbad => ?_, fun _ wr16 hx16 hs16 => ?_⟩
  · exfalso
    simp only [Bool.not_true, Bool.or_false, bne_self_eq_false] at hbad
    exact lt_of_kept3 hbad
  have s16 := s15.step hx16
  have hW16 := hW15.step hx16
  have hG16 := hG15.step hx16
  refine (k_markQueue (q := r.1) (k := 1) hG16.own hrl (by decide) (by decide)).mono fun e wv10 ⟨he, hOM3, hyM3⟩ => ?_
  have s17 := s16.call hyM3 fun x hx => (hG16.own.lt x hx).1
  have hW17 := hW16.call hyM3 fun x hx hx' => nGW.1 x hx hx'
  have hH17 : ObE w.heap.size _ wv10 _ _ (markE r.1.es.length 1) := ⟨hOM3, hG16.nb⟩
  refine ⟨_, he, kept_sep hyM3 hs16 hG16.nb, _, k_heldQueue (q := r.1) rfl (hH17.rd elt_Entry.len) hrl (by decide) (by decide), fun hbad => (lt_of_kept4 hbad).elim, fun _ => ⟨fun hbad => by simp at hbad, fun _ wr19 hx19 hs19 => ?_⟩⟩
  have s19 := s17.step hx19
  have hW19 := hW17.step hx19
  have hH19 := hH17.step hx19
  refine (k_toQueue (hrd.sc s19) hlD).mono fun e wv11 ⟨o5, c5, he, hO5, hy9⟩ => ⟨_, _, _, _, _, _, he, kept_of hy9 hs19, fun wr20 hx20 hs20 => ?_⟩
  have s20 := (s19.call0 hy9).step hx20
  have hW20 := (hW19.call0 hy9).step hx20
  have hH20 := (hH19.call0 hy9).step hx20
  have hA20 := (Ob.of hO5 hs19).step hx20
  refine (k_toQueueOpS (hp.sc s20) hlP).mono fun e wv12 ⟨o6, c6, he, hO6, hy10⟩ => ⟨_, _, _, he, kept_of hy10 hs20, fun wr21 hx21 hs21 => ?_⟩
  have s21 := (s20.call0 hy10).step hx21
  have hW21 := (hW20.call0 hy10).step hx21
  have hH21 := (hH20.call0 hy10).step hx21
  have hA21 := (hA20.call0 hy10).step hx21
  have hB21 := (Ob.of hO6 hs20).step hx21
  refine (k_impl_QueuePlay (hA21.rd0 elt_Entry.len) hlD (hB21.rd0 elt_QueueOp.len) hlP).mono fun e wv13 ⟨v, he, oI, cI, hv, hOI, hy11⟩ => ?_
  subst hv
  rw [hr] at he hOI
  have hI := Ob.of hOI hs21
  exact ⟨_, _, _, _, _, _, _, he, kept_of hy11 hs21, fun b4 _ => ⟨true, eqRR (hI.rd elt_Entry.len) ((hW21.call0 hy11).rd elt_Entry.len), fun hbad => by simp at hbad, fun _ => ⟨_, k_heldQueue (q := r.1) rfl ((hH21.call0 hy11).rd elt_Entry.len) hrl (by decide) (by decide), fun hbad => (lt_of_kept4 hbad).elim, fun _ => ⟨fun hbad => by simp at hbad, fun _ wr25 hx25 => ⟨rfl, ((s21.call0 hy11).step hx25).ext⟩⟩⟩⟩⟩
end Go.Proofs.Ythihcdljmddgfaa
