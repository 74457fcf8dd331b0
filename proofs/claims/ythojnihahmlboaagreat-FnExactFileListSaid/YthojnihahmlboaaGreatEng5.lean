/- The engine, part 5: 'evq' is sound: what it owes makes the operation quiet in the model. -/
import Derived.Test.YthojnihahmlboaaGreatEng4
namespace Go.Proofs.YthojnihahmlboaaGreat
open Go.RowKit
set_option linter.unusedVariables false

theorem lowOf_out {l : Option Value} {K : Int → Prop} (h : lowOf l K) : ∃ li : Int, (l = none ∧ li = 0 ∨ ∃ k, l = some (.int k li)) ∧ K li := by
  unfold lowOf at h
  split at h
  · exact ⟨0, .inl ⟨rfl, rfl⟩, h⟩
  · exact ⟨_, .inr ⟨_, rfl⟩, h⟩
  · exact h.elim
theorem highOf_out {n : Nat} {l : Option Value} {K : Int → Prop} (h : highOf n l K) : ∃ li : Int, (l = none ∧ li = n ∨ ∃ k, l = some (.int k li)) ∧ K li := by
  unfold highOf at h
  split at h
  · exact ⟨n, .inl ⟨rfl, rfl⟩, h⟩
  · exact ⟨_, .inr ⟨_, rfl⟩, h⟩
  · exact h.elim
theorem run_bounds {P : Program} {b : Bool} {len cap : Nat} {l hh : Option Value} {li hi : Int} (h : 0 ≤ li ∧ li ≤ hi ∧ hi ≤ cap) (hl : l = none ∧ li = 0 ∨ ∃ k, l = some (.int k li)) (hh0 : hh = none ∧ hi = len ∨ ∃ k, hh = some (.int k hi)) (wr : World) :
    (Instr.sliceBounds b len cap l hh none).run P wr = .ok (li.toNat, hi.toNat, cap) wr := by
  obtain ⟨h0, h1, h2⟩ := h
  have h4 : 0 ≤ hi := Int.le_trans h0 h1
  rcases hl with ⟨rfl, rfl⟩ | ⟨k, rfl⟩ <;> rcases hh0 with ⟨rfl, rfl⟩ | ⟨k', rfl⟩
  · simp [Instr.sliceBounds]
  · simp [Instr.sliceBounds, Instr.sliceBound, asIntOf, h1, h2]
  · simp [Instr.sliceBounds, Instr.sliceBound, asIntOf, h0, h1]
  · have h3 : li ≤ ((hi.toNat : Nat) : Int) := by omega
    simp only [Instr.sliceBounds, Instr.sliceBound, asIntOf, Sem.run_bind, Sem.run_pure, Result.andThen_ok, Sem.run_ite, if_pos (And.intro h4 h2), if_pos (And.intro h0 h3)]

theorem CellsX.cells {bs : List Nat} {w wr : World} {o : Option Addr} {n : Nat} {vs : List Value} (h : CellsX bs w o n vs) (hx : ExtX bs w wr) {a : Addr} (ho : o = some a) (j : Nat) (x : Value) (hj : vs[j]? = some x) : wr.cell? ((a.add n).add j) = some x := by
  obtain ⟨b, hb, _, hc⟩ := (h.get j x hj).ext hx
  rw [ho] at hb
  cases hb
  rw [add_add']; exact hc

theorem exSome {bs : List Nat} {w : World} {o : Option Addr} {n : Nat} {ty : Ty} {vs : List Value} {v : Value} (hv : ty.val vs = some v) (hl : vs.length = ty.ks.length) (hk : 0 < ty.ks.length) (h : CellsX bs w o n vs) : ∃ u, CellX bs w o n u := by
  cases vs with
  | nil => simp at hl; omega
  | cons x r => exact ⟨x, h.get 0 x rfl⟩
theorem loc_cell {S : St} {w wr : World} (h : WRel S w wr) {id : Nat} {t : TypeId} {cs : List Value} (hl : S.L[id]? = some (t, cs)) {b : Nat} (hb : S.B[id]? = some b) (i : Nat) : wr.cell? ⟨b, i, none⟩ = cs[i]? := by
  obtain ⟨b', hb', hh⟩ := h.loc id t cs hl
  rw [hb] at hb'; cases hb'
  simp [World.cell?, hh]

theorem evq_sound {C : Cfg} (hT : TOk C.P C.T) (hcall : ∀ f ks, asc C.pf f = some ks → Callable C.P f) {S : St} {w : World} {ops : Array Oper} {o : Oper} {pc : List (Nat × Bool)} {K : EV → OFact → Prop} {a : Act}
    (hf : Fits C.n S ops a) (hp : pcH ops a pc) (h : evq C S w ops o pc K) : QGives C S w o a K := by
  have G : ∀ A, gdP S ops pc A → A := fun A => gdP_out hf hp
  unfold evq at h
  split at h
  case h_1 x ho =>
    split at h
    · rename_i e he
      exact QGives.of_run h (opv_den hf hp he) fun wr => by simp [execOp, ho]
    · exact h.elim
  case h_2 x ho =>
    split at h
    · rename_i e he
      exact QGives.of_run h (opv_den hf hp he) fun wr => by simp [execOp, ho]
    · exact h.elim
  case h_3 c x y ho =>
    split at h
    · rename_i cb hc
      have hcv := opa_eval hf hp hc
      split at h
      · rename_i hno
        split at h
        · rename_i v hv
          have hcb : cb = false := by
            cases hq : cb with
            | false => rfl
            | true =>
              rw [hq] at hcv
              exact (opv_den hf (condPc_H hf hp hcv) hno).elim
          rw [hcb] at hcv
          have hv' := opa_eval hf (condPc_H hf hp hcv) hv
          exact QGives.of_run h rfl fun wr => by simp [execOp, ho, hcv, asBool, hv']
        · exact h.elim
      · rename_i hno _
        split at h
        · rename_i v hv
          have hcb : cb = true := by
            cases hq : cb with
            | true => rfl
            | false =>
              rw [hq] at hcv
              exact (opv_den hf (condPc_H hf hp hcv) hno).elim
          rw [hcb] at hcv
          have hv' := opa_eval hf (condPc_H hf hp hcv) hv
          exact QGives.of_run h rfl fun wr => by simp [execOp, ho, hcv, asBool, hv']
        · exact h.elim
      · split at h
        · rename_i u v hu hv
          obtain ⟨r, hK, hr⟩ := pickRes_out (ax := a.eval x) (bx := a.eval y) (fun e => by
              subst e; exact opa_eval hf (condPc_H hf hp hcv) hu) (fun e => by
              subst e; exact opa_eval hf (condPc_H hf hp hcv) hv) (fun v e => by subst e; rfl) (fun v e => by subst e; rfl) h
          refine QGives.of_run hK (v := r) rfl fun wr => ?_
          simp only [execOp, ho, hcv, asBool]
          rw [hr]
          cases cb <;> rfl
        · exact h.elim
    · exact h.elim
  case h_4 x ho =>
    split at h
    · rename_i b n he
      have hd := opv_den hf hp he
      refine QGives.of_run h hd fun wr => ?_
      obtain ⟨b, _, hb⟩ := hd
      simp [execOp, ho, hb]
    · rename_i id off he
      have hd := opv_den hf hp he
      refine QGives.of_run h hd fun wr => ?_
      obtain ⟨b, _, hb⟩ := hd
      simp [execOp, ho, hb]
    · rename_i id i k he
      have hd := opv_den hf hp he
      refine QGives.of_run h hd fun wr => ?_
      obtain ⟨b, _, _, hb⟩ := hd
      simp [execOp, ho, hb]
    · rename_i b he
      have hd := opv_den hf hp he
      obtain ⟨h1, h2⟩ := h
      have h3 := G _ h1
      obtain ⟨ad, rfl⟩ := Option.isSome_iff_exists.1 h3
      simp only [EV.den] at hd
      exact QGives.of_run h2 (v := .pointer (some ad)) ⟨ad, rfl, by rw [Addr.add_zero']⟩ fun wr => by simp [execOp, ho, hd]
    · rename_i f fs cs he
      have hd := opv_den hf hp he
      refine QGives.of_run h hd fun wr => ?_
      simp only [EV.den] at hd
      simp [execOp, ho, hd]
    · exact h.elim
  case h_5 op t x y yt ho =>
    split at h
    · rename_i ty u v ht hu hv
      have hu' := opa_eval hf hp hu
      have hv' := opa_eval hf hp hv
      cases hb : byR ty.d op C.wr with
      | true =>
        rw [hb] at h
        simp only [cond_true] at h
        obtain ⟨r, h1, h2⟩ := exK_out h
        refine QGives.of_run h2 (v := r) rfl fun wr => ?_
        have := G _ h1 wr
        simp only [execOp, ho, hu', hv', Sem.run_bind] at this ⊢
        rw [this]
        rfl
      | false =>
        rw [hb] at h
        simp only [cond_false] at h
        obtain ⟨r, hK, hr⟩ := evBin_run hT ht (x := x) (y := y) G h
        refine QGives.of_run hK (v := r) rfl fun wr => ?_
        have := hr wr
        simp only [execOp, ho, hu', hv', Sem.run_bind] at this ⊢
        rw [this]
        rfl
    · exact h.elim
  case h_6 t x ho =>
    split at h
    · rename_i b hb
      exact QGives.of_run h rfl fun wr => by simp [execOp, ho, opa_eval hf hp hb, Op.unary]
    · exact h.elim
  case h_7 t x ho =>
    split at h
    · rename_i k n hb
      obtain ⟨h1, h2⟩ := h
      have h3 := (G _ h1).wrap
      rw [Int.zero_sub] at h3
      exact QGives.of_run h2 rfl fun wr => by simp [execOp, ho, opa_eval hf hp hb, Op.unary, Op.intArith, h3]
    · exact h.elim
  case h_8 s x f ho =>
    split at h
    · rename_i ag ks fs e ht he
      have hd := opv_den hf hp he
      obtain ⟨d, hu, _, htd⟩ := (hT.facts ht).desc
      obtain ⟨fl, rfl, hfl⟩ := tdOf_struct htd.symm
      split at h
      · rename_i off b z hfs
        obtain ⟨fd, i, dd, hfd, hi, _, hz, hx⟩ := fieldsOf_get hfl f _ hfs
        simp only [Prod.mk.injEq] at hx
        obtain ⟨rfl, _, rfl⟩ := hx
        have hfd' : fl[f]? = some fd := by simpa using hfd
        have hrun : ∀ (ad : Addr) wr, (Instr.fieldAt s (.pointer (some ad)) f).run C.P wr = .ok (.pointer (some (ad.add fd.offset))) wr := fun ad wr => by
          simp [Instr.fieldAt, run_underlying hu, hfd', Instr.sureAddr, fieldPlace, run_sizeOf' hi, hz]
        split at h
        · rename_i id m
          obtain ⟨b, hb, hv⟩ := hd
          refine QGives.of_run h (v := .pointer (some ⟨b, m + fd.offset, none⟩)) ⟨b, hb, rfl⟩ fun wr => ?_
          simp [execOp, ho, hv, hrun, Addr.add_lit]
        · rename_i ob m
          obtain ⟨ad, hb, hv⟩ := hd
          refine QGives.of_run h (v := .pointer (some (ad.add (m + fd.offset)))) ⟨ad, hb, rfl⟩ fun wr => ?_
          simp [execOp, ho, hv, hrun, add_add']
        · rename_i id ix m
          obtain ⟨b, hb, h0, hv⟩ := hd
          refine QGives.of_run h (v := .pointer (some ⟨b, ix.toNat + (m + fd.offset), none⟩)) ⟨b, hb, h0, rfl⟩ fun wr => ?_
          simp [execOp, ho, hv, hrun, Addr.add_lit, Nat.add_assoc]
        · rename_i ob
          obtain ⟨h1, h2⟩ := h
          obtain ⟨ad, rfl⟩ := Option.isSome_iff_exists.1 (G _ h1)
          simp only [EV.den] at hd
          refine QGives.of_run h2 (v := .pointer (some (ad.add fd.offset))) ⟨ad, rfl, rfl⟩ fun wr => ?_
          simp [execOp, ho, hd, hrun]
        · exact h.elim
      · exact h.elim
    · exact h.elim
  case h_9 t x f ho =>
    split at h
    · rename_i ag ks fs cs ht hx
      have hx' := opa_eval hf hp hx
      obtain ⟨d, hu, _, htd⟩ := (hT.facts ht).desc
      obtain ⟨fl, rfl, hfl⟩ := tdOf_struct htd.symm
      split at h
      · rename_i off z hfs
        obtain ⟨fd, i, dd, hfd, hi, hdd, hz, hx⟩ := fieldsOf_get hfl f _ hfs
        simp only [Prod.mk.injEq] at hx
        obtain ⟨rfl, hag, rfl⟩ := hx
        have hfd' : fl[f]? = some fd := by simpa using hfd
        refine QGives.of_run h rfl fun wr => ?_
        simp [execOp, ho, hx', Instr.field, run_underlying hu, hfd', asAgg, part, run_isAgg' hdd, ← hag, run_sizeOf' hi]
      · rename_i off z hfs
        obtain ⟨fd, i, dd, hfd, hi, hdd, hz, hx⟩ := fieldsOf_get hfl f _ hfs
        simp only [Prod.mk.injEq] at hx
        obtain ⟨rfl, hag, rfl⟩ := hx
        have hfd' : fl[f]? = some fd := by simpa using hfd
        split at h
        · rename_i v hv
          refine QGives.of_run h rfl fun wr => ?_
          simp [execOp, ho, hx', Instr.field, run_underlying hu, hfd', asAgg, part, run_isAgg' hdd, ← hag, hv]
        · exact h.elim
      · exact h.elim
    · exact h.elim
  case h_10 t x i ho =>
    split at h
    · rename_i ag ks e z ob len cap ki ix ht hx hi
      have hx' := opv_den hf hp hx
      simp only [EV.den] at hx'
      have hi' := opa_eval hf hp hi
      obtain ⟨d, hu, _, htd⟩ := (hT.facts ht).desc
      obtain ⟨inf, rfl, hinf, rfl⟩ := tdOf_slice htd.symm
      obtain ⟨h1, h2⟩ := h
      obtain ⟨h3, h4, h5⟩ := G _ h1
      obtain ⟨ad, rfl⟩ := Option.isSome_iff_exists.1 h5
      refine QGives.of_run h2 (v := .pointer (some (ad.add (ix.toNat * inf.size)))) ⟨ad, rfl, rfl⟩ fun wr => ?_
      simp [execOp, ho, hx', hi', Instr.indexAt, asIntOf, run_underlying hu, h3, h4, run_sizeOf' hinf]
    · rename_i ag ks e id len ki ix ht hx hi
      have hx' := opv_den hf hp hx
      obtain ⟨b, hb, hx'⟩ := hx'
      have hi' := opa_eval hf hp hi
      obtain ⟨d, hu, _, htd⟩ := (hT.facts ht).desc
      obtain ⟨inf, rfl, hinf, hsz⟩ := tdOf_slice htd.symm
      obtain ⟨h1, h2⟩ := h
      obtain ⟨h3, h4⟩ := G _ h1
      refine QGives.of_run h2 (v := .pointer (some ⟨b, ix.toNat + 0, none⟩)) ⟨b, hb, h3, rfl⟩ fun wr => ?_
      simp [execOp, ho, hx', hi', Instr.indexAt, asIntOf, run_underlying hu, h3, h4, run_sizeOf' hinf, hsz, Addr.add_lit]
    · rename_i ag ks n z ea ob m ki ix ht hx hi
      have hx' := opv_den hf hp hx
      obtain ⟨ad, hb, hx'⟩ := hx'
      have hi' := opa_eval hf hp hi
      obtain ⟨d, hu, _, htd⟩ := (hT.facts ht).desc
      obtain ⟨e, inf, de, rfl, hinf, rfl, _, _⟩ := tdOf_arr htd.symm
      obtain ⟨h1, h2⟩ := h
      obtain ⟨h3, h4⟩ := G _ h1
      refine QGives.of_run h2 (v := .pointer (some (ad.add (m + ix.toNat * inf.size)))) ⟨ad, hb, rfl⟩ fun wr => ?_
      simp [execOp, ho, hx', hi', Instr.indexAt, Instr.sureAddr, asIntOf, run_underlying hu, h3, h4, run_sizeOf' hinf, add_add']
    · rename_i ag ks n ea id ki ix ht hx hi
      have hx' := opv_den hf hp hx
      obtain ⟨b, hb, hx'⟩ := hx'
      have hi' := opa_eval hf hp hi
      obtain ⟨d, hu, _, htd⟩ := (hT.facts ht).desc
      obtain ⟨e, inf, de, rfl, hinf, hsz, _, _⟩ := tdOf_arr htd.symm
      obtain ⟨h1, h2⟩ := h
      obtain ⟨h3, h4⟩ := G _ h1
      refine QGives.of_run h2 (v := .pointer (some ⟨b, ix.toNat + 0, none⟩)) ⟨b, hb, h3, rfl⟩ fun wr => ?_
      simp [execOp, ho, hx', hi', Instr.indexAt, Instr.sureAddr, asIntOf, run_underlying hu, h3, h4, run_sizeOf' hinf, hsz, Addr.add_lit]
    · exact h.elim
  case h_11 t x i ho =>
    split at h
    · rename_i ag k ks n cs ki ix ht hx hi
      have hx' := opa_eval hf hp hx
      have hi' := opa_eval hf hp hi
      obtain ⟨d, hu, _, htd⟩ := (hT.facts ht).desc
      obtain ⟨e, inf, de, rfl, hinf, hsz, hde, hag⟩ := tdOf_arr htd.symm
      obtain ⟨v, h1, h2⟩ := exK_out h
      obtain ⟨h3, h4, h5⟩ := G _ h1
      refine QGives.of_run h2 rfl fun wr => ?_
      simp [execOp, ho, hx', hi', Instr.index, asIntOf, run_underlying hu, h3, h4, run_sizeOf' hinf, hsz, part, run_isAgg' hde, hag, h5]
    · rename_i ag ks s ki ix ht hx hi
      have hx' := opa_eval hf hp hx
      have hi' := opa_eval hf hp hi
      obtain ⟨d, hu, _, htd⟩ := (hT.facts ht).desc
      have := tdOf_str htd.symm
      subst this
      obtain ⟨h1, h2⟩ := h
      obtain ⟨h3, h4⟩ := G _ h1
      refine QGives.of_run h2 rfl fun wr => ?_
      have h5 : ix.toNat < s.size := by omega
      have h6 : s[ix.toNat]? = some (s[ix.toNat]) := by simp [h5]
      simp only [execOp, ho, hx', hi', Instr.index, asIntOf, Sem.run_bind, Sem.run_pure, run_underlying hu, Result.andThen_ok, h3, if_true, h6]
      have h7 : strAt s ix = (s[ix.toNat].toNat : Int) := by
        unfold strAt
        congr 2
        simp [Array.getD, h5]
        rfl
      rw [h7]
    · exact h.elim
  case h_12 sT t x ho =>
    split at h
    · rename_i ty0 ag ks k k0 n hs ht hx
      have hx' := opa_eval hf hp hx
      obtain ⟨d0, hu0, _, _⟩ := (hT.facts hs).desc
      obtain ⟨d, hu, _, htd⟩ := (hT.facts ht).desc
      have := tdOf_int htd.symm
      subst this
      obtain ⟨h1, h2⟩ := h
      have h3 := (G _ h1).wrap
      refine QGives.of_run h2 rfl fun wr => ?_
      cases d0 <;> simp [execOp, ho, hx', convert, run_underlying hu0, run_underlying hu, Conv.intToInt, h3]
    · exact h.elim
  case h_13 x i ho =>
    split at h
    · rename_i vs hx
      have hx' := opa_eval hf hp hx
      split at h
      · rename_i v hv
        exact QGives.of_run h rfl fun wr => by simp [execOp, ho, hx', Instr.extract, hv]
      · exact h.elim
    · exact h.elim
  case h_14 t x lo hi ho =>
    split at h
    · rename_i ag ks e z ob len cap l hh ht hx hl hhi
      have hx' := opa_eval hf hp hx
      have hl' := opao_eval hf hp hl
      have hh' := opao_eval hf hp hhi
      obtain ⟨d, hu, _, htd⟩ := (hT.facts ht).desc
      obtain ⟨inf, rfl, hinf, rfl⟩ := tdOf_slice htd.symm
      obtain ⟨li, hl1, h⟩ := lowOf_out h
      obtain ⟨hi', hh1, h1, h2⟩ := highOf_out h
      have hsb := run_bounds (P := C.P) (b := true) (G _ h1) hl1 hh1
      exact QGives.of_run h2 rfl fun wr => by simp [execOp, ho, hx', hl', hh', Instr.sliceAt, Instr.slice, run_underlying hu, hsb, run_sizeOf' hinf]
    · rename_i ag ks sv l hh ht hx hl hhi
      have hx' := opa_eval hf hp hx
      have hl' := opao_eval hf hp hl
      have hh' := opao_eval hf hp hhi
      obtain ⟨d, hu, _, htd⟩ := (hT.facts ht).desc
      have := tdOf_str htd.symm
      subst this
      obtain ⟨li, hl1, h⟩ := lowOf_out h
      obtain ⟨hi', hh1, h1, h2⟩ := highOf_out h
      have hsb := run_bounds (P := C.P) (b := false) (G _ h1) hl1 hh1
      exact QGives.of_run h2 rfl fun wr => by simp [execOp, ho, hx', hl', hh', Instr.sliceAt, Instr.slice, run_underlying hu, hsb]
    · exact h.elim
  case h_15 fn first cap ho =>
    split at h
    · rename_i va vb hva hvb
      have h1 := opas_eval hf hp hva
      have h2 := opas_eval hf hp hvb
      have e1 : first.map a.eval = va.toArray := by rw [← h1, ← Array.toList_map, Array.toArray_toList]
      have e2 : cap.map a.eval = vb.toArray := by rw [← h2, ← Array.toList_map, Array.toArray_toList]
      exact QGives.of_run h rfl fun wr => by simp [execOp, ho, Instr.makeFunc, e1, e2]
    · exact h.elim
  case h_16 t x ho =>
    split at h
    · rename_i ty v ht hx
      have hx' := opa_eval hf hp hx
      obtain ⟨d, hu, _, htd⟩ := (hT.facts ht).desc
      cases ho' : ty.d.isOther with
      | true => rw [ho'] at h; exact h.elim
      | false =>
        rw [ho'] at h
        simp only [cond_false] at h
        refine QGives.of_run h rfl fun wr => ?_
        cases d with
        | interface ms => rw [htd] at ho'; simp [tdOf, TD.isOther] at ho'
        | _ => simp [execOp, ho, hx', Instr.makeInterface, run_underlying hu]
    · exact h.elim
  case h_17 x t u ok ho =>
    split at h
    · rename_i v rk hx hrk
      have hx' := opa_eval hf hp hx
      obtain ⟨r, h1, h2⟩ := exRes_out h
      exact QGives.of_run h2 rfl fun wr => by simp [execOp, ho, hx', G _ h1 wr]
    · exact h.elim
  case h_18 t parts ho =>
    split at h
    · rename_i ag ks fs ht
      obtain ⟨d, hu, _, htd⟩ := (hT.facts ht).desc
      obtain ⟨inf, z, hinf, hz, hsz, hks⟩ := (hT.facts ht).info
      obtain ⟨fl, rfl, hfl⟩ := tdOf_struct htd.symm
      split at h
      · rename_i vs hvs hno
        have hv := opas_eval hf hp hvs
        split at h
        · rename_i cells hfill
          refine QGives.of_run h rfl fun wr => ?_
          have hzc : z.cells = (ks.map zv).toArray := by
            have h0 : ∀ (l : List Value), (l.map ckOf).contains .other = false → (l.map ckOf).map zv = l := by
              intro l
              induction l with
              | nil => intro _; rfl
              | cons x r ih =>
                intro hc
                simp only [List.map_cons, List.contains_cons, Bool.or_eq_false_iff] at hc
                have hx : ckOf x ≠ .other := by intro e; rw [e] at hc; simp at hc
                simp only [List.map_cons, ih hc.2, ← ckOf_zv hx]
            have h1 := h0 z.cells.toList (by rw [hks]; exact hno)
            rw [hks] at h1
            rw [h1, Array.toArray_toList]
          have hpl : ∀ (l : List Field) (r : List (Nat × Bool × Nat)), fieldsOf C.P l = some r →
              (l.mapM (fun f => do pure (f.offset, ← sizeOf f.type)) : Sem (List (Nat × Nat))).run C.P wr = .ok (r.map fun f => (f.1, f.2.2)) wr := by
            intro l
            induction l with
            | nil => intro r hr; simp only [fieldsOf, Option.some.injEq] at hr; subst hr; simp
            | cons f l ih =>
              intro r hr
              simp only [fieldsOf] at hr
              split at hr
              · rename_i i d l' hi hd hl'
                split at hr
                · cases hr
                · simp only [Option.some.injEq] at hr; subst hr
                  have ih' := ih l' hl'
                  simp only [List.mapM_cons, Sem.run_bind, run_sizeOf' hi, Result.andThen_ok, Sem.run_pure, ih', List.map_cons]
              · cases hr
          have hparts : (parts.map fun (i, x) => (i, a.eval x)).toList = (parts.toList.map (·.1)).zip vs := by
            rw [← hv]
            generalize hq : parts.toList = q
            have : (parts.map fun (i, x) => (i, a.eval x)).toList = q.map fun (i, x) => (i, a.eval x) := by rw [← hq]; simp
            rw [this]
            clear hq this hvs hfill
            induction q with
            | nil => rfl
            | cons y q ih => simp [ih]
          have hfill' : Instr.fill (fun i => ((fs.map fun f => (f.1, f.2.2)).toArray)[i]?) z.cells ((parts.map fun (i, x) => (i, a.eval x)).toList) = some cells := by
            rw [hparts, hzc, ← hfill]
            congr 1
            funext i
            simp
          simp only [execOp, ho, Instr.build, Sem.run_bind, zeroValue, run_typeInfo' hinf, Result.andThen_ok, hz, Sem.run_pure, run_underlying hu, Array.mapM_eq_mapM_toList, Sem.run_map, hpl fl.toList fs hfl, hfill']
        · exact h.elim
      · exact h.elim
    · rename_i ag ks n z0 eb ht
      obtain ⟨d, hu, _, htd⟩ := (hT.facts ht).desc
      obtain ⟨inf, z, hinf, hz, hsz, hks⟩ := (hT.facts ht).info
      obtain ⟨e, inf2, de, rfl, hinf2, hez, _, _⟩ := tdOf_arr htd.symm
      split at h
      · rename_i vs hvs hno
        have hv := opas_eval hf hp hvs
        split at h
        · rename_i cells hfill
          refine QGives.of_run h rfl fun wr => ?_
          have hzc : z.cells = (ks.map zv).toArray := by
            have h0 : ∀ (l : List Value), (l.map ckOf).contains .other = false → (l.map ckOf).map zv = l := by
              intro l
              induction l with
              | nil => intro _; rfl
              | cons x r ih =>
                intro hc
                simp only [List.map_cons, List.contains_cons, Bool.or_eq_false_iff] at hc
                have hx : ckOf x ≠ .other := by intro e; rw [e] at hc; simp at hc
                simp only [List.map_cons, ih hc.2, ← ckOf_zv hx]
            have h1 := h0 z.cells.toList (by rw [hks]; exact hno)
            rw [hks] at h1
            rw [h1, Array.toArray_toList]
          have hparts : (parts.map fun (i, x) => (i, a.eval x)).toList = (parts.toList.map (·.1)).zip vs := by
            rw [← hv]
            generalize hq : parts.toList = q
            have : (parts.map fun (i, x) => (i, a.eval x)).toList = q.map fun (i, x) => (i, a.eval x) := by rw [← hq]; simp
            rw [this]
            clear hq this hvs hfill
            induction q with
            | nil => rfl
            | cons y q ih => simp [ih]
          have hfill' : Instr.fill (fun i => some (i * inf2.size, inf2.size)) z.cells ((parts.map fun (i, x) => (i, a.eval x)).toList) = some cells := by
            rw [hparts, hzc, ← hfill, hez]
          simp only [execOp, ho, Instr.build, Sem.run_bind, zeroValue, run_typeInfo' hinf, Result.andThen_ok, hz, Sem.run_pure, run_underlying hu, run_sizeOf' hinf2, hfill']
        · exact h.elim
      · exact h.elim
    · exact h.elim
  case h_19 t x ho =>
    split at h
    · rename_i ty ob n ht hx
      obtain ⟨ad, hb, hx'⟩ := opv_den hf hp hx
      obtain ⟨vs, hlen, h⟩ := exKs_out h
      split at h
      · rename_i v hv
        obtain ⟨h1, h2⟩ := h
        refine QGives.of_runs (v := v) h2 rfl h1 fun S' w' hl hfact wr hw => ?_
        have h3 := G _ hfact
        have := loadVar_of hT ht hv hlen (a := ad.add n) (h3.cells hw.ext hb)
        simp [execOp, ho, hx', Instr.loadAt, Instr.sureAddr, this]
      · exact h.elim
    · rename_i ty ob ht hx
      have hx' := opv_den hf hp hx
      simp only [EV.den] at hx'
      have hk : 0 < ty.ks.length := by
        cases hks : ty.ks with
        | nil => rw [hks] at h; exact h.elim
        | cons => simp
      have hke : ty.ks.isEmpty = false := by
        cases hks : ty.ks with
        | nil => rw [hks] at hk; cases hk
        | cons => rfl
      rw [hke] at h
      obtain ⟨vs, hlen, h⟩ := exKs_out h
      split at h
      · rename_i v hv
        obtain ⟨h1, h2⟩ := h
        refine QGives.of_runs (v := v) h2 rfl h1 fun S' w' hl hfact wr hw => ?_
        have h3 := G _ hfact
        obtain ⟨u, hu⟩ := exSome hv hlen hk h3
        obtain ⟨ad, hb, _, _⟩ := hu
        have := loadVar_of hT ht hv hlen (a := ad.add 0) (h3.cells hw.ext hb)
        rw [Addr.add_zero'] at this
        simp [execOp, ho, hx', hb, Instr.loadAt, Instr.sureAddr, this]
      · exact h.elim
    · rename_i ty id off ht hx
      obtain ⟨b, hb, hx'⟩ := opv_den hf hp hx
      split at h
      · rename_i t' cs hL
        split at h
        · rename_i v hv
          cases hl : Nat.beq ((cs.drop off).take ty.ks.length).length ty.ks.length with
          | false => rw [hl] at hv; cases hv
          | true =>
            rw [hl] at hv
            simp only [cond_true] at hv
            refine QGives.of_runs (v := v) h rfl hL fun S' w' hloc hfact wr hw => ?_
            have := loadVar_of hT ht hv (Nat.eq_of_beq_eq_true hl) (a := ⟨b, off, none⟩) (w := wr) (fun j y hy => by
              rw [Addr.add_lit, loc_cell hw hfact (hloc _ _ hb)]
              have := List.getElem?_take (l := cs.drop off) (i := ty.ks.length) (j := j)
              rw [hy] at this
              split at this
              · rw [List.getElem?_drop] at this; exact this.symm
              · cases this)
            simp [execOp, ho, hx', Instr.loadAt, Instr.sureAddr, this]
        · exact h.elim
      · exact h.elim
    · rename_i k td id i m ht hx
      obtain ⟨b, hb, h0, hx'⟩ := opv_den hf hp hx
      split at h
      · rename_i t' cs hL
        obtain ⟨v, h1, h2⟩ := exK_out h
        obtain ⟨_, h4⟩ := G _ h1
        refine QGives.of_runs (v := v) h2 rfl hL fun S' w' hloc hfact wr hw => ?_
        have := loadVar_of hT ht (vs := [v]) (v := v) rfl rfl (a := ⟨b, i.toNat + m, none⟩) (w := wr) (fun j y hy => by
          cases j with
          | zero => simp at hy; subst hy; rw [Addr.add_zero', loc_cell hw hfact (hloc _ _ hb)]; exact h4
          | succ j => simp at hy)
        simp [execOp, ho, hx', Instr.loadAt, Instr.sureAddr, this]
      · exact h.elim
    · exact h.elim
  case h_20 b args ts ho =>
    split at h
    · rename_i x t hargs hts
      have ea : args = #[x] := by rw [← Array.toArray_toList (xs := args), hargs]
      have et : ts = #[t] := by rw [← Array.toArray_toList (xs := ts), hts]
      subst ea; subst et
      split at h
      · rename_i ag ks e z o n c ht hx
        have hx' := opa_eval hf hp hx
        obtain ⟨d, hu, _, htd⟩ := (hT.facts ht).desc
        obtain ⟨inf, rfl, hinf, _⟩ := tdOf_slice htd.symm
        exact QGives.of_run h rfl fun wr => by simp [execOp, ho, resolve, invoke, builtin, Builtin.len_, run_underlying hu, hx', goInt]
      · rename_i ag ks sv ht hx
        have hx' := opa_eval hf hp hx
        obtain ⟨d, hu, _, htd⟩ := (hT.facts ht).desc
        have := tdOf_str htd.symm
        subst this
        exact QGives.of_run h rfl fun wr => by simp [execOp, ho, resolve, invoke, builtin, Builtin.len_, run_underlying hu, hx', goInt]
      · exact h.elim
    · rename_i x y hargs
      have ea : args = #[x, y] := by rw [← Array.toArray_toList (xs := args), hargs]
      subst ea
      split at h
      · rename_i k u k' v hx hy
        have hx' := opa_eval hf hp hx
        have hy' := opa_eval hf hp hy
        exact QGives.of_run h rfl fun wr => by simp [execOp, ho, resolve, invoke, builtin, Builtin.min_, Builtin.min2, hx', hy']
      · exact h.elim
    · rename_i x y hargs
      have ea : args = #[x, y] := by rw [← Array.toArray_toList (xs := args), hargs]
      subst ea
      split at h
      · rename_i k u k' v hx hy
        have hx' := opa_eval hf hp hx
        have hy' := opa_eval hf hp hy
        exact QGives.of_run h rfl fun wr => by simp [execOp, ho, resolve, invoke, builtin, Builtin.max_, Builtin.max2, hx', hy']
      · exact h.elim
    · exact h.elim
  case h_21 f args ts ho =>
    split at h
    · rename_i rks vs hpf hvs
      have hv := opas_eval hf hp hvs
      obtain ⟨r, h1, h2⟩ := exRes_out h
      refine ⟨.v r, _, r, h2, rfl, h1, fun S' w' a' he hloc hfact wr hw => ?_⟩
      unfold Oper.quietAt
      rw [he, run_call (hcall f rks hpf) args ts a ho]
      refine ⟨rfl, ?_⟩
      have ea : args.map a.eval = vs.toArray := by rw [← hv, ← Array.toList_map, Array.toArray_toList]
      rw [ea]
      have hpure : PureX S'.bs C.P f vs.toArray wr r := by
        unfold callFact at hfact
        split at hfact
        · exact (G _ hfact).ext hw.ext
        · exact (HasBlks.out hw (G _ hfact wr hw.ext))
      exact (hpure wr (ExtX.refl _ _)).mono fun e w'' ⟨h1, h2⟩ => ⟨h1, hw.step h2⟩
    · exact h.elim
  case h_22 => exact h.elim
end Go.Proofs.YthojnihahmlboaaGreat
