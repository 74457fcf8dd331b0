/- The engine, part 9: 'evE' is sound; a region in text order. -/
import Derived.Test.YthojnihahmlboaaGreatEng8
namespace Go.Proofs.YthojnihahmlboaaGreat
open Go.RowKit
set_option linter.unusedVariables false

theorem storeVar_run {P : Program} {T : TypeId → Option Ty} (hT : TOk P T) {t : TypeId} {ty : Ty} (ht : T t = some ty) {a : Addr} {v : Value} (hl : v.cells.toList.length = ty.ks.length) {w w' : World}
    (h : (storeCells a v.cells.toList).run P w = .ok () w') : (storeVar t a v).run P w = .ok () w' := by
  obtain ⟨i, z, hi, _, hsz, _⟩ := (hT.facts ht).info
  have hn : ¬ v.cells.size ≠ ty.ks.length := by simpa using hl
  simp only [storeVar, Sem.run_bind, run_sizeOf' hi, Result.andThen_ok, hsz, Sem.run_ite, if_neg hn, Sem.run_pure, h]

theorem parts_zip (parts : Array (Nat × Operand)) (f : Operand → Value) : (parts.map fun (i, x) => (i, f x)).toList = (parts.toList.map (·.1)).zip ((parts.toList.map (·.2)).map f) := by
  have : (parts.map fun (i, x) => (i, f x)).toList = parts.toList.map fun (i, x) => (i, f x) := by simp
  rw [this]
  generalize parts.toList = q
  induction q with
  | nil => rfl
  | cons y q ih => simp [ih]

theorem mk_sound {C : Cfg} {S : St} {w : World} {o : Oper} {a : Act} {K : St → World → Prop} {N : Act → World → Prop} (hN : Goes C S w o a K N) {wr : World} (hw : WRel S w wr)
    (hwf : WfS S) {t : TypeId} {cells : List Value} {e1 e2 : Nat → EV} {v : Value}
    (h : match o.dst with
      | some d => bif memB C.vis d then newVis C S w o.dst t cells e1 K else newBlk C S w o.dst t cells e2 K
      | none => False)
    (h1 : EV.den S.aged (e1 wr.heap.size) v) (h2 : EV.den { S with L := S.L ++ [(t, cells)], B := S.B ++ [wr.heap.size] } (e2 S.L.length) v) : N (a.put o.dst v) (wr.alloc (.cells cells.toArray t)) := by
  split at h
  · rename_i d hd
    cases hm : memB C.vis d with
    | true =>
      rw [hm] at h
      simp only [cond_true] at h
      exact newVis_sound hN hw hwf h h1
    | false =>
      rw [hm] at h
      simp only [cond_false] at h
      exact newBlk_sound hN hw hwf h h2
  · exact h.elim
theorem newB {S : St} {w wr : World} (hw : WRel S w wr) (b : Nat) : (S.B ++ [b])[S.L.length]? = some b := by rw [hw.len]; simp

theorem store_sound {Q : Exit → Act → World → Prop} {C : Cfg} {S : St} {w wr : World} {a : Act} {K : St → World → Prop} {N : Act → World → Prop} {o : Oper} (hdn : o.dst = none) (hN : Goes C S w o a K N) (hw : WRel S w wr) (hwf : WfS S)
    (hT : TOk C.P C.T) {t : TypeId} {x y : Operand} (ho : o.op = .store t x y) {ty : Ty} (ht : C.T t = some ty) {e : EV} (hx : EV.den S e (a.eval x)) {v : Value} (hy : a.eval y = v)
    (h : match e with
      | .loc id off => match S.L[id]? with
        | some (t', cs) => bif Nat.beq v.cells.toList.length ty.ks.length && Nat.ble (off + v.cells.toList.length) cs.length && oneCells v.cells.toList && !memB S.lk id then
            K { S with L := S.L.set id (t', cs.take off ++ v.cells.toList ++ cs.drop (off + v.cells.toList.length)) } w
          else False
        | none => False
      | .le id i m => match S.L[id]? with
        | some (t', cs) => bif Nat.beq v.cells.toList.length ty.ks.length && Nat.beq v.cells.toList.length 1 && oneCells [v] && !memB S.lk id then
            (i.toNat + m < cs.length) ∧ exKs (cs.map ckV) fun vs => cs.set (i.toNat + m) v = vs ∧ K { S with L := S.L.set id (t', vs) } w
          else False
        | none => False
      | .el ob n => bif Nat.beq v.cells.toList.length ty.ks.length && oneCells v.cells.toList && !C.pm && Nat.blt 0 ty.ks.length then
          WrX S.bs w ob n v.cells.toList.length ∧ K S (sto w ob n v.cells.toList)
        else False
      | .v (.pointer ob) => bif Nat.beq v.cells.toList.length ty.ks.length && oneCells v.cells.toList && !C.pm && Nat.blt 0 ty.ks.length then
          WrX S.bs w ob 0 v.cells.toList.length ∧ K S (sto w ob 0 v.cells.toList)
        else False
      | _ => False) : o.upon C.P a N Q ((execOp a.eval o).run C.P wr) := by
  have hgo : ∀ (S1 : St) (w' wr' : World), FrS S S1 → S1.F = S.F → S1.r = S.r → WfS S1 → WRel S1 w' wr' → (C.pm = true → w' = w ∧ S1.old = S.old) → K S1 w' → N (a.put o.dst undef) wr' := fun S1 w' wr' h1 h2 h3 h4 h5 h7 h6 =>
    hN.go S1 w' wr' (.v undef) undef h1 h2 h3 h4 h5 h7 rfl (fun x hx => by rw [hdn] at hx; cases hx) (by rw [hdn]; exact h6)
  have hrun : ∀ {ad : Addr} {w' : World}, a.eval x = .pointer (some ad) → v.cells.toList.length = ty.ks.length → (storeCells ad v.cells.toList).run C.P wr = .ok () w' → (execOp a.eval o).run C.P wr = .ok .skip w' := fun {ad w'} h1 h2 h3 => by
    have := storeVar_run hT ht h2 h3
    simp [execOp, ho, h1, hy, Instr.storeAt, Instr.sureAddr, this]
  have hset : ∀ {id : Nat} {t' : TypeId} {cs r : List Value}, S.L[id]? = some (t', cs) → memB S.lk id = false → FrS S { S with L := S.L.set id (t', r) } := fun {id t' cs r} hl hm =>
    ⟨fun _ _ h => h, fun id' t2 cs2 h2 => by
      show ∃ cs', (S.L.set id (t', r))[id']? = some (t2, cs')
      by_cases he : id = id'
      · subst he
        rw [hl] at h2
        cases h2
        exact ⟨r, List.getElem?_set_self (List.getElem?_eq_some_iff.1 hl).1⟩
      · exact ⟨cs2, by rw [List.getElem?_set_ne he]; exact h2⟩, fun id' hi => ⟨hi, by
      show (S.L.set id (t', r))[id']? = _
      exact List.getElem?_set_ne (by rintro rfl; exact memB_spec hm hi)⟩⟩
  cases e with
  | loc id off =>
    obtain ⟨b, hb, hxp⟩ := hx
    dsimp only at h
    split at h
    · rename_i t' cs hl
      cases hc : (Nat.beq v.cells.toList.length ty.ks.length && Nat.ble (off + v.cells.toList.length) cs.length && oneCells v.cells.toList && !memB S.lk id) with
      | false => rw [hc] at h; exact h.elim
      | true =>
        rw [hc] at h
        simp only [cond_true] at h
        simp only [Bool.and_eq_true, Bool.not_eq_true'] at hc
        obtain ⟨⟨⟨c1, c2⟩, c3⟩, c4⟩ := hc
        have c1 := Nat.eq_of_beq_eq_true c1
        have c2 := Nat.le_of_ble_eq_true c2
        have hrc := run_storeCells' (P := C.P) v.cells.toList wr ⟨b, off, none⟩ 0 (oneCells_spec c3) (fun j _ hj => by
          rw [Addr.add_lit, loc_cell hw hl hb]
          obtain ⟨b', hb', hh⟩ := hw.loc id t' cs hl
          rw [hb] at hb'; cases hb'
          have hlt : off + j < cs.length := by omega
          refine ⟨⟨cs[off + j], List.getElem?_eq_getElem hlt⟩, ?_⟩
          simp [World.frozen?, hh])
        rw [hrun hxp c1 hrc]
        exact hgo _ _ _ (hset hl c4) rfl rfl ⟨hwf.old, fun id hi => by simpa using hwf.lk id hi⟩ (hw.storeLoc hl hb c2 hwf.old) (fun _ => ⟨rfl, rfl⟩) h
    · exact h.elim
  | le id i m =>
    obtain ⟨b, hb, h0, hxp⟩ := hx
    dsimp only at h
    split at h
    · rename_i t' cs hl
      cases hc : (Nat.beq v.cells.toList.length ty.ks.length && Nat.beq v.cells.toList.length 1 && oneCells [v] && !memB S.lk id) with
      | false => rw [hc] at h; exact h.elim
      | true =>
        rw [hc] at h
        simp only [cond_true] at h
        simp only [Bool.and_eq_true, Bool.not_eq_true'] at hc
        obtain ⟨⟨⟨c1, c2⟩, c3⟩, c4⟩ := hc
        have c1 := Nat.eq_of_beq_eq_true c1
        have c2 := Nat.eq_of_beq_eq_true c2
        obtain ⟨hlt, h⟩ := h
        obtain ⟨_, _, rfl, h⟩ := exKs_out h
        have hvc : v.cells.toList = [v] := by
          cases v with
          | agg cs => cases c3
          | _ => rfl
        rw [← hvc] at c3
        have hrc := run_storeCells' (P := C.P) v.cells.toList wr ⟨b, i.toNat + m, none⟩ 0 (oneCells_spec c3) (fun j _ hj => by
          rw [Addr.add_lit, loc_cell hw hl hb]
          obtain ⟨b', hb', hh⟩ := hw.loc id t' cs hl
          rw [hb] at hb'; cases hb'
          have hlt : i.toNat + m + j < cs.length := by omega
          refine ⟨⟨cs[i.toNat + m + j], List.getElem?_eq_getElem hlt⟩, ?_⟩
          simp [World.frozen?, hh])
        rw [hrun hxp c1 hrc]
        have hst := hw.storeLoc (vs := v.cells.toList) hl hb (off := i.toNat + m) (by omega) hwf.old
        have he : cs.take (i.toNat + m) ++ v.cells.toList ++ cs.drop (i.toNat + m + v.cells.toList.length) = cs.set (i.toNat + m) v := by
          rw [← setL_eq _ _ _ (by omega), hvc]; rfl
        rw [he] at hst
        exact hgo _ _ _ (hset hl c4) rfl rfl ⟨hwf.old, fun id hi => by simpa using hwf.lk id hi⟩ hst (fun _ => ⟨rfl, rfl⟩) h
    · exact h.elim
  | el ob n =>
    obtain ⟨ad, hob, hxp⟩ := hx
    dsimp only at h
    cases hc : (Nat.beq v.cells.toList.length ty.ks.length && oneCells v.cells.toList && !C.pm && Nat.blt 0 ty.ks.length) with
    | false => rw [hc] at h; exact h.elim
    | true =>
      rw [hc] at h
      simp only [cond_true] at h
      simp only [Bool.and_eq_true, Bool.not_eq_true'] at hc
      obtain ⟨⟨⟨c1, c2⟩, c3⟩, c4⟩ := hc
      have c1 := Nat.eq_of_beq_eq_true c1
      have c4 : 0 < ty.ks.length := Nat.le_of_ble_eq_true c4
      obtain ⟨h1, h2⟩ := h
      obtain ⟨hr, hbs, hlt⟩ := h1.run (P := C.P) hw (by omega) c2 hob
      rw [hrun hxp c1 hr, stoL_shift, Nat.add_zero]
      subst hob
      exact hgo S _ _ (FrS.refl S) rfl rfl hwf (hw.storeOut hbs hlt) (fun hp => by rw [hp] at c3; cases c3) h2
  | v x0 =>
    cases x0 with
    | pointer ob =>
        simp only [EV.den] at hx
        dsimp only at h
        cases hc : (Nat.beq v.cells.toList.length ty.ks.length && oneCells v.cells.toList && !C.pm && Nat.blt 0 ty.ks.length) with
        | false => rw [hc] at h; exact h.elim
        | true =>
          rw [hc] at h
          simp only [cond_true] at h
          simp only [Bool.and_eq_true, Bool.not_eq_true'] at hc
          obtain ⟨⟨⟨c1, c2⟩, c3⟩, c4⟩ := hc
          have c1 := Nat.eq_of_beq_eq_true c1
          have c4 : 0 < ty.ks.length := Nat.le_of_ble_eq_true c4
          obtain ⟨h1, h2⟩ := h
          obtain ⟨ad, hob, _⟩ := id h1
          obtain ⟨hr, hbs, hlt⟩ := h1.run (P := C.P) hw (by omega) c2 hob
          rw [Addr.add_zero'] at hr
          rw [hrun (by rw [hx, hob]) c1 hr]
          subst hob
          exact hgo S _ _ (FrS.refl S) rfl rfl hwf (hw.storeOut hbs hlt) (fun hp => by rw [hp] at c3; cases c3) h2

    | _ => exact h.elim
  | ls id len => exact h.elim
  | no => exact h.elim
  | kb x => exact h.elim

theorem evE_sound {C : Cfg} (hT : TOk C.P C.T) (hcall : ∀ f ks, asc C.ef f = some ks → Callable C.P f) {S : St} {w wr : World} {ops : Array Oper} {D : Nat → Prop} {o : Oper} {a : Act} {pc : List (Nat × Bool)} {K : St → World → Prop} {N : Act → World → Prop} {Q : Exit → Act → World → Prop}
    (hf : FitD C.n S ops D a) (hw : WRel S w wr) (hwf : WfS S) (hp : pcH ops a pc) (hN : Goes C S w o a K N) (h : evE C S w o pc K) (hnd : ∀ t x y, o.op = .store t x y → o.dst = none) : o.wp C.P a wr N Q := by
  unfold evE at h
  unfold Oper.wp
  split at h
  case h_1 t ho =>
    split at h
    · rename_i ty ht
      cases hc : ty.ks.contains .other with
      | true => rw [hc] at h; exact h.elim
      | false =>
        rw [hc] at h
        simp only [cond_false] at h
        obtain ⟨i, z, hi, hz, hzc⟩ := zeroCells_of hT ht hc
        have hrun : (execOp a.eval o).run C.P wr = .ok (.value (.pointer (some ⟨wr.heap.size, 0, none⟩))) (wr.alloc (.cells (ty.ks.map zv).toArray t)) := by
          simp [execOp, ho, Instr.alloc, zeroValue, run_typeInfo' hi, hz, run_newVar, hzc]
        rw [hrun]
        simp only [Oper.upon]
        exact mk_sound hN hw hwf h ⟨_, rfl, by rw [Addr.add_zero']⟩ ⟨wr.heap.size, newB hw _, rfl⟩
    · exact h.elim
  case h_2 t x ho =>
    split at h
    · rename_i v hv
      have hv' := opa_eval hf.fit hp hv
      have hrun : (execOp a.eval o).run C.P wr = .ok (.value (.pointer (some ⟨wr.heap.size, 0, none⟩))) (wr.alloc (.cells v.cells.toList.toArray t)) := by
        simp [execOp, ho, Instr.box, run_newVar, hv']
      rw [hrun]
      simp only [Oper.upon]
      exact mk_sound hN hw hwf h ⟨_, rfl, by rw [Addr.add_zero']⟩ ⟨wr.heap.size, newB hw _, rfl⟩
    · exact h.elim
  case h_3 t n parts ho =>
    split at h
    · rename_i ag ks e z vs ht hvs
      have hv' := opas_eval hf.fit hp hvs
      split at h
      · rename_i ety cells hte hcat
        cases hb : (Nat.beq n vs.length && Nat.blt 0 z && Nat.blt 0 n && Nat.blt (n * z) 16777216) with
        | false => rw [hb] at h; exact h.elim
        | true =>
          rw [hb] at h
          simp only [cond_true] at h
          simp only [Bool.and_eq_true] at hb
          obtain ⟨⟨⟨b1, b2⟩, b3⟩, b4⟩ := hb
          have b1 := Nat.eq_of_beq_eq_true b1
          have b2 : 0 < z := Nat.le_of_ble_eq_true b2
          have b3 : 0 < n := Nat.le_of_ble_eq_true b3
          have b4 : n * z < 16777216 := Nat.le_of_ble_eq_true b4
          obtain ⟨d, hu, _, htd⟩ := (hT.facts ht).desc
          obtain ⟨inf, rfl, hinf, hisz⟩ := tdOf_slice htd.symm
          obtain ⟨i2, z2, hi2, hz2, hsz2, _⟩ := (hT.facts hte).info
          rw [hinf] at hi2; cases hi2
          obtain ⟨_, hcl, hfill⟩ := catCells_spec b2 hcat
          have hf0 := hfill [] (by simp) (((Array.range (n * z)).map (z2.cells[· % z2.cells.size]!)).toList) (by simp [b1])
          simp only [List.nil_append, Array.toArray_toList] at hf0
          have hparts := parts_zip parts a.eval
          rw [hv'] at hparts
          have hn0 : ¬ n * z = 0 := by
            have := Nat.mul_pos b3 b2
            omega
          have hbig : ¬ n * z > 2 ^ 24 := by
            have : (2 : Nat) ^ 24 = 16777216 := rfl
            omega
          have hrun : (execOp a.eval o).run C.P wr = .ok (.value (.slice (some ⟨wr.heap.size, 0, none⟩) n n)) (wr.alloc (.cells cells.toArray e)) := by
            simp only [execOp, ho, Instr.buildSlice, Sem.run_bind, run_underlying hu, Result.andThen_ok, run_sizeOf' hinf, hisz, Sem.run_ite, if_neg hbig, if_neg hn0, zeroValue, run_typeInfo' hinf, hz2, Sem.run_pure, hparts, hf0, newRow, run_newObj]
            rfl
          rw [hrun]
          simp only [Oper.upon]
          exact mk_sound hN hw hwf h rfl ⟨wr.heap.size, newB hw _, rfl⟩
      · exact h.elim
    · exact h.elim
  case h_4 t x y ho =>
    have hdn := hnd t x y ho
    split at h
    · rename_i ty id off v ht hx hy
      exact store_sound hdn hN hw hwf hT ho ht (opv_den hf.fit hp hx) (opa_eval hf.fit hp hy) h
    · rename_i ty id i m v ht hx hy
      exact store_sound hdn hN hw hwf hT ho ht (opv_den hf.fit hp hx) (opa_eval hf.fit hp hy) h
    · rename_i ty ob n v ht hx hy
      exact store_sound hdn hN hw hwf hT ho ht (opv_den hf.fit hp hx) (opa_eval hf.fit hp hy) h
    · rename_i ty ob v ht hx hy
      exact store_sound hdn hN hw hwf hT ho ht (opv_den hf.fit hp hx) (opa_eval hf.fit hp hy) h
    · exact h.elim
  case h_5 f args ts ho =>
    split at h
    · rename_i rks vs hef hvs
      have hv := opas_eval hf.fit hp hvs
      have ea : args.map a.eval = vs.toArray := by rw [← hv, ← Array.toList_map, Array.toArray_toList]
      have hpm : C.pm = false := by
        cases hp : C.pm with
        | false => rfl
        | true => rw [hp] at h; exact h.elim
      rw [hpm] at h
      simp only [cond_false] at h
      rw [run_call (hcall f rks hef) args ts a ho, ea]
      simp only [Oper.upon]
      refine (HasBlks.out hw (h wr hw.ext hw.lt)).mono fun e w' he => ?_
      obtain ⟨r, rfl, hk, hp⟩ := exRes_out he
      obtain ⟨h1, h2⟩ := putS_out hp
      exact hN.go S.aged _ _ (.v r) r ⟨fun _ _ h => h, fun _ _ cs h => ⟨cs, h⟩, fun id hi => ⟨hi, rfl⟩⟩ rfl rfl hwf.aged (hw.age hk) (fun hp => by rw [hpm] at hp; cases hp) rfl h2 h1
    · exact h.elim
  case h_6 bi args ts ho =>
    split at h
    · rename_i vs hvs
      have hv := opas_eval hf.fit hp hvs
      have ea : args.map a.eval = vs.toArray := by rw [← hv, ← Array.toList_map, Array.toArray_toList]
      have hpm : C.pm = false := by
        cases hp : C.pm with
        | false => rfl
        | true => rw [hp] at h; exact h.elim
      rw [hpm] at h
      simp only [cond_false] at h
      obtain ⟨r, w', hrun, hk, hp⟩ := exRes_out (HasBlks.out hw (h wr hw.ext hw.lt))
      have hr2 : (execOp a.eval o).run C.P wr = .ok (.value r) w' := by
        rw [← hrun]
        simp only [execOp, ho, resolve, Sem.run_bind, Sem.run_pure, Result.andThen_ok, invoke, ea]
        rfl
      rw [hr2]
      obtain ⟨h1, h2⟩ := putS_out hp
      exact hN.go S.aged _ _ (.v r) r ⟨fun _ _ h => h, fun _ _ cs h => ⟨cs, h⟩, fun id hi => ⟨hi, rfl⟩⟩ rfl rfl hwf.aged (hw.age hk) (fun hp => by rw [hpm] at hp; cases hp) rfl h2 h1
    · exact h.elim
  case h_7 t args ts ho =>
    split at h
    · rename_i v vs rks hv0 hvs hrk
      have hv1 := opa_eval hf.fit hp hv0
      have hv := opas_eval hf.fit hp hvs
      have ea : args.map a.eval = vs.toArray := by rw [← hv, ← Array.toList_map, Array.toArray_toList]
      have hpm : C.pm = false := by
        cases hp : C.pm with
        | false => rfl
        | true => rw [hp] at h; exact h.elim
      rw [hpm] at h
      simp only [cond_false] at h
      obtain ⟨f, as, hrun, hc⟩ := HasBlks.out hw (h wr hw.ext hw.lt)
      have hr2 : (execOp a.eval o).run C.P wr = .ok (.enter f as) wr := by
        rw [← hrun]
        simp only [execOp, ho, resolve, callV, ea, hv1]
      rw [hr2]
      simp only [Oper.upon]
      refine hc.mono fun e w' he => ?_
      obtain ⟨r, rfl, hk, hp⟩ := exRes_out he
      obtain ⟨h1, h2⟩ := putS_out hp
      exact hN.go S.aged _ _ (.v r) r ⟨fun _ _ h => h, fun _ _ cs h => ⟨cs, h⟩, fun id hi => ⟨hi, rfl⟩⟩ rfl rfl hwf.aged (hw.age hk) (fun hp => by rw [hpm] at hp; cases hp) rfl h2 h1
    · exact h.elim
  case h_8 rc m args ts ho =>
    split at h
    · rename_i v vs rks hv0 hvs hrk
      have hv1 := opa_eval hf.fit hp hv0
      have hv := opas_eval hf.fit hp hvs
      have ea : args.map a.eval = vs.toArray := by rw [← hv, ← Array.toList_map, Array.toArray_toList]
      have hpm : C.pm = false := by
        cases hp : C.pm with
        | false => rfl
        | true => rw [hp] at h; exact h.elim
      rw [hpm] at h
      simp only [cond_false] at h
      obtain ⟨f, as, hrun, hc⟩ := HasBlks.out hw (h wr hw.ext hw.lt)
      have hr2 : (execOp a.eval o).run C.P wr = .ok (.enter f as) wr := by
        rw [← hrun]
        simp only [execOp, ho, resolve, Sem.run_bind, Sem.run_pure, Result.andThen_ok, callM, ea, hv1]
      rw [hr2]
      simp only [Oper.upon]
      refine hc.mono fun e w' he => ?_
      obtain ⟨r, rfl, hk, hp⟩ := exRes_out he
      obtain ⟨h1, h2⟩ := putS_out hp
      exact hN.go S.aged _ _ (.v r) r ⟨fun _ _ h => h, fun _ _ cs h => ⟨cs, h⟩, fun id hi => ⟨hi, rfl⟩⟩ rfl rfl hwf.aged (hw.age hk) (fun hp => by rw [hpm] at hp; cases hp) rfl h2 h1
    · exact h.elim
  case h_9 it ho =>
    split at h
    · rename_i ob hx
      have hx' := opa_eval hf.fit hp hx
      have hpm : C.pm = false := by
        cases hp : C.pm with
        | false => rfl
        | true => rw [hp] at h; exact h.elim
      rw [hpm] at h
      simp only [cond_false] at h
      obtain ⟨b, s, pos, rfl, hb, hh, h1, h2⟩ := h wr hw.ext hw.lt
      have hg : (getObj b).run C.P wr = .ok (.stringIter s pos) wr := by simp [getObj, Sem.run, hh]
      by_cases hlt : pos < s.size
      · have hset : (setObj b (.stringIter s (pos + (Utf8.decode s pos).2))).run C.P wr = .ok () (iterW wr b s (pos + (Utf8.decode s pos).2)) := by
          simp [setObj, Sem.run, hh, iterW]
        have hrun : (execOp a.eval o).run C.P wr = .ok (.value (.tuple #[.bool true, .int .i64 pos, .int .i32 (Utf8.decode s pos).1])) (iterW wr b s (pos + (Utf8.decode s pos).2)) := by
          simp [execOp, ho, hx', Instr.next, hg, hlt, hset, goInt]
        rw [hrun]
        simp only [Oper.upon]
        obtain ⟨g1, g2⟩ := putS_out (h2 hlt)
        have hk : Kept S.B wr (iterW wr b s (pos + (Utf8.decode s pos).2)) := fun x hx => by
          have hne : b ≠ x := fun e => hb (e ▸ hx)
          simp only [iterW]
          rw [Array.getElem?_setIfInBounds_ne hne]
        exact hN.go S.aged _ _ (.v _) _ ⟨fun _ _ h => h, fun _ _ cs h => ⟨cs, h⟩, fun id hi => ⟨hi, rfl⟩⟩ rfl rfl hwf.aged (hw.age hk) (fun hp => by rw [hpm] at hp; cases hp) rfl g2 g1
      · have hrun : (execOp a.eval o).run C.P wr = .ok (.value (.tuple #[.bool false])) wr := by
          simp [execOp, ho, hx', Instr.next, hg, hlt]
        rw [hrun]
        simp only [Oper.upon]
        obtain ⟨g1, g2⟩ := putS_out (h1 (Nat.le_of_not_lt hlt))
        exact hN.go S.aged _ _ (.v _) _ ⟨fun _ _ h => h, fun _ _ cs h => ⟨cs, h⟩, fun id hi => ⟨hi, rfl⟩⟩ rfl rfl hwf.aged (hw.age fun _ _ => rfl) (fun hp => by rw [hpm] at hp; cases hp) rfl g2 g1
    · exact h.elim
  case h_10 =>
    split at h
    · rename_i xs rk u f hpr
      split at h
      · rename_i vs hvs
        have hv := opas_eval hf.fit hp hvs
        have hpm : C.pm = false := by
          cases hp : C.pm with
          | false => rfl
          | true => rw [hp] at h; exact h.elim
        rw [hpm] at h
        simp only [cond_false] at h
        have h := h wr hw.ext hw.lt
        cases u with
        | true =>
          simp only [cond_true] at h
          split at h
          · rename_i hd
            obtain ⟨w', hr, hk, hK⟩ := h
            rw [← hv] at hr
            rw [primOf_run hpr a.eval hr]
            simp only [if_true, Oper.upon]
            exact hN.go S.aged _ _ (.v undef) undef ⟨fun _ _ h => h, fun _ _ cs h => ⟨cs, h⟩, fun id hi => ⟨hi, rfl⟩⟩ rfl rfl hwf.aged (hw.age hk) (fun hp => by rw [hpm] at hp; cases hp) rfl (fun x hx => by rw [hd] at hx; cases hx) (by rw [hd]; exact hK)
          · exact h.elim
        | false =>
          simp only [cond_false] at h
          obtain ⟨r, w', hr, hk, hp⟩ := exRes_out h
          rw [← hv] at hr
          rw [primOf_run hpr a.eval hr]
          simp only [Bool.false_eq_true, if_false, Oper.upon]
          obtain ⟨h1, h2⟩ := putS_out hp
          exact hN.go S.aged _ _ (.v r) r ⟨fun _ _ h => h, fun _ _ cs h => ⟨cs, h⟩, fun id hi => ⟨hi, rfl⟩⟩ rfl rfl hwf.aged (hw.age hk) (fun hp => by rw [hpm] at hp; cases hp) rfl h2 h1
      · exact h.elim
    · exact h.elim
end Go.Proofs.YthojnihahmlboaaGreat
