/- The engine, part 11: a region that draws its order. Quiet operations are taken as soon as they may run; an operation with an effect when nothing else may; what a quiet operation gave must still hold behind each effect that it is not ordered with. -/
import Derived.Test.YthojnihahmlboaaGreatEng10
namespace Go.Proofs.YthojnihahmlboaaGreat
open Go.RowKit
set_option linter.unusedVariables false

/-- What operation 'o' would be, run in 'a'. -/
def semOf (ops : Array Oper) (o : Oper) (a : Act) : Option (Sem Next) := if Region.wanted o (yielded ops a.tmps) then some (execOp a.eval o) else none
def YS (P : Program) (R : World → Prop) (s : Option (Sem Next)) (v : Value) : Prop :=
  match s with
  | some s => ∀ w, R w → Oper.quietUpon P R w v (s.run P w)
  | none => v = undef
def effU (P : Program) (o : Oper) (a : Act) (w : World) (N : Value → World → Prop) : Prop :=
  match (execOp a.eval o).run P w with
  | .ok (.value v) w' => N v w'
  | .ok .skip w' => N undef w'
  | .ok (.enter f args) w' => Calls P f args w' fun e w'' => ∃ v, e = .returned v ∧ N v w''
  | .ok (.row row args) w' => Rows P row args w' fun v w'' => N v w''
  | _ => False

def ancMask : List Oper → List Nat → List Nat
  | [], acc => acc
  | o :: r, acc => ancMask r (acc ++ [o.after.toList.foldl (fun s e => if Region.binds .any e then s ||| 2 ^ e.on ||| acc.getD e.on 0 else s) 0])
/-- May i and j come in either order? (i: the earlier one in the plan) -/
def unord (M : List Nat) (i j : Nat) : Bool := !(M.getD j 0).testBit i

/-- Every order, over a class of worlds; what was taken is remembered. -/
def wpAnyR (P : Program) (ops : Array Oper) (un : Nat → Nat → Bool) (Q : Act → (World → Prop) → Prop) : Nat → Array Bool → List (Nat × Option (Sem Next) × Value) → Act → (World → Prop) → Prop
  | 0, listed, _, a, R => Region.ready .any ops listed = [] ∧ Q a R
  | n + 1, listed, Pd, a, R => (Region.ready .any ops listed = [] → Q a R) ∧ ∀ i ∈ Region.ready .any ops listed, ∀ o, ops[i]? = some o →
      (∃ v, YS P R (semOf ops o a) v ∧ wpAnyR P ops un Q n (listed.setIfInBounds i true) ((i, semOf ops o a, v) :: Pd) (a.put o.dst v) R) ∨
      (Region.wanted o (yielded ops a.tmps) = true ∧ ∀ w, R w → effU P o a w fun v w' => ∃ R' : World → Prop, R' w' ∧ (∀ p ∈ Pd, un p.1 i = true → YS P R' p.2.1 p.2.2) ∧
        wpAnyR P ops un Q n (listed.setIfInBounds i true) Pd (a.put o.dst v) R')

section
variable {P : Program} {ops : Array Oper} {un : Nat → Nat → Bool} {Q : Act → (World → Prop) → Prop}

theorem effU_mono {o : Oper} {a : Act} {w : World} {N N' : Value → World → Prop} (h : ∀ v w, N v w → N' v w) (hh : effU P o a w N) : effU P o a w N' := by
  unfold effU at *
  generalize (execOp a.eval o).run P w = r at *
  cases r with
  | ok n w' =>
    cases n <;> dsimp only at hh ⊢
    case value v => exact h _ _ hh
    case skip => exact h _ _ hh
    case enter f args => exact hh.mono fun e w'' ⟨v, he, hn⟩ => ⟨v, he, h _ _ hn⟩
    case row row args => exact hh.mono fun v w'' hn => h _ _ hn
    all_goals exact hh
  | halt x w' => exact hh
theorem effU_wp {o : Oper} {a : Act} {w : World} {N : Value → World → Prop} {K : Act → World → Prop} {Q' : Exit → Act → World → Prop} (hh : effU P o a w N) (h : ∀ v w', N v w' → K (a.put o.dst v) w') : o.wp P a w K Q' := by
  unfold effU at hh
  unfold Oper.wp
  generalize (execOp a.eval o).run P w = r at *
  cases r with
  | ok n w' =>
    cases n <;> dsimp only at hh <;> simp only [Oper.upon]
    case value v => exact h _ _ hh
    case skip => exact h _ _ hh
    case enter f args => exact hh.mono fun e w'' ⟨v, he, hn⟩ => by subst he; exact h _ _ hn
    case row row args => exact hh.mono fun v w'' hn => h _ _ hn
  | halt x w' => exact hh.elim
theorem effU_of_wp {o : Oper} {a : Act} {w : World} {K : Act → World → Prop} (hh : o.wp P a w K fun _ _ _ => False) (hp : ∀ a' w', K a' w' → ∃ v, a' = a.put o.dst v) : effU P o a w fun v w' => K (a.put o.dst v) w' := by
  unfold Oper.wp at hh
  unfold effU
  generalize (execOp a.eval o).run P w = r at *
  cases r with
  | ok n w' =>
    cases n <;> simp only [Oper.upon] at hh ⊢
    case value v => exact hh
    case skip => exact hh
    case defer d =>
      obtain ⟨v, hv⟩ := hp _ _ hh
      have h1 : (({ a with defers := d :: a.defers } : Act).put o.dst undef).defers = (a.put o.dst v).defers := by rw [hv]
      have h2 : ∀ (b : Act) (x : Option Tmp) (u : Value), (b.put x u).defers = b.defers := fun b x u => by cases x <;> rfl
      rw [h2, h2] at h1
      have := congrArg List.length h1
      simp at this
    case enter f args =>
      exact hh.mono fun e w'' he => by
        cases e with
        | returned v => exact ⟨v, rfl, he⟩
        | panicked c => exact he.elim
        | outgrown => obtain ⟨_, _, he⟩ := he; exact he.elim
    case row row args => exact hh
  | halt x w' => cases x <;> simp only [Oper.upon] at hh

theorem wpAnyR_sub : ∀ {n : Nat} {listed : Array Bool} {Pd Pd' : List (Nat × Option (Sem Next) × Value)} {a : Act} {R : World → Prop}, (∀ p ∈ Pd', p ∈ Pd) → wpAnyR P ops un Q n listed Pd a R → wpAnyR P ops un Q n listed Pd' a R
  | 0, _, _, _, _, _, _, h => h
  | n + 1, listed, Pd, Pd', a, R, hs, h => ⟨h.1, fun i hi o ho => by
    rcases h.2 i hi o ho with ⟨v, h1, h2⟩ | ⟨h1, h2⟩
    · refine .inl ⟨v, h1, wpAnyR_sub (fun p hp => ?_) h2⟩
      rcases List.mem_cons.1 hp with rfl | hp
      · exact List.mem_cons_self ..
      · exact List.mem_cons_of_mem _ (hs p hp)
    · exact .inr ⟨h1, fun w hw => effU_mono (fun v w' ⟨R', h3, h4, h5⟩ => ⟨R', h3, fun p hp => h4 p (hs p hp), wpAnyR_sub hs h5⟩) (h2 w hw)⟩⟩

theorem wpAny_of_R {Q' : Exit → Act → World → Prop} (hQ : ∀ a R w, Q a R → R w → Q' .normal a w) : ∀ (n : Nat) (listed : Array Bool) (Pd : List (Nat × Option (Sem Next) × Value)) (a : Act) (R : World → Prop) (w : World), R w → wpAnyR P ops un Q n listed Pd a R → wpAny P .any ops Q' n listed a w
  | 0, _, _, _, _, _, hw, h => ⟨h.1, hQ _ _ _ h.2 hw⟩
  | n + 1, listed, Pd, a, R, w, hw, h => ⟨fun h0 => hQ _ _ _ (h.1 h0) hw, fun i hi => by
    obtain ⟨_, o, ho, _⟩ := mem_ready.1 hi
    unfold wpOp
    simp only [ho]
    rcases h.2 i hi o ho with ⟨v, h1, h2⟩ | ⟨h1, h2⟩
    · unfold semOf at h1
      by_cases hwt : Region.wanted o (yielded ops a.tmps) = true
      · rw [if_pos hwt] at h1 ⊢
        refine .inl ?_
        exact Oper.wp_of_quiet (C := R) (K := fun a' => a' = a.put o.dst v) hw (fun a' w' hw' ha' => by subst ha'; exact wpAny_of_R hQ n _ _ _ R w' hw' h2) ⟨v, fun w' hw' => h1 w' hw', rfl⟩
      · rw [if_neg hwt] at h1 ⊢
        rw [show v = undef from h1] at h2
        exact wpAny_of_R hQ n _ _ _ R w hw h2
    · rw [if_pos h1]
      exact .inl (effU_wp (h2 w hw) fun v w' ⟨R', h3, _, h5⟩ => wpAny_of_R hQ n _ _ _ R' w' h3 h5)⟩

theorem semOf_put {oi oj : Oper} {a : Act} {v : Value} (hap : oi.apart ops oj = true) (hsj : ∀ cs b, oj.op ≠ .select cs b) : semOf ops oj (a.put oi.dst v) = semOf ops oj a := by
  obtain ⟨h1, _, _⟩ := Oper.apart_spec hap
  unfold semOf
  rw [wanted_put oj a oi.dst v h1, execOp_put oj hsj a oi.dst v h1]
theorem effU_put {oi oj : Oper} {a : Act} {v : Value} {w : World} {N : Value → World → Prop} (hap : oi.apart ops oj = true) (hsj : ∀ cs b, oj.op ≠ .select cs b) (h : effU P oj (a.put oi.dst v) w N) : effU P oj a w N := by
  obtain ⟨h1, _, _⟩ := Oper.apart_spec hap
  unfold effU at *
  rw [execOp_put oj hsj a oi.dst v h1] at h
  exact h
theorem apart_symm {x y : Oper} (h : x.apart ops y = true) : ∀ d, y.dst = some d → d ∉ x.looksAt ops := (Oper.apart_spec h).2.2

/-- What has been carried out is closed under what it waits for. -/
def Closed (ops : Array Oper) (listed : Array Bool) : Prop := ∀ j o, ops[j]? = some o → listed.getD j true = true → ∀ e ∈ o.after, Region.binds .any e = true → listed.getD e.on false = true

theorem take_first (hsel : ∀ (j : Nat) (o : Oper) cs b, ops[j]? = some o → o.op ≠ .select cs b) (hun : ∀ listed i j, Closed ops listed → i ∈ Region.ready .any ops listed → j ∈ Region.ready .any ops listed → i ≠ j → un i j = true) {i : Nat} {oi : Oper} {v : Value} (hi : ops[i]? = some oi) :
    ∀ (n : Nat) (listed : Array Bool) (Pd : List (Nat × Option (Sem Next) × Value)) (a : Act) (R : World → Prop), Closed ops listed →
      (∀ j oj, ops[j]? = some oj → j ≠ i → listed.getD j true = false → (∀ e ∈ oj.after, Region.binds .any e = true → e.on ≠ i) → oi.apart ops oj = true) →
      i ∈ Region.ready .any ops listed → YS P R (semOf ops oi a) v →
      wpAnyR P ops un Q n (listed.setIfInBounds i true) ((i, semOf ops oi a, v) :: Pd) (a.put oi.dst v) R → wpAnyR P ops un Q (n + 1) listed Pd a R := by
  intro n
  induction n with
  | zero =>
    intro listed Pd a R hcl hfree hr hy H
    refine ⟨fun h => (by rw [h] at hr; cases hr), fun j hj oj hoj => ?_⟩
    by_cases hji : j = i
    · subst hji; rw [hi] at hoj; cases hoj; exact .inl ⟨v, hy, H⟩
    · have := ready_mono hj hji
      rw [H.1] at this
      cases this
  | succ n ih =>
    intro listed Pd a R hcl hfree hr hy H
    refine ⟨fun h => (by rw [h] at hr; cases hr), fun j hj oj hoj => ?_⟩
    by_cases hji : j = i
    · subst hji; rw [hi] at hoj; cases hoj; exact .inl ⟨v, hy, H⟩
    · obtain ⟨hjun, oj', hoj', hall⟩ := mem_ready.1 hj
      rw [hoj] at hoj'; cases hoj'
      have hnot : ∀ e ∈ oj.after, Region.binds .any e = true → e.on ≠ i := fun e he hb heq => by
        have h1 := hall e he hb
        have h0 := (mem_ready.1 hr).1
        rw [heq] at h1
        rcases Nat.lt_or_ge i listed.size with h' | h'
        · simp [h'] at h0 h1; rw [h0] at h1; cases h1
        · simp [Array.getElem?_eq_none h'] at h1
      have hap := hfree j oj hoj hji hjun hnot
      have hsj := fun cs b => hsel j oj cs b hoj
      have hsi := fun cs b => hsel i oi cs b hi
      have hcl' : Closed ops (listed.setIfInBounds j true) := fun k ok hk hkl e he hb => by
        by_cases hjk : j = k
        · subst hjk; rw [hoj] at hk; cases hk
          exact getD_set_true (hall e he hb)
        · rw [getD_set_ne true hjk] at hkl
          exact getD_set_true (hcl k ok hk hkl e he hb)
      have hfree' : ∀ k ok, ops[k]? = some ok → k ≠ i → (listed.setIfInBounds j true).getD k true = false →
          (∀ e ∈ ok.after, Region.binds .any e = true → e.on ≠ i) → oi.apart ops ok = true := fun k ok hk hki hun hno => by
        refine hfree k ok hk hki ?_ hno
        by_cases hjk : j = k
        · subst hjk; exact hjun
        · rw [getD_set_ne true hjk] at hun; exact hun
      have hr' := ready_mono hr (Ne.symm hji)
      have hsi' : ∀ u, semOf ops oi (a.put oj.dst u) = semOf ops oi a := fun u => by
        unfold semOf
        rw [wanted_put oi a oj.dst u (apart_symm hap), execOp_put oi hsi a oj.dst u (apart_symm hap)]
      have hcomm : ∀ u, (a.put oi.dst v).put oj.dst u = (a.put oj.dst u).put oi.dst v := fun u => Act.put_comm a v u (Oper.apart_spec hap).2.1
      rcases H.2 j (ready_mono hj hji) oj hoj with ⟨u, h1, h2⟩ | ⟨h1, h2⟩
      · rw [semOf_put hap hsj] at h1 h2
        refine .inl ⟨u, h1, ih _ _ _ R hcl' hfree' hr' (by rw [hsi' u]; exact hy) ?_⟩
        rw [hsi' u, ← hcomm u, Array.setIfInBounds_comm _ _ hji]
        exact wpAnyR_sub (fun p hp => by
          simp only [List.mem_cons] at hp ⊢
          rcases hp with h | h | h
          · exact .inr (.inl h)
          · exact .inl h
          · exact .inr (.inr h)) h2
      · refine .inr ⟨?_, fun w hw => effU_put hap hsj (effU_mono (fun u w' ⟨R', h3, h4, h5⟩ => ⟨R', h3, fun p hp => h4 p (List.mem_cons_of_mem _ hp), ?_⟩) (h2 w hw))⟩
        · rw [wanted_put oj a oi.dst v (Oper.apart_spec hap).1] at h1; exact h1
        · have hyi : YS P R' (semOf ops oi a) v := h4 _ (List.mem_cons_self ..) (hun listed i j hcl hr hj (Ne.symm hji))
          refine ih _ _ _ R' hcl' hfree' hr' (by rw [hsi' u]; exact hyi) ?_
          rw [hsi' u, ← hcomm u, Array.setIfInBounds_comm _ _ hji]
          exact h5
end

/-! ### Ancestors -/
theorem foldl_mask {acc : List Nat} {i : Nat} : ∀ (l : List Edge) (s : Nat), (l.foldl (fun s e => if Region.binds .any e then s ||| 2 ^ e.on ||| acc.getD e.on 0 else s) s).testBit i = true →
    s.testBit i = true ∨ ∃ e ∈ l, Region.binds .any e = true ∧ (e.on = i ∨ (acc.getD e.on 0).testBit i = true)
  | [], s, h => .inl h
  | e :: l, s, h => by
    rcases foldl_mask l _ h with h1 | ⟨e', he', hb, h2⟩
    · by_cases hb : Region.binds .any e = true
      · simp only [if_pos hb] at h1
        simp only [Nat.testBit_or, Bool.or_eq_true] at h1
        rcases h1 with (h1 | h1) | h1
        · exact .inl h1
        · refine .inr ⟨e, List.mem_cons_self .., hb, .inl ?_⟩
          rw [Nat.testBit_two_pow] at h1
          simpa using h1
        · exact .inr ⟨e, List.mem_cons_self .., hb, .inr h1⟩
      · simp only [if_neg hb] at h1
        exact .inl h1
    · exact .inr ⟨e', List.mem_cons_of_mem _ he', hb, h2⟩

theorem ancMask_spec : ∀ (l : List Oper) (acc : List Nat) (pre : List Oper), acc.length = pre.length →
    (∀ (j : Nat) (o : Oper), pre[j]? = some o → ∀ i, (acc.getD j 0).testBit i = true → ∃ e ∈ o.after.toList, Region.binds .any e = true ∧ (e.on = i ∨ (e.on < j ∧ (acc.getD e.on 0).testBit i = true))) →
    ∀ (j : Nat) (o : Oper), (pre ++ l)[j]? = some o → ∀ i, ((ancMask l acc).getD j 0).testBit i = true → ∃ e ∈ o.after.toList, Region.binds .any e = true ∧ (e.on = i ∨ (e.on < j ∧ ((ancMask l acc).getD e.on 0).testBit i = true))
  | [], acc, pre, hl, h, j, o, ho, i, hb => by
    simp only [List.append_nil] at ho
    exact h j o ho i hb
  | o' :: l, acc, pre, hl, h, j, o, ho, i, hb => by
    have happ : pre ++ o' :: l = (pre ++ [o']) ++ l := by simp
    rw [happ] at ho
    simp only [ancMask] at hb ⊢
    refine ancMask_spec l _ (pre ++ [o']) (by simp [hl]) (fun j o ho i hb => ?_) j o ho i hb
    by_cases hj : j < pre.length
    · rw [List.getElem?_append_left hj] at ho
      rw [List.getD_eq_getElem?_getD, List.getElem?_append_left (by omega), ← List.getD_eq_getElem?_getD] at hb
      obtain ⟨e, he, hbd, h2⟩ := h j o ho i hb
      refine ⟨e, he, hbd, ?_⟩
      rcases h2 with h2 | ⟨h2, h3⟩
      · exact .inl h2
      · refine .inr ⟨h2, ?_⟩
        rw [List.getD_eq_getElem?_getD, List.getElem?_append_left (by omega), ← List.getD_eq_getElem?_getD]
        exact h3
    · have hj' : j = pre.length := by
        have : j < (pre ++ [o']).length := (List.getElem?_eq_some_iff.1 ho).1
        simp at this; omega
      subst hj'
      simp only [List.getElem?_concat_length, Option.some.injEq] at ho
      subst ho
      rw [← hl] at hb
      rw [List.getD_eq_getElem?_getD, List.getElem?_concat_length] at hb
      simp only [Option.getD_some] at hb
      rcases foldl_mask _ _ hb with h1 | ⟨e, he, hbd, h2⟩
      · simp at h1
      · refine ⟨e, he, hbd, ?_⟩
        rcases h2 with h2 | h2
        · exact .inl h2
        · have hlt : e.on < acc.length := by
            rcases Nat.lt_or_ge e.on acc.length with h' | h'
            · exact h'
            · rw [List.getD_eq_getElem?_getD, List.getElem?_eq_none h'] at h2; simp at h2
          refine .inr ⟨by omega, ?_⟩
          rw [List.getD_eq_getElem?_getD, List.getElem?_append_left hlt, ← List.getD_eq_getElem?_getD]
          exact h2

theorem unord_ready {ops : Array Oper} (listed : Array Bool) (i j : Nat) (hcl : Closed ops listed) (hi : i ∈ Region.ready .any ops listed) (hj : j ∈ Region.ready .any ops listed) (_ : i ≠ j) : unord (ancMask ops.toList []) i j = true := by
  unfold unord
  rw [Bool.not_eq_true']
  rw [Bool.eq_false_iff]
  intro hb
  have hspec := ancMask_spec ops.toList [] [] rfl (fun j o ho => by simp at ho)
  simp only [List.nil_append] at hspec
  have hin := (mem_ready.1 hi).1
  have no : listed.getD i false ≠ true := fun h => by
    rcases Nat.lt_or_ge i listed.size with h' | h'
    · simp [h'] at h hin; rw [h] at hin; cases hin
    · simp [Array.getElem?_eq_none h'] at h
  -- whatever i is an ancestor of and waits for things that are listed: i is listed
  have key : ∀ k : Nat, ∀ o, ops[k]? = some o → (∀ e ∈ o.after, Region.binds .any e = true → listed.getD e.on false = true) → ((ancMask ops.toList []).getD k 0).testBit i = true → False := by
    intro k
    induction k using Nat.strongRecOn with
    | _ k ih =>
      intro o ho hall hb
      obtain ⟨e, he, hbd, h2⟩ := hspec k o (by simpa using ho) i hb
      have he' : e ∈ o.after := by rw [← Array.mem_toList_iff]; exact he
      have hl := hall e he' hbd
      rcases h2 with h2 | ⟨h2, h3⟩
      · rw [h2] at hl; exact no hl
      · have hlt : e.on < ops.size := Nat.lt_trans h2 (Array.getElem?_eq_some_iff.1 ho).1
        have hoe : ops[e.on]? = some ops[e.on] := Array.getElem?_eq_getElem hlt
        refine ih e.on h2 _ hoe (hcl e.on _ hoe ?_) h3
        rcases Nat.lt_or_ge e.on listed.size with h' | h'
        · simp [h'] at hl ⊢; exact hl
        · simp [Array.getElem?_eq_none h'] at hl
  obtain ⟨_, o, ho, hall⟩ := mem_ready.1 hj
  exact key j o ho hall hb
end Go.Proofs.YthojnihahmlboaaGreat
