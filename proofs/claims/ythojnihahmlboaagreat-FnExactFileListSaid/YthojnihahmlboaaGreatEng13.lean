/- The engine, part 13: code: sequences, tests, blocks, loops by their invariants; functions. -/
import Derived.Test.YthojnihahmlboaaGreatEng12
import Derived.Scope
namespace Go.Proofs.YthojnihahmlboaaGreat
open Go.RowKit
set_option linter.unusedVariables false

/-! ### A loop's rule with a measure that need not be a function of the frame -/
theorem wp_loop_ex {P : Program} {Q : Exit → Act → World → Prop} {c : Code} (I : Nat → Act → World → Prop) {n : Nat} {a : Act} {w : World} (h₀ : I n a w)
    (round : ∀ n a w, I n a w → c.wp P (Exit.then (fun a' w' => ∃ m, m < n ∧ I m a' w') Q) a w) : (Code.loop c).wp P Q a w := by
  intro b k cs
  have key : ∀ n a w, I n a w → ∃ e a' w', Q e a' w' ∧ Arrives P (lone (b.at a (.code c :: .inLoop c :: k)) cs w) b k cs e a' w' := by
    intro n
    induction n using Nat.strongRecOn with
    | _ n ih =>
      intro a w hI
      obtain ⟨e, a₁, w₁, hq, harr⟩ := round n a w hI b (.inLoop c :: k) cs
      cases e with
      | normal =>
        obtain ⟨m, hlt, hI₁⟩ := hq
        obtain ⟨e₂, a₂, w₂, hq₂, harr₂⟩ := ih m hlt a₁ w₁ hI₁
        exact ⟨e₂, a₂, w₂, hq₂, .of_steps (Steps.trans harr (.one step_inLoop)) harr₂⟩
      | exit id => exact ⟨_, a₁, w₁, hq, .pass (x := .inLoop c) rfl (fun _ _ => .inl (by simp)) harr⟩
      | goto l => exact ⟨_, a₁, w₁, hq, .pass (x := .inLoop c) rfl (fun _ _ => .inl (by simp)) harr⟩
      | ret => exact ⟨_, a₁, w₁, hq, .pass (x := .inLoop c) rfl (fun _ _ => .inl (by simp)) harr⟩
      | panic ch => exact ⟨_, a₁, w₁, hq, .pass (x := .inLoop c) rfl (fun _ _ => .inl (by simp)) harr⟩
      | outgrown => exact ⟨_, a₁, w₁, hq, .pass (x := .inLoop c) rfl (fun _ _ => .inl (by simp)) harr⟩
  obtain ⟨e, a', w', hq, harr⟩ := key n a w h₀
  exact ⟨e, a', w', hq, .of_steps (.one step_loop) harr⟩

/-! ### Loops' specifications -/
structure LSpec where
  chg : List (Nat × CK)
  chgL : List (Nat × List CK)
  keep : List Nat
  newL : List (TypeId × List CK) := []
  ptr : List (Nat × Nat) := []

def dstsC : Code → List Nat
  | .region _ ops _ => dstsL ops.toList
  | .seq a b => dstsC a ++ dstsC b
  | .cond _ a b => dstsC a ++ dstsC b
  | .block _ b => dstsC b
  | .loop b => dstsC b
  | .scope b => dstsC b
  | _ => []
def keyOf : Code → Option Nat
  | .region id _ _ => some id
  | .seq a b => match keyOf a with
    | some k => some k
    | none => keyOf b
  | .cond _ a b => match keyOf a with
    | some k => some k
    | none => keyOf b
  | .block _ b => keyOf b
  | .loop b => keyOf b
  | .scope b => keyOf b
  | _ => none

def kindOk : CK → Value → Bool
  | .int k, .int k' _ => decide (k = k')
  | .bool, .bool _ => true
  | .str, .string _ => true
  | .slice, .slice _ _ _ => true
  | .ptr, .pointer _ => true
  | .fn, .func (.func _) _ _ => true
  | .iface, _ => true
  | .map, _ => true
  | .other, _ => true
  | _, _ => false
def allK : CK → (Value → Prop) → Prop
  | .int k, K => ∀ n : Int, K (.int k n)
  | .bool, K => ∀ b : Bool, K (.bool b)
  | .str, K => ∀ s : ByteArray, K (.string s)
  | .slice, K => ∀ (o : Option Addr) (l c : Nat), K (.slice o l c)
  | .ptr, K => ∀ o : Option Addr, K (.pointer o)
  | .fn, K => ∀ (f : FuncId) (a c : Array Value), K (.func (.func f) a c)
  | _, K => ∀ v : Value, K v
def allKs : List CK → (List Value → Prop) → Prop
  | [], K => K []
  | k :: r, K => allK k fun v => allKs r fun l => K (v :: l)
theorem allK_out {k : CK} {K : Value → Prop} (h : allK k K) {v : Value} (hv : kindOk k v = true) : K v := by
  by_cases hk : k = .fn
  · subst hk
    cases v with
    | func f a c =>
      cases f with
      | func f => exact h f a c
      | _ => simp [kindOk] at hv
    | _ => simp [kindOk] at hv
  cases k <;> cases v <;> simp only [kindOk] at hv <;> first
    | (exact absurd rfl hk)
    | exact h _
    | exact h _ _ _
    | (cases hv; done)
    | (simp only [decide_eq_true_eq] at hv; subst hv; exact h _)
def kindsOk : List CK → List Value → Bool
  | [], [] => true
  | k :: r, v :: l => kindOk k v && kindsOk r l
  | _, _ => false
theorem allKs_out : ∀ {ks : List CK} {K : List Value → Prop} {vs : List Value}, allKs ks K → kindsOk ks vs = true → K vs
  | [], _, [], h, _ => h
  | k :: r, K, v :: l, h, hk => by
    simp only [kindsOk, Bool.and_eq_true] at hk
    exact allKs_out (K := fun l => K (v :: l)) (allK_out (K := fun v => allKs r fun l => K (v :: l)) h hk.1) hk.2
  | [], _, _ :: _, _, hk => by simp [kindsOk] at hk
  | _ :: _, _, [], _, hk => by simp [kindsOk] at hk

/-- What the changing slots and local blocks hold. -/
def valsS (S : St) : List (Nat × CK) → Option (List Value)
  | [] => some []
  | (i, _) :: r => match S.F.get i with
    | some (.un e) => match avl S e, valsS S r with
      | some x, some l => some (x :: l)
      | _, _ => none
    | _ => none
def valsL (S : St) : List (Nat × List CK) → Option (List Value)
  | [] => some []
  | (id, ks) :: r => match S.L[id]?, valsL S r with
    | some (_, cs), some l => bif Nat.beq cs.length ks.length then some (cs ++ l) else none
    | _, _ => none
def LSpec.ks (sp : LSpec) : List CK := sp.chg.map (·.2) ++ sp.chgL.flatMap (·.2)
def initV (S : St) (sp : LSpec) (K : List Value → Prop) : Prop :=
  match valsS S sp.chg, valsL S sp.chgL with
  | some xs, some ys => bif kindsOk sp.ks (xs ++ ys) then K (xs ++ ys) else False
  | _, _ => False

def keepF (F : PT SV) : List Nat → PT SV
  | [] => .leaf
  | i :: r => match F.get i with
    | some (.un e) => PT.set 12 (keepF F r) i (.un e)
    | _ => keepF F r
def setVs (F : PT SV) : List (Nat × CK) → List Value → PT SV
  | (i, _) :: r, v :: vs => PT.set 12 (setVs F r vs) i (.un (.v v))
  | _, _ => F
def setLs (L : List (TypeId × List Value)) : List (Nat × List CK) → List Value → List (TypeId × List Value)
  | [], _ => L
  | (id, ks) :: r, vs => match L[id]? with
    | some (t, _) => setLs (L.set id (t, vs.take ks.length)) r (vs.drop ks.length)
    | none => setLs L r (vs.drop ks.length)
def lkAll (S : St) (sp : LSpec) : List Nat := (List.range S.L.length).filter fun id => !memB (sp.chgL.map (·.1)) id
def headS (S : St) (sp : LSpec) (vs : List Value) : St :=
  { S with F := setVs (keepF S.F sp.keep) sp.chg (vs.take sp.chg.length), L := setLs S.L sp.chgL (vs.drop sp.chg.length), lk := lkAll S sp }
def nodupB : List Nat → Bool
  | [] => true
  | x :: r => !memB r x && nodupB r
def spOk (S : St) (sp : LSpec) (ds : List Nat) : Bool :=
  (sp.keep.all fun i => !memB ds i && Nat.blt i 4000) && (sp.chg.all fun p => Nat.blt p.1 4000 && !memB sp.keep p.1) && nodupB (sp.chg.map (·.1)) && nodupB (sp.chgL.map (·.1)) && (sp.chgL.all fun p => match S.L[p.1]? with
    | some (_, cs) => Nat.beq cs.length p.2.length && !memB S.lk p.1
    | none => false)

/-! ### Joins: what several ways lead to is gone on with once -/
def LSpec.nks (sp : LSpec) : List CK := sp.newL.flatMap (·.2)
def allBs : Nat → (List Nat → Prop) → Prop
  | 0, K => K []
  | n + 1, K => ∀ b : Nat, allBs n fun l => K (b :: l)
theorem allBs_out : ∀ {n : Nat} {K : List Nat → Prop} {bs : List Nat}, allBs n K → bs.length = n → K bs
  | 0, _, [], h, _ => h
  | n + 1, K, b :: l, h, hl => allBs_out (K := fun l => K (b :: l)) (h b) (by simpa using hl)
  | 0, _, _ :: _, _, hl => by simp at hl
  | _ + 1, _, [], _, hl => by simp at hl
def newLs : List (TypeId × List CK) → List Value → List (TypeId × List Value)
  | [], _ => []
  | (t, ks) :: r, vs => (t, vs.take ks.length) :: newLs r (vs.drop ks.length)
def newOf (S : St) : Nat → List (TypeId × List CK) → Option (List Value)
  | _, [] => some []
  | n, (t, ks) :: r => match S.L[n]?, newOf S (n + 1) r with
    | some (t', cs), some l => bif Nat.beq t' t && Nat.beq cs.length ks.length then some (cs ++ l) else none
    | _, _ => none
def ptrOk (S : St) (n k : Nat) (l : List (Nat × Nat)) : Bool := l.all fun p => Nat.blt p.1 4000 && Nat.blt p.2 k && match S.F.get p.1 with
  | some (.un (.loc id 0)) => Nat.beq id (n + p.2)
  | _ => false
def setPs (F : PT SV) (n : Nat) : List (Nat × Nat) → PT SV
  | [] => F
  | (i, j) :: r => PT.set 12 (setPs F n r) i (.un (.loc (n + j) 0))
def joinS (S : St) (sp : LSpec) (vs zs : List Value) (bs : List Nat) : St :=
  { F := setPs (headS S sp vs).F S.L.length sp.ptr, L := (headS S sp vs).L ++ newLs sp.newL zs, B := S.B ++ bs, old := S.old, lk := S.lk, r := S.r }
def joinV (S S' : St) (sp : LSpec) (K : List Value → List Nat → Prop) : Prop :=
  match newOf S' S.L.length sp.newL with
  | some zs => bif kindsOk sp.nks zs && ptrOk S' S.L.length sp.newL.length sp.ptr then initV S' sp fun vs => K (vs ++ zs) ((S'.B.drop S.B.length).take sp.newL.length) else False
  | none => False
def jfind (sps : List (Nat × LSpec)) (b : Code) : Option LSpec := match sps with
  | [] => none
  | _ => match keyOf b with
    | some k => asc sps (k + 1000000)
    | none => none

/-- The slot of a test, behind it. -/
def setB (S : St) (c : Operand) (x : Bool) : St :=
  match c with
  | .tmp t => bif Nat.blt t 4000 then { S with F := PT.set 12 S.F t (.un (.kb x)) } else S
  | _ => S
def evC (C : Cfg) (sps : List (Nat × LSpec)) : Code → St → World → (Exit → St → World → Prop) → Prop
  | .skip, S, w, K => K .normal S w
  | .label _, S, w, K => K .normal S w
  | .region _ ops d, S, w, K => evReg C ops d S w (K .normal)
  | .seq a b, S, w, K => match jfind sps b with
    | none => evC C sps a S w fun e S' w' => match e with
      | .normal => evC C sps b S' w' K
      | e => K e S' w'
    | some sp => bif spOk S sp (dstsC a) then
        bif C.pm then
          ∃ Mid : List Value → List Nat → Prop, (evC C sps a { S with lk := lkAll S sp } w fun e S' w' => match e with
              | .normal => joinV S S' sp Mid
              | e => K e { S' with lk := S.lk } w') ∧
            allKs sp.ks fun vs => allKs sp.nks fun zs => allBs sp.newL.length fun bs => Mid (vs ++ zs) bs → evC C sps b (joinS S sp vs zs bs) w K
        else
          ∃ Mid : List Value → List Nat → World → Prop, (evC C sps a { S with lk := lkAll S sp } w fun e S' w' => match e with
              | .normal => ∀ wr, ExtX S'.bs w' wr → (∀ b ∈ S'.B, b < wr.heap.size) → joinV S S' sp fun vs bs => Mid vs bs wr
              | e => K e { S' with lk := S.lk } w') ∧
            allKs sp.ks fun vs => allKs sp.nks fun zs => allBs sp.newL.length fun bs => ∀ w1, (∀ b ∈ S.B ++ bs, b < w1.heap.size) → Mid (vs ++ zs) bs w1 → evC C sps b (joinS S sp vs zs bs).aged w1 K
      else False
  | .cond c a b, S, w, K => match opv S [] c with
    | some (.kb true) => evC C sps a S w K
    | some (.kb false) => evC C sps b S w K
    | some (.v (.bool x)) => (x = true → evC C sps a (setB S c true) w K) ∧ (x = false → evC C sps b (setB S c false) w K)
    | _ => False
  | .block id b, S, w, K => evC C sps b S w fun e S' w' => match e with
    | .exit id' => bif Nat.beq id' id then K .normal S' w' else K e S' w'
    | e => K e S' w'
  | .scope b, S, w, K => evC C sps b S w fun e S' w' => match e with
    | .goto _ => False
    | e => K e S' w'
  | .exit id, S, w, K => K (.exit id) S w
  | .ret, S, w, K => K .ret S w
  | .loop b, S, w, K => match keyOf b with
    | none => False
    | some key => match asc sps key with
      | none => False
      | some sp => bif spOk S sp (dstsC b) then
          bif C.pm then
            ∃ (Inv : List Value → Prop) (μ : List Value → Nat), initV S sp Inv ∧ allKs sp.ks fun vs => Inv vs → evC C sps b (headS S sp vs) w fun e S' w' => match e with
              | .normal => initV S' sp fun vs' => Inv vs' ∧ μ vs' < μ vs
              | e => K e { S' with lk := S.lk } w'
          else
            ∃ (Inv : List Value → World → Prop) (μ : List Value → World → Nat), (∀ wr, ExtX S.bs w wr → (∀ b ∈ S.B, b < wr.heap.size) → initV S sp fun vs => Inv vs wr) ∧
              allKs sp.ks fun vs => ∀ w1, (∀ b ∈ S.B, b < w1.heap.size) → Inv vs w1 → evC C sps b (headS S.aged sp vs) w1 fun e S' w' => match e with
              | .normal => ∀ wr, ExtX S'.bs w' wr → (∀ b ∈ S'.B, b < wr.heap.size) → initV S' sp fun vs' => Inv vs' wr ∧ μ vs' wr < μ vs w1
              | e => K e { S' with lk := S.lk } w'
        else False
  | _, _, _, _ => False

structure EndC (C : Cfg) (S : St) (w : World) (ds : List Nat) (a : Act) (S' : St) (w' : World) (a' : Act) (wr' : World) : Prop where
  fit : FitC C.n S' a'
  rel : WRel S' w' wr'
  wf : WfS S'
  fr : FrS S S'
  fra : FrA ds a a'
  pm : C.pm = true → w' = w ∧ S'.old = S.old
theorem EndC.refl {C : Cfg} {S : St} {w wr : World} {a : Act} (ds : List Nat) (h1 : FitC C.n S a) (h2 : WRel S w wr) (h3 : WfS S) : EndC C S w ds a S w a wr := ⟨h1, h2, h3, FrS.refl S, FrA.refl _ _, fun _ => ⟨rfl, rfl⟩⟩
theorem EndC.trans {C : Cfg} {S S1 S2 : St} {w w1 w2 wr1 wr2 : World} {ds es fs : List Nat} {a a1 a2 : Act} (h : EndC C S w ds a S1 w1 a1 wr1) (k : EndC C S1 w1 es a1 S2 w2 a2 wr2) (hd : ∀ x ∈ ds, x ∈ fs) (he : ∀ x ∈ es, x ∈ fs) : EndC C S w fs a S2 w2 a2 wr2 :=
  ⟨k.fit, k.rel, k.wf, h.fr.trans k.fr, (h.fra.mono hd).trans (k.fra.mono he), fun hp => ⟨(k.pm hp).1.trans (h.pm hp).1, (k.pm hp).2.trans (h.pm hp).2⟩⟩
theorem EndC.mono {C : Cfg} {S S1 : St} {w w1 wr1 : World} {ds fs : List Nat} {a a1 : Act} (h : EndC C S w ds a S1 w1 a1 wr1) (hd : ∀ x ∈ ds, x ∈ fs) : EndC C S w fs a S1 w1 a1 wr1 :=
  ⟨h.fit, h.rel, h.wf, h.fr, h.fra.mono hd, h.pm⟩

theorem evReg_sound {C : Cfg} (E : Env C) {id : Nat} {ops : Array Oper} {d : Bool} {S : St} {w wr : World} {a : Act} {K : St → World → Prop} {Q : Exit → Act → World → Prop} (h : evReg C ops d S w K)
    (hf : FitC C.n S a) (hw : WRel S w wr) (hwf : WfS S) (hQ : ∀ S' w' a' wr', K S' w' → EndC C S w (dstsL ops.toList) a S' w' a' wr' → Q .normal a' wr') : (Code.region id ops d).wp C.P Q a wr := by
  unfold evReg at h
  cases hu : uniqB ops with
  | false => rw [hu] at h; exact h.elim
  | true =>
    rw [hu] at h
    simp only [cond_true] at h
    have hrel : ∀ {S1 : St} {w1 wr1 : World}, WRel S1 w1 wr1 → WRel { S1 with r := S1.r + 1 } w1 wr1 := fun h => ⟨h.ext, h.loc, h.len, h.dist, h.fresh⟩
    have hwf1 : WfS { S with r := S.r + 1 } := ⟨hwf.old, hwf.lk⟩
    cases d with
    | false =>
      simp only [cond_false] at h
      refine wp_region_list ?_
      refine evSeq_sound E hu (S0 := { S with r := S.r + 1 }) (w0 := w) (a0 := a) (ds := dstsL ops.toList) (fun x hx => hx) (fun S' w' a' wr' hK hf' hw' hwf' hfr' hr' hfa' hpm' => ?_) ops.toList 0 _ w wr a (fun j => by simp) (by simp) h
        (hf.enter ops _) (hrel hw) hwf1 (FrS.refl _) rfl (FrA.refl _ _) (fun _ => ⟨rfl, rfl⟩)
      exact hQ _ _ _ _ hK ⟨hf'.leave, hrel hw', ⟨hwf'.old, hwf'.lk⟩, ⟨hfr'.B, hfr'.ty, hfr'.lk⟩, hfa', hpm'⟩
    | true =>
      simp only [cond_true] at h
      cases hs : Region.noSelect ops with
      | false => rw [hs] at h; exact h.elim
      | true =>
        rw [hs] at h
        simp only [cond_true] at h
        have hp := evPlan_sound E hu hs (S0 := { S with r := S.r + 1 }) (w0 := w) (a0 := a) (ds := dstsL ops.toList) (fun x hx => hx) ops.size (Array.replicate ops.size false) [] [] _ w a h
          (fun j o _ hl => by
            rcases Nat.lt_or_ge j ops.size with h' | h'
            · simp [h'] at hl
            · rename_i ho; rw [Array.getElem?_eq_none h'] at ho; cases ho)
          (hf.enter ops _) hwf1 (FrS.refl _) rfl (FrA.refl _ _) (fun _ => ⟨rfl, rfl⟩) (fun p hp => by cases hp)
        refine wp_region_any E.mixed (wpAny_of_R (fun a' R w' hPQ hR => ?_) ops.size _ [] a (WRel { S with r := S.r + 1 } w) { wr with drawn := wr.drawn + 1 } ?_ hp)
        · obtain ⟨S', w1, hK, hf', hwf', hfr', hr', hfa', hpm', rfl⟩ := hPQ
          exact hQ _ _ _ _ hK ⟨hf', hrel hR, ⟨hwf'.old, hwf'.lk⟩, ⟨hfr'.B, hfr'.ty, hfr'.lk⟩, hfa', hpm'⟩
        · exact ⟨hw.ext.drawn _, hw.loc, hw.len, hw.dist, hw.fresh⟩
end Go.Proofs.YthojnihahmlboaaGreat
