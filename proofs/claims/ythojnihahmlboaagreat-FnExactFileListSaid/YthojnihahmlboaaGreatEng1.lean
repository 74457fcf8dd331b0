/- The engine, part 1: the table of types; what a quiet operation comes to; that this is so in the model. -/
import Derived.Test.YthojnihahmlboaaGreatEng0
namespace Go.Proofs.YthojnihahmlboaaGreat
open Go.RowKit
set_option linter.unusedVariables false

/-! ### Types -/
inductive CK where
  | int (k : IntKind) | bool | str | slice | ptr | fn | iface | map | other
  deriving DecidableEq
inductive TD where
  | slice (e : TypeId) (esz : Nat)
  | struct (fs : List (Nat × Bool × Nat))
  | arr (n esz : Nat) (eagg : Bool)
  | str
  | int (k : IntKind)
  | bool
  | ptr
  | other
  deriving DecidableEq
structure Ty where
  agg : Bool
  ks : List CK
  d : TD
  deriving DecidableEq

def ckOf : Value → CK
  | .int k n => if n = 0 then .int k else .other
  | .bool b => if b = false then .bool else .other
  | .string s => if s.size = 0 then .str else .other
  | .slice o l c => if o = none ∧ l = 0 ∧ c = 0 then .slice else .other
  | .pointer o => if o = none then .ptr else .other
  | .nilFunc => .fn
  | .nilIface => .iface
  | .map o => if o = none then .map else .other
  | _ => .other
def zv : CK → Value
  | .int k => .int k 0
  | .bool => .bool false
  | .str => .string ByteArray.empty
  | .slice => .slice none 0 0
  | .ptr => .pointer none
  | .fn => .nilFunc
  | .iface => .nilIface
  | .map => .map none
  | .other => .nilFunc
theorem ckOf_zv {v : Value} (h : ckOf v ≠ .other) : v = zv (ckOf v) := by
  cases v with
  | int k n => by_cases hc : n = 0 <;> simp_all [ckOf, zv]
  | bool b => by_cases hc : b = false <;> simp_all [ckOf, zv]
  | string s =>
    by_cases hc : s.size = 0
    · have : s = ByteArray.empty := ByteArray.size_eq_zero_iff.1 hc
      subst this
      simp [ckOf, zv]
    · simp [ckOf, hc] at h
  | slice o l c =>
    by_cases hc : o = none ∧ l = 0 ∧ c = 0
    · obtain ⟨rfl, rfl, rfl⟩ := hc
      simp [ckOf, zv]
    · simp only [ckOf, if_neg hc] at h; exact absurd rfl h
  | pointer o => by_cases hc : o = none <;> simp_all [ckOf, zv]
  | map o => by_cases hc : o = none <;> simp_all [ckOf, zv]
  | nilFunc => rfl
  | nilIface => rfl
  | _ => simp [ckOf] at h

def isAggD : TypeDesc → Bool
  | .struct _ | .array _ _ => true
  | _ => false
def fieldsOf (P : Program) : List Field → Option (List (Nat × Bool × Nat))
  | [] => some []
  | f :: r =>
    match P.info? f.type, P.underlying f.type, fieldsOf P r with
    | some i, some d, some l => if i.size = 0 then none else some ((f.offset, isAggD d, i.size) :: l)
    | _, _, _ => none
def tdOf (P : Program) : TypeDesc → TD
  | .slice e => match P.info? e with | some i => .slice e i.size | none => .other
  | .struct fs => match fieldsOf P fs.toList with | some l => .struct l | none => .other
  | .array n e => match P.info? e, P.underlying e with | some i, some d => .arr n i.size (isAggD d) | _, _ => .other
  | .string => .str
  | .int k => .int k
  | .bool => .bool
  | .pointer _ => .ptr
  | _ => .other
def tyOf (P : Program) (t : TypeId) : Option Ty :=
  match P.underlying t, P.info? t with
  | some d, some i =>
    match i.zero with
    | some z => if i.size = z.cells.toList.length then some { agg := isAggD d, ks := z.cells.toList.map ckOf, d := tdOf P d } else none
    | none => none
  | _, _ => none

/-- What the table says of a type is so. -/
def TOk (P : Program) (T : TypeId → Option Ty) : Prop := ∀ t ty, T t = some ty → tyOf P t = some ty
def tblOk (P : Program) (l : List (TypeId × Ty)) : Bool := l.all fun p => decide (tyOf P p.1 = some p.2)
def tblGet : List (TypeId × Ty) → TypeId → Option Ty
  | [], _ => none
  | p :: r, t => bif Nat.beq p.1 t then some p.2 else tblGet r t
theorem tOk_of {P : Program} : ∀ {l : List (TypeId × Ty)}, tblOk P l = true → TOk P (tblGet l)
  | [], _, t, ty, h => by simp [tblGet] at h
  | p :: r, hl, t, ty, h => by
    simp only [tblOk, List.all_cons, Bool.and_eq_true, decide_eq_true_eq] at hl
    simp only [tblGet] at h
    cases hb : Nat.beq p.1 t with
    | true =>
      rw [hb] at h
      simp only [cond_true, Option.some.injEq] at h
      have : p.1 = t := Nat.eq_of_beq_eq_true hb
      subst this; subst h; exact hl.1
    | false =>
      rw [hb] at h
      exact tOk_of (l := r) hl.2 t ty h

structure TyFacts (P : Program) (t : TypeId) (ty : Ty) : Prop where
  desc : ∃ d, P.underlying t = some d ∧ ty.agg = isAggD d ∧ ty.d = tdOf P d
  info : ∃ i z, P.info? t = some i ∧ i.zero = some z ∧ i.size = ty.ks.length ∧ z.cells.toList.map ckOf = ty.ks
theorem TOk.facts {P : Program} {T : TypeId → Option Ty} (hT : TOk P T) {t : TypeId} {ty : Ty} (h : T t = some ty) : TyFacts P t ty := by
  have := hT t ty h
  unfold tyOf at this
  split at this
  · rename_i d i hd hi
    split at this
    · rename_i z hz
      split at this
      · rename_i hs
        simp only [Option.some.injEq] at this
        subst this
        exact ⟨⟨d, hd, rfl, rfl⟩, i, z, hi, hz, by simpa using hs, rfl⟩
      · cases this
    · cases this
  · cases this

/-! ### Configuration -/
inductive RK where
  | cell (k : CK)
  | agg (ks : List CK)
structure Cfg where
  P : Program
  T : TypeId → Option Ty
  pf : List (Nat × List RK)
  ef : List (Nat × List RK)
  tt : List (Nat × List RK)
  vis : List Nat
  n : Nat
  pm : Bool
  /-- Differences are told by the model's own semantics. -/
  wr : Bool := false

def asc {β : Type} : List (Nat × β) → Nat → Option β
  | [], _ => none
  | p :: r, t => bif Nat.beq p.1 t then some p.2 else asc r t

/-! ### Fresh values -/
def exK : CK → (Value → Prop) → Prop
  | .int k, K => ∃ n : Int, K (.int k n)
  | .bool, K => ∃ b : Bool, K (.bool b)
  | .str, K => ∃ s : ByteArray, K (.string s)
  | .slice, K => ∃ (o : Option Addr) (l c : Nat), K (.slice o l c)
  | .ptr, K => ∃ o : Option Addr, K (.pointer o)
  | .fn, K => ∃ (f : FuncId) (a c : Array Value), K (.func (.func f) a c)
  | _, K => ∃ v : Value, K v
/-- The kind of a known value. -/
def ckV : Value → CK
  | .int k _ => .int k
  | .bool _ => .bool
  | .string _ => .str
  | .slice _ _ _ => .slice
  | .pointer _ => .ptr
  | .func (.func _) _ _ => .fn
  | _ => .other
def exKs : List CK → (List Value → Prop) → Prop
  | [], K => K []
  | k :: r, K => exK k fun v => exKs r fun l => K (v :: l)
def exR : RK → (Value → Prop) → Prop
  | .cell k, K => exK k K
  | .agg ks, K => exKs ks fun l => K (.agg l.toArray)
def exRs : List RK → (List Value → Prop) → Prop
  | [], K => K []
  | k :: r, K => exR k fun v => exRs r fun l => K (v :: l)
def exRes : List RK → (Value → Prop) → Prop
  | [k], K => exR k K
  | ks, K => exRs ks fun l => K (.tuple l.toArray)

theorem exK_out {k : CK} {K : Value → Prop} (h : exK k K) : ∃ v, K v := by
  cases k <;> simp only [exK] at h
  case slice => obtain ⟨o, l, c, h⟩ := h; exact ⟨_, h⟩
  case fn => obtain ⟨f, a, c, h⟩ := h; exact ⟨_, h⟩
  all_goals (obtain ⟨x, h⟩ := h; exact ⟨_, h⟩)
theorem exKs_out : ∀ {ks : List CK} {K : List Value → Prop}, exKs ks K → ∃ l, l.length = ks.length ∧ K l
  | [], _, h => ⟨[], rfl, h⟩
  | k :: r, K, h => by
    obtain ⟨v, hv⟩ := exK_out h
    obtain ⟨l, hl, hk⟩ := exKs_out hv
    exact ⟨v :: l, by simp [hl], hk⟩
theorem exR_out {k : RK} {K : Value → Prop} (h : exR k K) : ∃ v, K v := by
  cases k with
  | cell k => exact exK_out h
  | agg ks => obtain ⟨l, _, h⟩ := exKs_out h; exact ⟨_, h⟩
theorem exRs_out : ∀ {ks : List RK} {K : List Value → Prop}, exRs ks K → ∃ l, K l
  | [], _, h => ⟨[], h⟩
  | k :: r, K, h => by
    obtain ⟨v, hv⟩ := exR_out h
    obtain ⟨l, hk⟩ := exRs_out hv
    exact ⟨v :: l, hk⟩
theorem exRes_out {ks : List RK} {K : Value → Prop} (h : exRes ks K) : ∃ v, K v := by
  unfold exRes at h
  split at h
  · exact exR_out h
  · obtain ⟨l, h⟩ := exRs_out h; exact ⟨_, h⟩

/-! ### Operands -/
def St.bs (S : St) : List Nat := S.B.take S.old

def pcSub (p q : List (Nat × Bool)) : Bool := p.all fun x => q.any fun y => Nat.beq x.1 y.1 && (x.2 == y.2)
def opv (S : St) (pc : List (Nat × Bool)) : Operand → Option EV
  | .tmp t => match S.F.get t with
    | some (.un x) => some x
    | some (.gd r pc' x) => bif Nat.beq r S.r && pcSub pc' pc then some x else none
    | none => none
  | .const v => some (.v v)
  | .global g => some (.v (.pointer (some ⟨g, 0, none⟩)))
  | .func f => some (.v (.func (.func f) #[] #[]))

/-- What is owed under the path condition pc: the Bools are those in the slots of the operations it names. -/
def bvOf (S : St) (ops : Array Oper) (j : Nat) : Option Bool :=
  match (ops[j]?).bind (·.dst) with
  | some d => match S.F.get d with
    | some (.un (.v (.bool b))) => some b
    | some (.gd r _ (.v (.bool b))) => bif Nat.beq r S.r then some b else none
    | _ => none
  | none => none
def gdP (S : St) (ops : Array Oper) : List (Nat × Bool) → Prop → Prop
  | [], A => A
  | (j, want) :: r, A => match bvOf S ops j with
    | some b => b = want → gdP S ops r A
    | none => gdP S ops r A

def opPc (S : St) (ops : Array Oper) (o : Oper) : Option (List (Nat × Bool)) :=
  match o.guard with
  | none => some []
  | some (j, want) => match (ops[j]?).bind (·.dst) with
    | some d => match S.F.get d with
      | some (.un (.v (.bool _))) => some [(j, want)]
      | some (.gd r pc (.v (.bool _))) => bif Nat.beq r S.r then some ((j, want) :: pc) else none
      | some (.gd r pc .no) => bif Nat.beq r S.r then some ((j, want) :: pc) else none
      | _ => none
    | none => none

/-! ### Denotation -/
def EV.den (S : St) : EV → Value → Prop
  | .v x, u => u = x
  | .loc id off, u => ∃ b, S.B[id]? = some b ∧ u = .pointer (some ⟨b, off, none⟩)
  | .el o n, u => ∃ a, o = some a ∧ u = .pointer (some (a.add n))
  | .ls id len, u => ∃ b, S.B[id]? = some b ∧ u = .slice (some ⟨b, 0, none⟩) len len
  | .le id i k, u => ∃ b, S.B[id]? = some b ∧ 0 ≤ i ∧ u = .pointer (some ⟨b, i.toNat + k, none⟩)
  | .no, _ => False
  | .kb x, u => u = .bool x

def pcH (ops : Array Oper) (a : Act) (pc : List (Nat × Bool)) : Prop := ∀ p ∈ pc, yielded ops a.tmps p.1 = some p.2
def SV.den (S : St) (ops : Array Oper) (a : Act) : SV → Value → Prop
  | .un x, u => EV.den S x u
  | .gd r pc x, u => r = S.r → (pcH ops a pc → EV.den S x u) ∧ (¬ pcH ops a pc → u = undef)
structure Fits (n : Nat) (S : St) (ops : Array Oper) (a : Act) : Prop where
  size : a.tmps.size = n
  fits : ∀ i s, S.F.get i = some s → SV.den S ops a s (a.tmps.getD i undef)

theorem undef_ne_bool {b : Bool} : undef ≠ .bool b := by simp [undef]
theorem yielded_of {ops : Array Oper} {a : Act} {j d : Nat} {b : Bool} (hd : (ops[j]?).bind (·.dst) = some d) (h : yielded ops a.tmps j = some b) : a.tmps.getD d undef = .bool b := by
  unfold yielded at h
  rw [hd] at h
  simp only [Option.bind_some] at h
  split at h
  · rename_i b' hb
    simp only [Option.some.injEq] at h
    subst h
    rw [Array.getD_eq_getD_getElem?, hb]
    rfl
  · cases h

theorem bv_of {n : Nat} {S : St} {ops : Array Oper} {a : Act} (hf : Fits n S ops a) {j : Nat} {b want : Bool} (hb : bvOf S ops j = some b) (hy : yielded ops a.tmps j = some want) : b = want := by
  unfold bvOf at hb
  split at hb
  · rename_i d hd
    have hv := yielded_of hd hy
    split at hb
    · rename_i b' hg
      have := hf.fits d _ hg
      simp only [SV.den, EV.den] at this
      rw [hv] at this
      simp only [Option.some.injEq] at hb
      injection this with this
      rw [← hb]; exact this.symm
    · rename_i r pc b' hg
      have := hf.fits d _ hg
      cases hr : Nat.beq r S.r with
      | false => rw [hr] at hb; simp at hb
      | true =>
        rw [hr] at hb
        simp only [cond_true, Option.some.injEq] at hb
        have h1 := this (Nat.eq_of_beq_eq_true hr)
        by_cases hp : pcH ops a pc
        · have h2 := h1.1 hp
          simp only [EV.den] at h2
          rw [hv] at h2
          injection h2 with h2
          rw [← hb]; exact h2.symm
        · have h2 := h1.2 hp
          rw [hv] at h2
          exact absurd h2.symm undef_ne_bool
    · cases hb
  · cases hb

theorem gdP_out {n : Nat} {S : St} {ops : Array Oper} {a : Act} (hf : Fits n S ops a) : ∀ {pc : List (Nat × Bool)} {A : Prop}, pcH ops a pc → gdP S ops pc A → A
  | [], _, _, h => h
  | (j, want) :: r, A, hp, h => by
    have hr : pcH ops a r := fun p hm => hp p (List.mem_cons_of_mem _ hm)
    have hj : yielded ops a.tmps j = some want := hp (j, want) (List.mem_cons_self ..)
    simp only [gdP] at h
    split at h
    · rename_i b hb
      exact gdP_out hf hr (h (bv_of hf hb hj))
    · exact gdP_out hf hr h

theorem pcSub_spec {p q : List (Nat × Bool)} (h : pcSub p q = true) : ∀ x ∈ p, x ∈ q := by
  intro x hx
  simp only [pcSub, List.all_eq_true, List.any_eq_true, Bool.and_eq_true] at h
  obtain ⟨y, hy, h1, h2⟩ := h x hx
  have e1 : x.1 = y.1 := Nat.eq_of_beq_eq_true h1
  have e2 : x.2 = y.2 := by simpa using h2
  have : x = y := Prod.ext e1 e2
  rw [this]; exact hy

theorem opv_den {n : Nat} {S : St} {ops : Array Oper} {a : Act} (hf : Fits n S ops a) {pc : List (Nat × Bool)} (hp : pcH ops a pc) {x : Operand} {e : EV} (h : opv S pc x = some e) : EV.den S e (a.eval x) := by
  cases x with
  | const v => simp only [opv, Option.some.injEq] at h; subst h; rfl
  | global g => simp only [opv, Option.some.injEq] at h; subst h; rfl
  | func f => simp only [opv, Option.some.injEq] at h; subst h; rfl
  | tmp t =>
    simp only [opv] at h
    split at h
    · rename_i y hg
      simp only [Option.some.injEq] at h; subst h
      exact hf.fits t _ hg
    · rename_i r pc' y hg
      cases hb : Nat.beq r S.r && pcSub pc' pc with
      | false => rw [hb] at h; simp at h
      | true =>
        rw [hb] at h
        simp only [cond_true, Option.some.injEq] at h; subst h
        simp only [Bool.and_eq_true] at hb
        exact (hf.fits t _ hg (Nat.eq_of_beq_eq_true hb.1)).1 fun p hm => hp p (pcSub_spec hb.2 p hm)
    · cases h

/-- The guards of a path condition are known, each under what follows it. -/
def pcOk (S : St) (ops : Array Oper) : List (Nat × Bool) → Bool
  | [] => true
  | (j, _) :: r => (match (ops[j]?).bind (·.dst) with
    | some d => match S.F.get d with
      | some (.un (.v (.bool _))) => true
      | some (.gd r' pc' (.v (.bool _))) => Nat.beq r' S.r && pcSub pc' r
      | _ => false
    | none => false) && pcOk S ops r
theorem yielded_mk {ops : Array Oper} {a : Act} {j d : Nat} {b : Bool} (hd : (ops[j]?).bind (·.dst) = some d) (h : a.tmps.getD d undef = .bool b) : yielded ops a.tmps j = some b := by
  unfold yielded
  rw [hd]
  simp only [Option.bind_some]
  rw [Array.getD_eq_getD_getElem?] at h
  cases hg : a.tmps[d]? with
  | none => rw [hg] at h; exact absurd h undef_ne_bool
  | some v => rw [hg] at h; simp only [Option.getD_some] at h; subst h; rfl
theorem gdP_not {n : Nat} {S : St} {ops : Array Oper} {a : Act} (hf : Fits n S ops a) : ∀ {pc : List (Nat × Bool)}, pcOk S ops pc = true → ¬ pcH ops a pc → gdP S ops pc False
  | [], _, hp => hp (fun p hm => by cases hm)
  | (j, want) :: r, h, hp => by
    simp only [pcOk, Bool.and_eq_true] at h
    obtain ⟨h1, h2⟩ := h
    by_cases hr : pcH ops a r
    · have hne : yielded ops a.tmps j ≠ some want := fun e => hp fun p hm => by
        rcases List.mem_cons.1 hm with rfl | hm
        · exact e
        · exact hr p hm
      have go : ∀ b, bvOf S ops j = some b → yielded ops a.tmps j = some b → gdP S ops ((j, want) :: r) False := fun b hb hy => by
        simp only [gdP, hb]
        intro e
        exact absurd (e ▸ hy) hne
      split at h1
      · rename_i d hd
        split at h1
        · rename_i b hg
          have hv := hf.fits d _ hg
          refine go b (by unfold bvOf; rw [hd]; simp only [hg]) (yielded_mk hd hv)
        · rename_i r' pc' b hg
          simp only [Bool.and_eq_true] at h1
          have hv := (hf.fits d _ hg (Nat.eq_of_beq_eq_true h1.1)).1 fun p hm => hr p (pcSub_spec h1.2 p hm)
          refine go b (by unfold bvOf; rw [hd]; simp only [hg, h1.1, cond_true]) (yielded_mk hd hv)
        · cases h1
      · cases h1
    · have := gdP_not hf h2 hr
      simp only [gdP]
      split
      · exact fun _ => this
      · exact this

theorem opPc_wanted {n : Nat} {S : St} {ops : Array Oper} {a : Act} (hf : Fits n S ops a) {o : Oper} {pc : List (Nat × Bool)} (h : opPc S ops o = some pc) :
    Region.wanted o (yielded ops a.tmps) = true ↔ pcH ops a pc := by
  unfold opPc at h
  unfold Region.wanted
  split at h
  · rename_i hg
    simp only [Option.some.injEq] at h; subst h
    rw [hg]
    simp [pcH]
  · rename_i j want hg
    rw [hg]
    simp only [beq_iff_eq]
    split at h
    · rename_i d hd
      split at h
      · rename_i b hv
        simp only [Option.some.injEq] at h; subst h
        simp [pcH]
      · rename_i r pc' b hv
        cases hr : Nat.beq r S.r with
        | false => rw [hr] at h; simp at h
        | true =>
          rw [hr] at h
          simp only [cond_true, Option.some.injEq] at h; subst h
          constructor
          · intro hy p hm
            rcases List.mem_cons.1 hm with rfl | hm
            · exact hy
            · have h1 := hf.fits d _ hv (Nat.eq_of_beq_eq_true hr)
              by_cases hp : pcH ops a pc'
              · exact hp p hm
              · have h2 := h1.2 hp
                have h3 := yielded_of hd hy
                rw [h3] at h2
                exact absurd h2.symm undef_ne_bool
          · intro hp
            exact hp (j, want) (List.mem_cons_self ..)
      · rename_i r pc' hv
        cases hr : Nat.beq r S.r with
        | false => rw [hr] at h; simp at h
        | true =>
          rw [hr] at h
          simp only [cond_true, Option.some.injEq] at h; subst h
          constructor
          · intro hy p hm
            rcases List.mem_cons.1 hm with rfl | hm
            · exact hy
            · have h1 := hf.fits d _ hv (Nat.eq_of_beq_eq_true hr)
              by_cases hp : pcH ops a pc'
              · exact hp p hm
              · have h2 := h1.2 hp
                have h3 := yielded_of hd hy
                rw [h3] at h2
                exact absurd h2.symm undef_ne_bool
          · intro hp
            exact hp (j, want) (List.mem_cons_self ..)
      · cases h
    · cases h
end Go.Proofs.YthojnihahmlboaaGreat
