/- Worlds: what a valid world is, in plain Lean. -/
import Derived.Test.YthojnihahmlboaaGreatTreeI
import Derived.Test.YthojnihahmlboaaGreatKb
import Derived.Test.YthojnihahmlboaaGreatOpW
namespace Go.Proofs.YthojnihahmlboaaGreat
open Go.RowKit
set_option linter.unusedVariables false
set_option linter.unusedSimpArgs false
set_option maxRecDepth 10000

/-! ### Masks -/
def bitN (k : Nat) : Int := 1 * 2 ^ (min (Int.toNat (k : Int)) 64)
def mOk (m : Int) : Bool := inB m 0 15
def mHas (m c : Int) : Bool := (mOk m && inB c 0 3) && (Int.tmod (Int.fdiv m (2 ^ (min (Int.toNat c) 64))) 2 == 1)
def mAnd (a b : Int) : Int := if mOk a = true ∧ mOk b = true then BitI .and .i64 a b else 0
def andN (a b : Int) : Nat → Int
  | 0 => 0
  | k + 1 => if (mHas a (k : Int) && mHas b (k : Int)) = true then andN a b k + bitN k else andN a b k
theorem fin16 {m : Int} (h : mOk m = true) : ∃ f : Fin 16, m = (f.val : Int) := by
  have := inB_t.1 h
  exact ⟨⟨m.toNat, by omega⟩, by show m = ((m.toNat : Nat) : Int); omega⟩
theorem andN_fin : ∀ a b : Fin 16, andN (a.val : Int) (b.val : Int) 4 = BitI .and .i64 (a.val : Int) (b.val : Int) := by decide +kernel
theorem andR_fin : ∀ a b : Fin 16, 0 ≤ BitI .and .i64 (a.val : Int) (b.val : Int) ∧ BitI .and .i64 (a.val : Int) (b.val : Int) ≤ 15 := by decide +kernel
theorem andC_fin : ∀ a b : Fin 16, BitI .and .i64 (a.val : Int) (b.val : Int) = BitI .and .i64 (b.val : Int) (a.val : Int) := by decide +kernel
theorem andA_fin : ∀ a b c : Fin 16, BitI .and .i64 (BitI .and .i64 (a.val : Int) (b.val : Int)) (c.val : Int) = BitI .and .i64 (a.val : Int) (BitI .and .i64 (b.val : Int) (c.val : Int)) := by decide +kernel
theorem andH_fin : ∀ (a b : Fin 16) (c : Fin 4), mHas (BitI .and .i64 (a.val : Int) (b.val : Int)) (c.val : Int) = (mHas (a.val : Int) (c.val : Int) && mHas (b.val : Int) (c.val : Int)) := by decide +kernel
theorem and0_fin : ∀ a : Fin 16, BitI .and .i64 (a.val : Int) 0 = 0 := by decide +kernel
theorem mAnd_ok (a b : Int) : mOk (mAnd a b) = true := by
  unfold mAnd
  split
  · rename_i h
    obtain ⟨x, rfl⟩ := fin16 h.1
    obtain ⟨y, rfl⟩ := fin16 h.2
    exact inB_t.2 (andR_fin x y)
  · exact inB_t.2 (by decide)
theorem mAnd_in {a b : Int} (ha : mOk a = true) (hb : mOk b = true) : mAnd a b = BitI .and .i64 a b := by unfold mAnd; rw [if_pos ⟨ha, hb⟩]
theorem mAnd_out {a b : Int} (h : mOk a = false ∨ mOk b = false) : mAnd a b = 0 := by
  unfold mAnd
  rw [if_neg]
  rintro ⟨h1, h2⟩
  rcases h with h | h
  · rw [h1] at h; cases h
  · rw [h2] at h; cases h
theorem mAnd_comm (a b : Int) : mAnd a b = mAnd b a := by
  cases ha : mOk a with
  | false => rw [mAnd_out (.inl ha), mAnd_out (.inr ha)]
  | true =>
    cases hb : mOk b with
    | false => rw [mAnd_out (.inr hb), mAnd_out (.inl hb)]
    | true =>
      rw [mAnd_in ha hb, mAnd_in hb ha]
      obtain ⟨x, rfl⟩ := fin16 ha
      obtain ⟨y, rfl⟩ := fin16 hb
      exact andC_fin x y
theorem mAnd_zero (a : Int) : mAnd a 0 = 0 := by
  cases ha : mOk a with
  | false => exact mAnd_out (.inl ha)
  | true =>
    rw [mAnd_in ha (by decide)]
    obtain ⟨x, rfl⟩ := fin16 ha
    exact and0_fin x
theorem mAnd_assoc (a b c : Int) : mAnd (mAnd a b) c = mAnd a (mAnd b c) := by
  cases hb : mOk b with
  | false => rw [mAnd_out (a := a) (.inr hb), mAnd_out (b := c) (.inl hb), mAnd_comm 0 c, mAnd_zero, mAnd_zero]
  | true =>
    cases ha : mOk a with
    | false => rw [mAnd_out (b := b) (.inl ha), mAnd_out (b := mAnd b c) (.inl ha), mAnd_comm, mAnd_zero]
    | true =>
      cases hc : mOk c with
      | false => rw [mAnd_out (a := mAnd a b) (.inr hc), mAnd_out (a := b) (.inr hc), mAnd_zero]
      | true =>
        have h1 := mAnd_ok a b
        have h2 := mAnd_ok b c
        rw [mAnd_in h1 hc, mAnd_in ha h2, mAnd_in ha hb, mAnd_in hb hc]
        obtain ⟨x, rfl⟩ := fin16 ha
        obtain ⟨y, rfl⟩ := fin16 hb
        obtain ⟨z, rfl⟩ := fin16 hc
        exact andA_fin x y z
theorem mHas_range {m c : Int} (h : mHas m c = true) : mOk m = true ∧ 0 ≤ c ∧ c ≤ 3 := by
  unfold mHas at h
  simp only [Bool.and_eq_true] at h
  exact ⟨h.1.1, inB_t.1 h.1.2⟩
theorem mHas_and {a b c : Int} (h : mHas (mAnd a b) c = true) : mHas a c = true ∧ mHas b c = true := by
  have hr := mHas_range h
  have hz : mHas 0 c = false := by
    have : c = 0 ∨ c = 1 ∨ c = 2 ∨ c = 3 := by omega
    rcases this with rfl | rfl | rfl | rfl <;> decide
  cases ha : mOk a with
  | false => rw [mAnd_out (.inl ha), hz] at h; cases h
  | true =>
    cases hb : mOk b with
    | false => rw [mAnd_out (.inr hb), hz] at h; cases h
    | true =>
      rw [mAnd_in ha hb] at h
      obtain ⟨x, rfl⟩ := fin16 ha
      obtain ⟨y, rfl⟩ := fin16 hb
      have := andH_fin x y ⟨c.toNat, by omega⟩
      rw [show ((⟨c.toNat, by omega⟩ : Fin 4).val : Int) = c by show ((c.toNat : Nat) : Int) = c; omega] at this
      rw [this] at h
      simpa using h
/-- The processors that are up. -/
def upsN (cs : List Cpu) : Nat → Int
  | 0 => 0
  | k + 1 => if (gi cs (k : Int)).up = true then upsN cs k + bitN k else upsN cs k
def upsD (cs : List Cpu) : Int := upsN cs cs.length
theorem upsN_lt (cs : List Cpu) : ∀ k : Nat, k ≤ 4 → 0 ≤ upsN cs k ∧ upsN cs k < bitN k
  | 0, _ => by simp [upsN, bitN]
  | k + 1, h => by
    have ih := upsN_lt cs k (by omega)
    have hb : bitN (k + 1) = 2 * bitN k ∧ 0 ≤ bitN k := by
      have : k = 0 ∨ k = 1 ∨ k = 2 ∨ k = 3 := by omega
      rcases this with rfl | rfl | rfl | rfl <;> decide
    simp only [upsN]
    split <;> omega
theorem bit_le {k : Nat} (h : k ≤ 4) : 1 ≤ bitN k ∧ bitN k ≤ 16 := by
  have : k = 0 ∨ k = 1 ∨ k = 2 ∨ k = 3 ∨ k = 4 := by omega
  rcases this with rfl | rfl | rfl | rfl | rfl <;> decide
theorem upsD_ok {cs : List Cpu} (h : cs.length ≤ 4) : mOk (upsD cs) = true := by
  have := upsN_lt cs cs.length h
  have := bit_le h
  exact inB_t.2 (by unfold upsD; omega)
theorem or_fin : ∀ (k : Fin 4) (s : Fin 8), (s.val : Int) < bitN k.val → BitI .or .i64 (s.val : Int) (bitN k.val) = (s.val : Int) + bitN k.val := by decide +kernel
theorem or_bit {k : Nat} {s : Int} (hk : k < 4) (h0 : 0 ≤ s) (h1 : s < bitN k) : BitI .or .i64 s (bitN k) = s + bitN k := by
  have hb : bitN k ≤ 8 := by
    have : k = 0 ∨ k = 1 ∨ k = 2 ∨ k = 3 := by omega
    rcases this with rfl | rfl | rfl | rfl <;> decide
  have := or_fin ⟨k, hk⟩ ⟨s.toNat, by omega⟩
  rw [show ((⟨s.toNat, by omega⟩ : Fin 8).val : Int) = s by show ((s.toNat : Nat) : Int) = s; omega] at this
  exact this h1
theorem hasB_fin : ∀ (k : Fin 4) (s : Fin 8) (c : Fin 4), (s.val : Int) < bitN k.val → mHas ((s.val : Int) + bitN k.val) (c.val : Int) = (decide (c.val = k.val) || mHas (s.val : Int) (c.val : Int)) := by decide +kernel
theorem ups_has (cs : List Cpu) {c : Int} : ∀ k : Nat, k ≤ 4 → mHas (upsN cs k) c = true → c < (k : Int) ∧ (gi cs c).up = true
  | 0, _, h => by
    have hr := mHas_range h
    have : c = 0 ∨ c = 1 ∨ c = 2 ∨ c = 3 := by omega
    rcases this with rfl | rfl | rfl | rfl <;> exact absurd h (by simp only [upsN]; decide)
  | k + 1, hk, h => by
    have hr := mHas_range h
    have ih := ups_has cs (c := c) k (by omega)
    have hl := upsN_lt cs k (by omega)
    have hb : bitN k ≤ 8 := by
      have : k = 0 ∨ k = 1 ∨ k = 2 ∨ k = 3 := by omega
      rcases this with rfl | rfl | rfl | rfl <;> decide
    simp only [upsN] at h
    split at h
    · rename_i hu
      have := hasB_fin ⟨k, by omega⟩ ⟨(upsN cs k).toNat, by omega⟩ ⟨c.toNat, by omega⟩
      rw [show ((⟨(upsN cs k).toNat, by omega⟩ : Fin 8).val : Int) = upsN cs k by show (((upsN cs k).toNat : Nat) : Int) = upsN cs k; omega, show ((⟨c.toNat, by omega⟩ : Fin 4).val : Int) = c by show ((c.toNat : Nat) : Int) = c; omega] at this
      rw [this hl.2] at h
      simp only [Bool.or_eq_true, decide_eq_true_eq] at h
      rcases h with h | h
      · have : c = (k : Int) := by omega
        subst this
        exact ⟨by omega, hu⟩
      · have := ih h
        exact ⟨by omega, this.2⟩
    · have := ih h
      exact ⟨by omega, this.2⟩

/-! ### The way up -/
def pathD : Nat → List Grp → Int → List Int
  | 0, _, _ => []
  | f + 1, gs, g => if g = 0 then [] else g :: pathD f gs (gi gs g).parent
abbrev pathW (gs : List Grp) (g : Int) : List Int := pathD 3 gs g
theorem path_root (gs : List Grp) (f : Nat) : pathD f gs 0 = [] := by cases f <;> simp [pathD]
theorem path_more {gs : List Grp} (ht : TreeP gs) : ∀ (f f' : Nat) (h : Int), usedD gs h = true → dep 3 gs h ≤ f → dep 3 gs h ≤ f' → pathD f gs h = pathD f' gs h := by
  intro f
  induction f with
  | zero =>
    intro f' h hu h1 h2
    have hz : h = 0 := Decidable.byContradiction fun hz => by
      obtain ⟨_, _, _, d, e, _⟩ := climb ht hu hz
      omega
    subst hz
    rw [path_root, path_root]
  | succ f ih =>
    intro f' h hu h1 h2
    by_cases hz : h = 0
    · subst hz
      rw [path_root, path_root]
    · obtain ⟨hp, _, _, d, e, e2, _⟩ := climb ht hu hz
      cases f' with
      | zero => omega
      | succ f' =>
        simp only [pathD]
        rw [if_neg hz, if_neg hz, ih f' (gi gs h).parent hp (by omega) (by omega)]
theorem path_step {gs : List Grp} (ht : TreeP gs) {h : Int} (hu : usedD gs h = true) (hz : h ≠ 0) : pathW gs h = h :: pathW gs (gi gs h).parent := by
  obtain ⟨hp, _, _, d, e, e2, hd⟩ := climb ht hu hz
  show pathD 3 gs h = _
  rw [show pathD 3 gs h = if h = 0 then [] else h :: pathD 2 gs (gi gs h).parent from rfl, if_neg hz, path_more ht 2 3 _ hp (by omega) (by omega)]
theorem path_ind {gs : List Grp} (ht : TreeP gs) {Q : Int → Prop} (h0 : Q 0) (hs : ∀ h : Int, usedD gs h = true → h ≠ 0 → Q (gi gs h).parent → Q h) : ∀ h : Int, usedD gs h = true → Q h := by
  have key : ∀ (n : Nat) (h : Int), usedD gs h = true → dep 3 gs h ≤ n → Q h := by
    intro n
    induction n with
    | zero =>
      intro h hu hd
      by_cases hz : h = 0
      · subst hz; exact h0
      · obtain ⟨_, _, _, d, e, _⟩ := climb ht hu hz
        omega
    | succ n ih =>
      intro h hu hd
      by_cases hz : h = 0
      · subst hz; exact h0
      · obtain ⟨hp, _, _, d, e, e2, _⟩ := climb ht hu hz
        exact hs h hu hz (ih _ hp (by omega))
  intro h hu
  have := dep_range gs 3 h
  exact key 3 h hu (by omega)
theorem path_par {gs : List Grp} (ht : TreeP gs) {h : Int} (hu : usedD gs h = true) : pathW gs h ++ [0] = h :: (pathW gs h).map fun x => (gi gs x).parent := by
  refine path_ind ht (Q := fun h => pathW gs h ++ [0] = h :: (pathW gs h).map fun x => (gi gs x).parent) (by simp [pathW, path_root]) (fun h hu hz ih => ?_) h hu
  rw [path_step ht hu hz, List.cons_append, ih, List.map_cons]
def pinD (gs : List Grp) (g u : Int) : Int := (pathW gs g ++ [0]).foldl (fun s x => mAnd s (gi gs x).cpus) u
def spinD (gs : List Grp) (g : Int) : Int := (pathW gs g).foldl (fun s x => mAnd s (gi gs (gi gs x).parent).cpus) (gi gs g).cpus
theorem fold_and (f : Int → Int) : ∀ (l : List Int) (m u : Int), mAnd (l.foldl (fun s x => mAnd s (f x)) m) u = l.foldl (fun s x => mAnd s (f x)) (mAnd u m)
  | [], m, u => mAnd_comm m u
  | x :: l, m, u => by
    simp only [List.foldl_cons]
    rw [fold_and f l, mAnd_assoc]
theorem spin_pin {gs : List Grp} (ht : TreeP gs) {g u : Int} (hu : usedD gs g = true) : mAnd (spinD gs g) u = pinD gs g u := by
  unfold spinD pinD
  rw [path_par ht hu, List.foldl_cons, List.foldl_map, fold_and (fun x => (gi gs (gi gs x).parent).cpus)]
theorem pin_sub {gs : List Grp} {g u c : Int} (h : mHas (pinD gs g u) c = true) : mHas u c = true := by
  unfold pinD at h
  revert h
  generalize pathW gs g ++ [0] = l
  induction l generalizing u with
  | nil => exact fun h => h
  | cons x l ih =>
    intro h
    rw [List.foldl_cons] at h
    exact (mHas_and (ih h)).1
def whereD (W : Wld) (g mask : Int) : Int :=
  if mAnd mask (pinD W.groups g (upsD W.cpus)) ≠ 0 then mAnd mask (pinD W.groups g (upsD W.cpus)) else if pinD W.groups g (upsD W.cpus) ≠ 0 then pinD W.groups g (upsD W.cpus) else upsD W.cpus
theorem where_sub {W : Wld} {g mask c : Int} (h : mHas (whereD W g mask) c = true) : mHas (upsD W.cpus) c = true := by
  unfold whereD at h
  split at h
  · exact pin_sub (mHas_and h).2
  · split at h
    · exact pin_sub h
    · exact h

/-! ### Sums and searches -/
def sumI (l : List Int) : Nat → Int
  | 0 => 0
  | k + 1 => sumI l k + gi l (k : Int)
def anyB (p : Nat → Bool) : Nat → Bool
  | 0 => false
  | k + 1 => anyB p k || p k
theorem anyB_t {p : Nat → Bool} : ∀ {n : Nat}, anyB p n = true ↔ ∃ j, j < n ∧ p j = true
  | 0 => by simp [anyB]
  | n + 1 => by
    simp only [anyB, Bool.or_eq_true, anyB_t (n := n)]
    constructor
    · rintro (⟨j, hj, h⟩ | h)
      · exact ⟨j, by omega, h⟩
      · exact ⟨n, by omega, h⟩
    · rintro ⟨j, hj, h⟩
      by_cases hjn : j = n
      · subst hjn; exact .inr h
      · exact .inl ⟨j, by omega, h⟩
theorem anyB_f {p : Nat → Bool} {n : Nat} (h : ∀ j, j < n → p j = false) : anyB p n = false := by
  cases ha : anyB p n with
  | false => rfl
  | true =>
    obtain ⟨j, hj, hp⟩ := anyB_t.1 ha
    rw [h j hj] at hp; cases hp
theorem anyB_ff {p : Nat → Bool} {n : Nat} (h : anyB p n = false) {j : Nat} (hj : j < n) : p j = false := by
  cases hp : p j with
  | false => rfl
  | true => rw [anyB_t.2 ⟨j, hj, hp⟩] at h; cases h

/-! ### A valid world -/
noncomputable def decB (P : Prop) : Bool := @decide P (Classical.propDecidable P)
theorem decB_t {P : Prop} : decB P = true ↔ P := @decide_eq_true_iff P (Classical.propDecidable P)
theorem decB_f {P : Prop} : decB P = false ↔ ¬ P := by
  constructor
  · intro h hp
    rw [decB_t.2 hp] at h; cases h
  · intro h
    cases hb : decB P with
    | false => rfl
    | true => exact absurd (decB_t.1 hb) h
theorem boolP {b : Bool} {P : Prop} (h : b = true ↔ P) : Value.bool b = .bool (decB P) := by
  have : b = decB P := by
    cases hb : decB P with
    | true => exact h.2 (decB_t.1 hb)
    | false =>
      cases hc : b with
      | false => rfl
      | true => exact absurd (h.1 hc) (decB_f.1 hb)
  rw [this]
theorem noP {P : Prop} (h : ¬ P) : Value.bool false = .bool (decB P) := by rw [decB_f.2 h]
theorem yesP {P : Prop} (h : P) : Value.bool true = .bool (decB P) := by rw [decB_t.2 h]
def tkk (W : Wld) (t : Int) : Tsk := gi W.tasks t
def shf (W : Wld) (g c : Int) : Shf := gi (gi W.groups g).shelves c
def tmOk (v : Int) : Bool := inB v 0 100000000000000000
theorem tmOk_t {v : Int} : tmOk v = true ↔ 0 ≤ v ∧ v ≤ 100000000000000000 := inB_t
def noBand (b : Bnd) : Bool := ((((b.quota == 0) && (b.pool == 0)) && (b.spent == 0)) && (((b.locals.length : Nat) : Int) == 0)) && (((b.dry.length : Nat) : Int) == 0)
structure BndP (b : Bnd) : Prop where
  q1 : 1 ≤ b.quota
  q2 : b.quota ≤ 10000
  l1 : 1 ≤ b.locals.length
  l2 : b.locals.length ≤ 4
  dl : b.dry.length = b.locals.length
  p1 : 0 ≤ b.pool
  p2 : b.pool ≤ b.quota
  s1 : 0 ≤ b.spent
  s2 : b.spent ≤ b.quota
  each : ∀ c : Int, 0 ≤ c → c < (b.locals.length : Int) → 0 ≤ gi b.locals c ∧ gi b.locals c ≤ b.quota ∧ (gi b.dry c = true → gi b.locals c = 0 ∧ b.pool = 0)
  sum : b.pool + b.spent + sumI b.locals b.locals.length = b.quota
structure GrpU (W : Wld) (k : Int) (g : Grp) : Prop where
  w1 : 1 ≤ g.weight
  w2 : g.weight ≤ 20
  m : mOk g.cpus = true
  m0 : g.cpus ≠ 0
  s : tmOk g.sum = true
  len : g.shelves.length = W.cpus.length
  root : k = 0 → g.weight = 10 ∧ g.cpus = 15 ∧ g.band.quota = 0
  none : g.band.quota = 0 → noBand g.band = true ∧ g.period = 0 ∧ g.next = 0
  band : g.band.quota ≠ 0 → BndP g.band ∧ g.band.locals.length = W.cpus.length ∧ 1 ≤ g.period ∧ g.period ≤ 1000 ∧ W.now < g.next ∧ g.next - W.now ≤ g.period
structure GrpN (g : Grp) : Prop where
  p : g.parent = 0
  n : g.name = ⟨[].toArray⟩
  w : g.weight = 0
  c : g.cpus = 0
  pe : g.period = 0
  ne : g.next = 0
  s : g.sum = 0
  l : g.shelves.length = 0
  b : noBand g.band = true
def GrpP (W : Wld) (k : Int) : Prop := ((gi W.groups k).used = false → GrpN (gi W.groups k)) ∧ ((gi W.groups k).used = true → GrpU W k (gi W.groups k))
/-- What may be read of a world. -/
structure WA (W : Wld) : Prop where
  n1 : 0 ≤ W.now
  n2 : W.now ≤ 100000000000000000
  c1 : 1 ≤ W.cpus.length
  c2 : W.cpus.length ≤ 4
  t : W.tasks.length = 12
  tree : TreeP W.groups
  ups : upsD W.cpus ≠ 0
  grp : ∀ k : Int, 0 ≤ k → k < 8 → GrpP W k
def dryD (W : Wld) (g c : Int) : Bool := decide ((gi W.groups g).band.quota > 0) && gi (gi W.groups g).band.dry c
def actT (W : Wld) (g c : Int) (j : Nat) : Bool := (((gi W.tasks (j : Int)).state == 1) && ((gi W.tasks (j : Int)).group == g)) && ((gi W.tasks (j : Int)).cpu == c)
def actG (W : Wld) (g c : Int) (j : Nat) : Bool := (decide (1 ≤ j) && ((gi W.groups (j : Int)).used && ((gi W.groups (j : Int)).parent == g))) && (shf W (j : Int) c).on
def activeD (W : Wld) (g c : Int) : Bool := anyB (actT W g c) W.tasks.length || anyB (actG W g c) W.groups.length
def lineG (W : Wld) (g c : Int) : Bool := (pathW W.groups g).all fun x => (shf W x c).on
def lineD (W : Wld) (t : Int) : Bool := ((tkk W t).state == 1) && lineG W (tkk W t).group (tkk W t).cpu
def standW (v f k : Int) : Bool := decide (v ≥ f) && decide (IntKind.i64.wrap (v - f) ≤ lagMost k)
def stayG (W : Wld) (g c ran : Int) : Bool := (pathW W.groups g).all fun x => decide ((shf W x c).v - (shf W (gi W.groups x).parent c).floor ≤ vstep ran (shf W x c).w)
def stayD (W : Wld) (c : Int) : Bool :=
  decide ((tkk W (gi W.cpus c).cur).v - (shf W (tkk W (gi W.cpus c).cur).group c).floor ≤ vstep (gi W.cpus c).ran (weightOf (tkk W (gi W.cpus c).cur).nice)) && stayG W (tkk W (gi W.cpus c).cur).group c (gi W.cpus c).ran
def zeroT : Tsk := ⟨0, 0, 0, 0, 0, 0, 0, 0, 0⟩
structure TskU (W : Wld) (x : Tsk) : Prop where
  st : x.state = 1 ∨ x.state = 2
  g : usedD W.groups x.group = true
  n : weightOf x.nice ≠ 0
  m : mOk x.mask = true
  m0 : x.mask ≠ 0
  v : tmOk x.v = true
  s : tmOk x.sum = true
  u : tmOk x.used = true
  l1 : 0 ≤ x.load
  l2 : x.load ≤ 8000000
  c : mHas (whereD W x.group x.mask) x.cpu = true
  f : x.state = 1 → standW x.v (shf W x.group x.cpu).floor (weightOf x.nice) = true
def TskP (W : Wld) (t : Int) : Prop := (tkk W t).state = 0 ∧ tkk W t = zeroT ∨ (tkk W t).state ≠ 0 ∧ TskU W (tkk W t)
structure ShfP (W : Wld) (k c : Int) : Prop where
  f : tmOk (shf W k c).floor = true
  v : tmOk (shf W k c).v = true
  s : tmOk (shf W k c).sum = true
  w1 : 1 ≤ (shf W k c).w
  w2 : (shf W k c).w ≤ 20
  root : k = 0 → (shf W k c).on = false ∧ (shf W k c).v = 0 ∧ (shf W k c).w = 10
  on : k ≠ 0 → (shf W k c).on = (activeD W k c && !dryD W k c)
  st : k ≠ 0 → (shf W k c).on = true → standW (shf W k c).v (shf W (gi W.groups k).parent c).floor (shf W k c).w = true
structure CpuP (W : Wld) (c : Int) : Prop where
  b : tmOk (gi W.cpus c).busy = true
  i : tmOk (gi W.cpus c).idle = true
  c1 : -1 ≤ (gi W.cpus c).cur
  c2 : (gi W.cpus c).cur < (W.tasks.length : Int)
  no : (gi W.cpus c).cur < 0 → (gi W.cpus c).ran = 0
  yes : 0 ≤ (gi W.cpus c).cur → (gi W.cpus c).up = true ∧ 1 ≤ (gi W.cpus c).ran ∧ (gi W.cpus c).ran ≤ 149 ∧ (tkk W (gi W.cpus c).cur).cpu = c ∧ lineD W (gi W.cpus c).cur = true ∧ stayD W c = true
structure WldP (W : Wld) : Prop where
  a : WA W
  t : ∀ t : Int, 0 ≤ t → t < 12 → TskP W t
  s : ∀ k c : Int, 0 ≤ k → k < 8 → 0 ≤ c → c < ((gi W.groups k).shelves.length : Int) → ShfP W k c
  c : ∀ c : Int, 0 ≤ c → c < (W.cpus.length : Int) → CpuP W c
noncomputable def worldB (W : Wld) : Bool := decB (WldP W)

/-! ### What follows -/
section
variable {W : Wld}
theorem WA.gl (h : WA W) : W.groups.length = 8 := h.tree.len
theorem WA.u (h : WA W) {g : Int} (hu : usedD W.groups g = true) : 0 ≤ g ∧ g < 8 ∧ GrpU W g (gi W.groups g) := by
  obtain ⟨a, b, c⟩ := usedD_iff.1 hu
  have := h.gl
  exact ⟨a, by omega, (h.grp g a (by omega)).2 c⟩
theorem WA.root (h : WA W) : usedD W.groups 0 = true := usedD_iff.2 ⟨by decide, by have := h.gl; omega, h.tree.ru⟩
theorem WA.sl (h : WA W) {g : Int} (hu : usedD W.groups g = true) : (gi W.groups g).shelves.length = W.cpus.length := (h.u hu).2.2.len
theorem WA.up (h : WA W) {g : Int} (hu : usedD W.groups g = true) (hz : g ≠ 0) : usedD W.groups (gi W.groups g).parent = true := (climb h.tree hu hz).1
theorem WA.dl (h : WA W) {g : Int} (hu : usedD W.groups g = true) (hq : (gi W.groups g).band.quota ≠ 0) : (gi W.groups g).band.dry.length = W.cpus.length ∧ (gi W.groups g).band.locals.length = W.cpus.length := by
  have hb := (h.u hu).2.2.band hq
  exact ⟨by rw [hb.1.dl, hb.2.1], hb.2.1⟩
end
end Go.Proofs.YthojnihahmlboaaGreat
