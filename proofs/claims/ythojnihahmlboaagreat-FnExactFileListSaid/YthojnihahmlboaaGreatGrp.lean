/- Groups: the mirror functions; groups of one's own. -/
import Derived.Test.YthojnihahmlboaaGreatMirG
namespace Go.Proofs.YthojnihahmlboaaGreat
open Go.RowKit
set_option linter.unusedVariables false
set_option linter.unusedSimpArgs false
set_option maxRecDepth 10000

def encBd (b : Bnd) (m : MG) : List Value := [.int .i64 b.quota, .int .i64 b.pool, .int .i64 b.spent, .slice m.lO b.locals.length m.lC, .slice m.dO b.dry.length m.dC]
structure SmG (g : Grp) : Prop where
  nm : g.name.size ≤ 1048576
  lo : g.band.locals.length ≤ 1048576
  dr : g.band.dry.length ≤ 1048576
  sh : g.shelves.length ≤ 1048576
def szBd (b : Bnd) (left : Int) : Int := if szN b.locals.length left < 0 then -1 else if szN b.dry.length (szN b.locals.length left) < 0 then -1 else szN b.dry.length (szN b.locals.length left)
theorem szN_le {n : Nat} {left : Int} (h : 0 ≤ left) : szN n left ≤ left := by unfold szN; split <;> omega
theorem k_szBand {b : Bnd} {m : MG} {left : Int} {w : World} {bs : List Nat} (h1 : b.locals.length ≤ maxLen) (h2 : b.dry.length ≤ maxLen) (hl : 0 ≤ left) (hl2 : left ≤ 1048576) : PureX bs Tryz.prog fn_laws_szBand #[.agg (encBd b m).toArray, .int .i64 left] w (.int .i64 (szBd b left)) :=
  p_laws_szBand b.quota b.pool b.spent m.lO b.locals.length m.lC m.dO b.dry.length m.dC left fun wr hx => by
    intro _ _
    have hn := szN_le (n := b.locals.length) hl
    refine ⟨_, k_szIntS h1 hl hl2, fun h => ?_, fun h => ?_⟩
    · have h := of_decide_eq_true h
      rw [szBd, if_pos h]
    · have h := of_decide_eq_false h
      refine ⟨_, k_szBoolS h2 (by omega) (by omega), fun h' => ?_, fun h' => ?_⟩
      · rw [szBd, if_neg h, if_pos (of_decide_eq_true h')]
      · rw [szBd, if_neg h, if_neg (of_decide_eq_false h')]
theorem szBd_nn {b : Bnd} {left : Int} (hl : 0 ≤ left) (h : 0 ≤ szBd b left) : szBd b left ≤ left ∧ (b.locals.length : Int) ≤ left ∧ (b.dry.length : Int) ≤ left := by
  unfold szBd at h ⊢
  split at h
  · omega
  · split at h
    · omega
    · rename_i h1 h2
      rw [if_neg h1, if_neg h2]
      have a := szN_nn (n := b.locals.length) (left := left) (by omega)
      have c := szN_nn (n := b.dry.length) h
      omega
def szGp (g : Grp) (left : Int) : Int :=
  if left - (g.name.size : Int) < 0 then -1 else if szBd g.band (left - (g.name.size : Int)) < 0 then -1 else if szN g.shelves.length (szBd g.band (left - (g.name.size : Int))) < 0 then -1 else szN g.shelves.length (szBd g.band (left - (g.name.size : Int)))
theorem szGp_nn {g : Grp} {left : Int} (hl2 : left ≤ 1048576) (h : 0 ≤ szGp g left) : szGp g left ≤ left ∧ SmG g := by
  unfold szGp at h ⊢
  split at h
  · omega
  · split at h
    · omega
    · split at h
      · omega
      · rename_i h1 h2 h3
        rw [if_neg h1, if_neg h2, if_neg h3]
        have hb := szBd_nn (b := g.band) (left := left - (g.name.size : Int)) (by omega) (by omega)
        have hs := szN_nn h
        exact ⟨by omega, by omega, by omega, by omega, by omega⟩
theorem k_szGroup {g : Grp} {m : MG} {left : Int} {w : World} {bs : List Nat} (hf : FitG g) (hl : 0 ≤ left) (hl2 : left ≤ 1048576) :
    PureX bs Tryz.prog fn_laws_szGroup #[.agg (encG g m).toArray, .int .i64 left] w (.int .i64 (szGp g left)) :=
  p_laws_szGroup g.used g.parent g.name g.weight g.cpus g.period g.next g.sum g.band.quota g.band.pool g.band.spent m.lO g.band.locals.length m.lC m.dO g.band.dry.length m.dC m.sO g.shelves.length m.sC left fun wr hx => by
    have hm := maxLen_le
    have hnm := hf.nm
    intro _ _
    refine ⟨⟨by omega, by omega⟩, fun h => by rw [szGp, if_pos (of_decide_eq_true h)], fun h => ?_⟩
    have h := of_decide_eq_false h
    refine ⟨_, k_szBand (m := m) hf.lo hf.dr (by omega) (by omega), fun h2 => by rw [szGp, if_neg h, if_pos (of_decide_eq_true h2)], fun h2 => ?_⟩
    have h2 := of_decide_eq_false h2
    have hb := szBd_nn (b := g.band) (left := left - (g.name.size : Int)) (by omega) (by omega)
    exact ⟨_, k_szShelfS hf.sh (by omega) (by omega), fun h3 => by rw [szGp, if_neg h, if_neg h2, if_pos (of_decide_eq_true h3)], fun h3 => by rw [szGp, if_neg h, if_neg h2, if_neg (of_decide_eq_false h3)]⟩
def szGs : List Grp → Int → Int
  | [], x => x
  | g :: r, x => if szGp g x < 0 then -1 else szGs r (szGp g x)
theorem szGs_nn : ∀ {gs : List Grp} {x : Int}, x ≤ 1048576 → 0 ≤ szGs gs x → szGs gs x ≤ x ∧ ∀ g ∈ gs, SmG g
  | [], x, _, h => ⟨Int.le_refl _, fun g hg => by cases hg⟩
  | g :: r, x, hx, h => by
    simp only [szGs] at h ⊢
    split at h
    · omega
    · rename_i h1
      rw [if_neg h1]
      obtain ⟨a, b⟩ := szGp_nn (g := g) hx (by omega)
      obtain ⟨c, d⟩ := szGs_nn (gs := r) (x := szGp g x) (by omega) h
      exact ⟨by omega, fun y hy => by
        rcases List.mem_cons.1 hy with rfl | hy
        · exact b
        · exact d y hy⟩
def szGS (gs : List Grp) (left : Int) : Int := if left - (gs.length : Int) < 0 then -1 else szGs gs (left - (gs.length : Int))
theorem szGS_nn {gs : List Grp} {left : Int} (hl2 : left ≤ 1048576) (h : 0 ≤ szGS gs left) : szGS gs left ≤ left ∧ gs.length ≤ 1048576 ∧ ∀ i : Int, 0 ≤ i → i < (gs.length : Int) → SmG (gi gs i) := by
  unfold szGS at h ⊢
  split at h
  · omega
  · rename_i h1
    rw [if_neg h1]
    obtain ⟨a, b⟩ := szGs_nn (gs := gs) (x := left - (gs.length : Int)) (by omega) h
    exact ⟨by omega, by omega, fun i h0 hi => b _ (gi_mem h0 hi)⟩
theorem k_szGroupS {gs : List Grp} {ms : Nat → MG} {o : Option Addr} {c : Nat} {left : Int} {w : World} (h : RdG [] w o gs ms) (hf : ∀ i : Int, 0 ≤ i → i < (gs.length : Int) → FitG (gi gs i)) (hl : 0 ≤ left) (hl2 : left ≤ 1048576) (hm : gs.length ≤ maxLen) :
    PureX [] Tryz.prog fn_laws_szGroupS #[.slice o gs.length c, .int .i64 left] w (.int .i64 (szGS gs left)) :=
  p_laws_szGroupS o gs.length c left fun wr hx => by
    have hml := maxLen_le
    have h := h.ext hx
    refine ⟨⟨by omega, by omega⟩, fun h1 => by rw [szGS, if_pos (of_decide_eq_true h1)], fun h1 => ?_⟩
    have h1 := of_decide_eq_false h1
    refine loop2 gs.length 0 rfl (fun x k => k ≤ gs.length ∧ 0 ≤ x ∧ x ≤ left ∧ szGs (gs.drop k) x = szGS gs left) ⟨Nat.zero_le _, by omega, by omega, by rw [szGS, if_neg h1]; rfl⟩ fun x k ⟨hk, hx0, hx1, he⟩ => ⟨fun hlt => ?_, fun hge => ?_⟩
    · have hlt := of_decide_eq_true hlt
      have hd : gs.drop k = gi gs (k : Int) :: gs.drop (k + 1) := by rw [List.drop_eq_getElem_cons (by omega), gi_lt (by omega)]
      rw [hd] at he
      simp only [szGs] at he
      refine ⟨h.ix (by omega) hlt, _, _, _, _, _, _, _, _, _, _, _, _, _, _, _, _, _, _, _, _, h.cells k (by omega) hlt, _, k_szGroup (m := ms k) (hf k (by omega) hlt) hx0 (by omega), fun h2 => ?_, fun h2 => ?_⟩
      · rw [if_pos (of_decide_eq_true h2)] at he
        rw [← he]
      · have h2 := of_decide_eq_false h2
        rw [if_neg h2] at he
        have := (szGp_nn (g := gi gs (k : Int)) (left := x) (by omega) (by omega)).1
        exact ⟨inR_nat hlt hm, loop2_next (by omega) ⟨by omega, by omega, by omega, he⟩⟩
    · have hge := of_decide_eq_false hge
      have hk : k = gs.length := by omega
      subst hk
      rw [List.drop_length] at he
      rw [← he]; rfl

/-! ### eq -/
theorem strEq_iff {a b : ByteArray} : strEq a b = true ↔ a = b := by
  unfold strEq
  rw [beq_iff_eq]
  constructor
  · intro h
    have h1 : ∀ x : ByteArray, x.toList = x.data.toList := fun x => by
      have key : ∀ (n i : Nat) (r : List UInt8), n = x.size - i → ByteArray.toList.loop x i r = r.reverse ++ x.data.toList.drop i := by
        intro n
        induction n with
        | zero =>
          intro i r hn
          unfold ByteArray.toList.loop
          rw [if_neg (by omega), List.drop_eq_nil_iff.2 (by simp only [Array.length_toList]; show x.size ≤ i; omega), List.append_nil]
        | succ n ih =>
          intro i r hn
          unfold ByteArray.toList.loop
          have hi : i < x.data.toList.length := by simp only [Array.length_toList]; show i < x.size; omega
          rw [if_pos (by omega), ih (i + 1) _ (by omega), List.reverse_cons, List.append_assoc, List.singleton_append, List.drop_eq_getElem_cons hi]
          have : x.get! i = x.data.toList[i] := by
            have hi' : i < x.data.size := by simpa using hi
            simp [ByteArray.get!, getElem!_pos x.data i hi']
          rw [this]
      have := key _ 0 [] rfl
      simpa [ByteArray.toList] using this
    rw [h1, h1] at h
    cases a; cases b
    simp only at h
    congr 1
    exact Array.ext' h
  · rintro rfl; rfl
theorem strEq_eq (a b : ByteArray) : strEq a b = decide (a = b) := by
  cases h : strEq a b with
  | true => rw [decide_eq_true (strEq_iff.1 h)]
  | false => rw [decide_eq_false fun e => by rw [strEq_iff.2 e] at h; cases h]
theorem k_eqBand {a b : Bnd} {m n : MG} {w : World} {bs : List Nat} (h1 : RdI bs w m.lO a.locals) (h2 : RdB bs w m.dO a.dry) (k1 : RdI bs w n.lO b.locals) (k2 : RdB bs w n.dO b.dry) (l1 : a.locals.length ≤ maxLen) (l2 : a.dry.length ≤ maxLen) :
    PureX bs Tryz.prog fn_laws_eqBand #[.agg (encBd a m).toArray, .agg (encBd b n).toArray] w (.bool (decide (a = b))) :=
  p_laws_eqBand a.quota a.pool a.spent m.lO a.locals.length m.lC m.dO a.dry.length m.dC b.quota b.pool b.spent n.lO b.locals.length n.lC n.dO b.dry.length n.dC fun wr hx => by
    have h1 := (h1.ext hx).less (cs := []) (by simp)
    have h2 := (h2.ext hx).less (cs := []) (by simp)
    have k1 := (k1.ext hx).less (cs := []) (by simp)
    have k2 := (k2.ext hx).less (cs := []) (by simp)
    cases a; cases b
    intro _ _ _ _
    refine ⟨fun q => ?_, fun q1 => ⟨fun q => ?_, fun q2 => ⟨fun q => ?_, fun q3 => ⟨_, k_eqIntS h1 k1 l1, fun q => ?_, fun q4 => ⟨_, k_eqBoolS h2 k2 l2, fun q => ?_, fun q5 => ?_⟩⟩⟩⟩⟩ <;> (congr 1; simp_all)
theorem k_eqGroup {a b : Grp} {m n : MG} {w : World} {bs : List Nat} (h1 : RdI bs w m.lO a.band.locals) (h2 : RdB bs w m.dO a.band.dry) (h3 : RdS bs w m.sO a.shelves) (k1 : RdI bs w n.lO b.band.locals) (k2 : RdB bs w n.dO b.band.dry) (k3 : RdS bs w n.sO b.shelves)
    (l1 : a.band.locals.length ≤ maxLen) (l2 : a.band.dry.length ≤ maxLen) (l3 : a.shelves.length ≤ maxLen) :
    PureX bs Tryz.prog fn_laws_eqGroup #[.agg (encG a m).toArray, .agg (encG b n).toArray] w (.bool (decide (a = b))) :=
  p_laws_eqGroup a.used a.parent a.name a.weight a.cpus a.period a.next a.sum a.band.quota a.band.pool a.band.spent m.lO a.band.locals.length m.lC m.dO a.band.dry.length m.dC m.sO a.shelves.length m.sC
    b.used b.parent b.name b.weight b.cpus b.period b.next b.sum b.band.quota b.band.pool b.band.spent n.lO b.band.locals.length n.lC n.dO b.band.dry.length n.dC n.sO b.shelves.length n.sC fun wr hx => by
    have h1 := (h1.ext hx).less (cs := []) (by simp)
    have h2 := (h2.ext hx).less (cs := []) (by simp)
    have h3 := (h3.ext hx).less (cs := []) (by simp)
    have k1 := (k1.ext hx).less (cs := []) (by simp)
    have k2 := (k2.ext hx).less (cs := []) (by simp)
    have k3 := (k3.ext hx).less (cs := []) (by simp)
    cases a; cases b
    intro _ _ _ _
    simp only [strEq_eq]
    refine ⟨fun q => ?_, fun q1 => ⟨fun q => ?_, fun q2 => ⟨fun q => ?_, fun q3 => ⟨fun q => ?_, fun q4 => ⟨fun q => ?_, fun q5 => ⟨fun q => ?_, fun q6 => ⟨fun q => ?_, fun q7 => ⟨fun q => ?_, fun q8 => ⟨_, k_eqBand h1 h2 k1 k2 l1 l2, fun q => ?_, fun q9 => ⟨_, k_eqShelfS h3 k3 l3, fun q => ?_, fun q10 => ?_⟩⟩⟩⟩⟩⟩⟩⟩⟩⟩ <;> (congr 1; simp_all)
theorem k_eqGroupS {a b : List Grp} {am bm : Nat → MG} {aO bO : Option Addr} {aC bC : Nat} {w : World} {bs : List Nat} (ha : RdG bs w aO a am) (hb : RdG bs w bO b bm) (hs : ∀ i : Int, 0 ≤ i → i < (a.length : Int) → SmG (gi a i)) (ha9 : a.length ≤ maxLen) :
    PureX bs Tryz.prog fn_laws_eqGroupS #[.slice aO a.length aC, .slice bO b.length bC] w (.bool (decide (a = b))) :=
  p_laws_eqGroupS aO a.length aC bO b.length bC fun wr hx => by
    have ha := (ha.ext hx).less (cs := []) (by simp)
    have hb := (hb.ext hx).less (cs := []) (by simp)
    have hm := maxLen_big
    refine ⟨fun h => ?_, fun h => ?_⟩
    · have h : a.length ≠ b.length := by simpa [Int.ofNat_inj] using h
      rw [decide_eq_false fun e => h (by rw [e])]
    · have hl : a.length = b.length := by simpa [Int.ofNat_inj] using h
      refine loop1 a.length 0 rfl (fun k => k ≤ a.length ∧ ∀ j : Nat, j < k → gi a (j : Int) = gi b (j : Int)) ⟨Nat.zero_le _, fun j hj => absurd hj (Nat.not_lt_zero j)⟩ fun k ⟨hk, hI⟩ => ⟨fun hlt => ?_, fun hge => ?_⟩
      · have hlt := of_decide_eq_true hlt
        have h9 := hs k (by omega) hlt
        have hlt' : (k : Int) < (b.length : Int) := by omega
        refine ⟨ha.ix (by omega) hlt, _, _, _, _, _, _, _, _, _, _, _, _, _, _, _, _, _, _, _, _, ha.cells k (by omega) hlt, hb.ix (by omega) hlt', _, _, _, _, _, _, _, _, _, _, _, _, _, _, _, _, _, _, _, _, hb.cells k (by omega) hlt', _,
          k_eqGroup (a := gi a k) (b := gi b k) (ha.locals k (by omega) hlt) (ha.dry k (by omega) hlt) (ha.shelves k (by omega) hlt) (hb.locals k (by omega) hlt') (hb.dry k (by omega) hlt') (hb.shelves k (by omega) hlt') (by have := h9.lo; omega) (by have := h9.dr; omega) (by have := h9.sh; omega), fun hne => ?_, fun heq => ⟨inR_nat hlt ha9, loop1_next (by omega) ?_⟩⟩
        · have hne : gi a (k : Int) ≠ gi b (k : Int) := by simpa using hne
          rw [decide_eq_false fun e => hne (by rw [e])]
        · have heq : gi a (k : Int) = gi b (k : Int) := by simpa using heq
          exact ⟨by omega, fun j hj => by
            by_cases hjk : j < k
            · exact hI j hjk
            · have : j = k := by omega
              subst this; exact heq⟩
      · have hge := of_decide_eq_false hge
        have hk : k = a.length := by omega
        subst hk
        rw [decide_eq_true (gi_ext hl hI)]

/-! ### Groups of one's own -/
def encP (p : Grp × MG) : List Value := encG p.1 p.2
def zeroG : Grp × MG := (⟨false, 0, ByteArray.empty, 0, 0, 0, 0, 0, ⟨0, 0, 0, [], []⟩, []⟩, ⟨none, 0, none, 0, none, 0⟩)
theorem elt_Group : Elt Tryz.prog encP 14 ty_impl_Group 168 zeroG := elt_of (by kernel_rfl) fun _ => rfl
theorem u_sl_impl_Group : Tryz.prog.underlying ty_sl_impl_Group = some (.slice ty_impl_Group) := by kernel_rfl
theorem encP_c (x : Grp × MG) : ∃ v r, encP x = v :: r := ⟨_, _, rfl⟩
def grpBlks (m : MG) : List Nat := blkOf m.lO ++ blkOf m.dO ++ blkOf m.sO
/-- A group's own slices. -/
structure OwnM (base : Nat) (w : World) (p : Grp × MG) : Prop where
  loc : Own encI 1 ty_int base w p.2.lO p.2.lC p.1.band.locals
  dry : Own encB 1 ty_bool base w p.2.dO p.2.dC p.1.band.dry
  shl : Own encS 5 ty_impl_Shelf base w p.2.sO p.2.sC p.1.shelves
theorem OwnM.ext {base : Nat} {w w' : World} {p : Grp × MG} {bs : List Nat} (h : OwnM base w p) (hx : ExtX bs w w') (hd : ∀ b ∈ grpBlks p.2, b ∉ bs) : OwnM base w' p :=
  ⟨h.loc.ext hx fun b hb => hd b (by simp [grpBlks, hb]), h.dry.ext hx fun b hb => hd b (by simp [grpBlks, hb]), h.shl.ext hx fun b hb => hd b (by simp [grpBlks, hb])⟩
theorem OwnM.ext0 {base : Nat} {w w' : World} {p : Grp × MG} (h : OwnM base w p) (hx : ExtX [] w w') : OwnM base w' p := h.ext hx (by simp)
theorem OwnM.mono {base base' : Nat} {w : World} {p : Grp × MG} (h : OwnM base w p) (hb : base' ≤ base) : OwnM base' w p := ⟨h.loc.mono hb, h.dry.mono hb, h.shl.mono hb⟩
theorem OwnM.lt {base : Nat} {w : World} {p : Grp × MG} (h : OwnM base w p) : ∀ b ∈ grpBlks p.2, base ≤ b ∧ b < w.heap.size := by
  intro b hb
  simp only [grpBlks, List.mem_append] at hb
  rcases hb with (hb | hb) | hb
  · exact h.loc.lt b hb
  · exact h.dry.lt b hb
  · exact h.shl.lt b hb
theorem OwnM.zero (base : Nat) (w : World) : OwnM base w zeroG := ⟨.inl ⟨rfl, rfl, rfl⟩, .inl ⟨rfl, rfl, rfl⟩, .inl ⟨rfl, rfl, rfl⟩⟩
structure OwnG (base : Nat) (w : World) (o : Option Addr) (cap : Nat) (ps : List (Grp × MG)) : Prop where
  row : Own encP 14 ty_impl_Group base w o cap ps
  each : ∀ i : Int, 0 ≤ i → i < (ps.length : Int) → OwnM base w (gi ps i)
  dj : ∀ i j : Int, 0 ≤ i → i < (ps.length : Int) → 0 ≤ j → j < (ps.length : Int) → i ≠ j → ∀ b ∈ grpBlks (gi ps i).2, b ∉ grpBlks (gi ps j).2
theorem OwnG.ext0 {base : Nat} {w w' : World} {o : Option Addr} {cap : Nat} {ps : List (Grp × MG)} (h : OwnG base w o cap ps) (hx : ExtX [] w w') : OwnG base w' o cap ps :=
  ⟨h.row.ext0 hx, fun i a b => (h.each i a b).ext0 hx, h.dj⟩
theorem OwnG.mono {base base' : Nat} {w : World} {o : Option Addr} {cap : Nat} {ps : List (Grp × MG)} (h : OwnG base w o cap ps) (hb : base' ≤ base) : OwnG base' w o cap ps :=
  ⟨h.row.mono hb, fun i a b => (h.each i a b).mono hb, h.dj⟩
theorem not_own_row {base : Nat} {w : World} {o : Option Addr} {cap : Nat} {ps : List (Grp × MG)} (h : Own encP 14 ty_impl_Group base w o cap ps) {base' : Nat} {p : Grp × MG} (hp : OwnM base' w p) : ∀ b ∈ grpBlks p.2, b ∉ blkOf o := by
  intro b hb hx
  simp only [grpBlks, List.mem_append] at hb
  rcases hb with (hb | hb) | hb
  · exact hp.loc.ty_ne h (by decide) b hb hx
  · exact hp.dry.ty_ne h (by decide) b hb hx
  · exact hp.shl.ty_ne h (by decide) b hb hx
theorem OwnG.rd {base : Nat} {w : World} {o : Option Addr} {cap : Nat} {ps : List (Grp × MG)} (h : OwnG base w o cap ps) {bs : List Nat} (hb : ∀ b, base ≤ b → b < w.heap.size → b ∉ bs) : RdG bs w o (ps.map (·.1)) (fun k => (gi ps (k : Int)).2) := by
  have hr := h.row.rd elt_Group.len (bs := bs) fun b hm => hb b (h.row.lt b hm).1 (h.row.lt b hm).2
  have e : ∀ i : Int, 0 ≤ i → i < (ps.length : Int) → (((i.toNat : Nat) : Int) = i) := fun i h0 _ => by omega
  refine ⟨fun i h0 hi => ?_, fun i h0 hi => ?_, fun i h0 hi => ?_, fun i h0 hi => ?_⟩
  all_goals
    rw [List.length_map] at hi
    rw [gi_map _ _ h0 hi]
    simp only [e i h0 hi]
  · exact hr i h0 hi
  · exact (h.each i h0 hi).loc.rd elt_Int.len fun b hm => hb b ((h.each i h0 hi).loc.lt b hm).1 ((h.each i h0 hi).loc.lt b hm).2
  · exact (h.each i h0 hi).dry.rd elt_Bool.len fun b hm => hb b ((h.each i h0 hi).dry.lt b hm).1 ((h.each i h0 hi).dry.lt b hm).2
  · exact (h.each i h0 hi).shl.rd elt_Shelf.len fun b hm => hb b ((h.each i h0 hi).shl.lt b hm).1 ((h.each i h0 hi).shl.lt b hm).2
theorem OwnG.rd0 {base : Nat} {w : World} {o : Option Addr} {cap : Nat} {ps : List (Grp × MG)} (h : OwnG base w o cap ps) : RdG [] w o (ps.map (·.1)) (fun k => (gi ps (k : Int)).2) := h.rd (by simp)
/-- A whole group is put into its place. -/
theorem OwnG.put {base : Nat} {w : World} {o : Option Addr} {cap : Nat} {ps : List (Grp × MG)} (h : OwnG base w o cap ps) {i : Int} (h0 : 0 ≤ i) (hi : i < (ps.length : Int)) {p : Grp × MG} (hp : OwnM base w p)
    (hd : ∀ j : Int, 0 ≤ j → j < (ps.length : Int) → i ≠ j → ∀ b ∈ grpBlks (gi ps j).2, b ∉ grpBlks p.2) : OwnG base (sto w o (Int.toNat i * 14) (encP p)) o cap (ps.set i.toNat p) := by
  have hx := h.row.stoX (Int.toNat i * 14) (encP p)
  have hlen : (ps.set i.toNat p).length = ps.length := List.length_set
  refine ⟨?_, fun j hj hjl => ?_, fun j k hj hjl hk hkl hjk b hb hb' => ?_⟩
  · have := h.row.sto elt_Group.len h0 hi (j := 0) (vs := encP p) (x := p) (by rw [List.take_zero, List.nil_append, List.drop_eq_nil_iff.2 (by rw [Nat.zero_add, elt_Group.len, elt_Group.len]; exact Nat.le_refl _), List.append_nil]) (by rw [Nat.zero_add, elt_Group.len]; exact Nat.le_refl _)
    exact this
  · rw [hlen] at hjl
    rw [gi_set _ _ h0 hi hj]
    split
    · exact hp.ext hx (not_own_row h.row hp)
    · exact (h.each j hj hjl).ext hx (not_own_row h.row (h.each j hj hjl))
  · rw [hlen] at hjl hkl
    rw [gi_set _ _ h0 hi hj] at hb
    rw [gi_set _ _ h0 hi hk] at hb'
    by_cases e1 : i = j
    · rw [if_pos e1] at hb
      by_cases e2 : i = k
      · omega
      · rw [if_neg e2] at hb'
        exact hd k hk hkl e2 b hb' hb
    · rw [if_neg e1] at hb
      by_cases e2 : i = k
      · rw [if_pos e2] at hb'
        exact hd j hj hjl e1 b hb hb'
      · rw [if_neg e2] at hb'
        exact h.dj j k hj hjl hk hkl hjk b hb hb'
theorem k_toBand {b : Bnd} {m : MG} {w : World} (h1 : RdI [] w m.lO b.locals) (h2 : RdB [] w m.dO b.dry) (l1 : b.locals.length ≤ 1048576) (l2 : b.dry.length ≤ 1048576) :
    Calls Tryz.prog fn_laws_toBand #[.agg (encBd b m).toArray] w fun e w' => ∃ lO lC dO dC, e = .returned (.agg (encBd b ⟨lO, lC, dO, dC, none, 0⟩).toArray) ∧ Own encI 1 ty_int w.heap.size w' lO lC b.locals ∧ Own encB 1 ty_bool w.heap.size w' dO dC b.dry ∧ (∀ x ∈ blkOf lO, x ∉ blkOf dO) ∧ ExtX [] w w' := by
  refine (e_laws_toBand b.quota b.pool b.spent m.lO b.locals.length m.lC m.dO b.dry.length m.dC (R := fun v w' => ∃ lO lC dO dC, v = .agg (encBd b ⟨lO, lC, dO, dC, none, 0⟩).toArray ∧ Own encI 1 ty_int w.heap.size w' lO lC b.locals ∧ Own encB 1 ty_bool w.heap.size w' dO dC b.dry ∧ (∀ x ∈ blkOf lO, x ∉ blkOf dO) ∧ ExtX [] w w') ?_).mono fun e w' ⟨v, he, lO, lC, dO, dC, hv, h⟩ => ⟨lO, lC, dO, dC, by rw [he, hv], h⟩
  intro b0 hb0 b1 hb1 b2 hb2 wr hx hs
  refine (k_toIntS (h1.ext hx) l1).mono fun e w1 ⟨lO, lC, he, hO1, hx1⟩ => ⟨_, _, _, he, kept_of hx1 hs, fun wr1 hy1 hs1 => ?_⟩
  have hbs : ∀ x ∈ [b0, b1, b2], w.heap.size ≤ x ∨ x ∈ ([] : List Nat) := fun x hm => by
    simp only [List.mem_cons, List.not_mem_nil, or_false] at hm
    rcases hm with rfl | rfl | rfl <;> exact .inl (by assumption)
  have g1 : ExtX [] w wr1 := (hx.trans hx1).fresh hy1 hbs
  refine (k_toBoolS (h2.ext g1) l2).mono fun e w2 ⟨dO, dC, he2, hO2, hx2⟩ => ⟨_, _, _, he2, kept_of hx2 hs1, fun wr2 hy2 => ⟨lO, lC, dO, dC, rfl, ?_, ?_, ?_, (g1.trans hx2).fresh hy2 hbs⟩⟩
  · have hw : ∀ x ∈ blkOf lO, x ∉ [b0, b1, b2] := fun x hm hm' => by
      have := (hO1.lt x hm).1
      have := hs x hm'
      omega
    exact (((hO1.ext hy1 hw).ext0 hx2).ext hy2 hw).mono hx.size
  · have hw : ∀ x ∈ blkOf dO, x ∉ [b0, b1, b2] := fun x hm hm' => by
      have := (hO2.lt x hm).1
      have := hs1 x hm'
      omega
    exact (hO2.ext hy2 hw).mono g1.size
  · intro x hm hm'
    have := (hO1.lt x hm).2
    have := hy1.size
    have := (hO2.lt x hm').1
    omega
theorem k_toGroup {g : Grp} {m : MG} {w : World} (h1 : RdI [] w m.lO g.band.locals) (h2 : RdB [] w m.dO g.band.dry) (h3 : RdS [] w m.sO g.shelves) (hs : SmG g) :
    Calls Tryz.prog fn_laws_toGroup #[.agg (encG g m).toArray] w fun e w' => ∃ m', e = .returned (.agg (encG g m').toArray) ∧ OwnM w.heap.size w' (g, m') ∧ ExtX [] w w' := by
  refine (e_laws_toGroup g.used g.parent g.name g.weight g.cpus g.period g.next g.sum g.band.quota g.band.pool g.band.spent m.lO g.band.locals.length m.lC m.dO g.band.dry.length m.dC m.sO g.shelves.length m.sC (R := fun v w' => ∃ m', v = .agg (encG g m').toArray ∧ OwnM w.heap.size w' (g, m') ∧ ExtX [] w w') ?_).mono fun e w' ⟨v, he, m', hv, h⟩ => ⟨m', by rw [he, hv], h⟩
  intro b0 hb0 b1 hb1 b2 hb2 wr hx hs0
  refine (k_toBand (m := m) (h1.ext hx) (h2.ext hx) hs.lo hs.dr).mono fun e w1 ⟨lO, lC, dO, dC, he, hO1, hO2, _, hx1⟩ => ⟨_, _, _, _, _, _, _, _, _, he, kept_of hx1 hs0, fun wr1 hy1 hs1 => ?_⟩
  have hbs : ∀ x ∈ [b0, b1, b2], w.heap.size ≤ x ∨ x ∈ ([] : List Nat) := fun x hm => by
    simp only [List.mem_cons, List.not_mem_nil, or_false] at hm
    rcases hm with rfl | rfl | rfl <;> exact .inl (by assumption)
  have g1 : ExtX [] w wr1 := (hx.trans hx1).fresh hy1 hbs
  refine (k_toShelfS (h3.ext g1) hs.sh).mono fun e w2 ⟨sO, sC, he2, hO3, hx2⟩ => ⟨_, _, _, he2, kept_of hx2 hs1, fun wr2 hy2 => ⟨⟨lO, lC, dO, dC, sO, sC⟩, rfl, ⟨?_, ?_, ?_⟩, (g1.trans hx2).fresh hy2 hbs⟩⟩
  · have hw : ∀ x ∈ blkOf lO, x ∉ [b0, b1, b2] := fun x hm hm' => by
      have := (hO1.lt x hm).1
      have := hs0 x hm'
      omega
    exact (((hO1.ext hy1 hw).ext0 hx2).ext hy2 hw).mono hx.size
  · have hw : ∀ x ∈ blkOf dO, x ∉ [b0, b1, b2] := fun x hm hm' => by
      have := (hO2.lt x hm).1
      have := hs0 x hm'
      omega
    exact (((hO2.ext hy1 hw).ext0 hx2).ext hy2 hw).mono hx.size
  · have hw : ∀ x ∈ blkOf sO, x ∉ [b0, b1, b2] := fun x hm hm' => by
      have := (hO3.lt x hm).1
      have := hs1 x hm'
      omega
    exact (hO3.ext hy2 hw).mono g1.size
theorem k_toGroupS {gs : List Grp} {ms : Nat → MG} {o : Option Addr} {c : Nat} {w : World} (h : RdG [] w o gs ms) (hs : ∀ i : Int, 0 ≤ i → i < (gs.length : Int) → SmG (gi gs i)) (hl : gs.length ≤ 1048576) :
    Calls Tryz.prog fn_laws_toGroupS #[.slice o gs.length c] w fun e w' => ∃ o' c' ps, e = .returned (.slice o' gs.length c') ∧ ps.map (·.1) = gs ∧ OwnG w.heap.size w' o' c' ps ∧ ExtX [] w w' := by
  refine (e_laws_toGroupS o gs.length c (R := fun v w' => ∃ o' c' ps, v = .slice o' gs.length c' ∧ ps.map (·.1) = gs ∧ OwnG w.heap.size w' o' c' ps ∧ ExtX [] w w') ?_).mono fun e w' ⟨v, he, o', c', ps, hv, h⟩ => ⟨o', c', ps, by rw [he, hv], h⟩
  have hm := maxLen_big
  refine fun wr hx _ => ⟨_, _, _, _, run_mk elt_Group u_sl_impl_Group gs.length (by omega) (by omega) wr, kept_nil, ?_⟩
  refine loop1w gs.length 0 rfl (fun k w1 => k ≤ gs.length ∧ ExtX [] wr w1 ∧ ∃ ps : List (Grp × MG), ps.length = gs.length ∧ (∀ j : Nat, j < k → (gi ps (j : Int)).1 = gi gs (j : Int)) ∧ OwnG wr.heap.size w1 (some ⟨wr.heap.size, 0, none⟩) gs.length ps) (fun w1 hx1 _ => ⟨Nat.zero_le _, (ext_alloc wr _).trans hx1, List.replicate gs.length zeroG, by simp, fun j hj => absurd hj (Nat.not_lt_zero j), ?_⟩) fun k w1 _ ⟨hk, hX, ps, hpl, hpe, hO⟩ => ⟨fun hlt => ?_, fun hge => ?_⟩
  · have hz : ∀ i : Int, 0 ≤ i → i < ((List.replicate gs.length zeroG).length : Int) → gi (List.replicate gs.length zeroG) i = zeroG := fun i h0 hi => by
      have := gi_mem h0 hi
      exact List.eq_of_mem_replicate this
    refine ⟨(own_made (enc := encP) elt_Group.len ty_impl_Group gs.length zeroG wr).ext0 hx1, fun i h0 hi => by rw [hz i h0 hi]; exact OwnM.zero _ _, fun i j h0 hi hj hjl _ b hb => ?_⟩
    rw [hz i h0 hi] at hb
    cases hb
  · have hlt := of_decide_eq_true hlt
    have hr := (h.ext hx).ext hX
    have hi : (k : Int) < (ps.length : Int) := by omega
    refine ⟨hr.ix (by omega) hlt, _, _, _, _, _, _, _, _, _, _, _, _, _, _, _, _, _, _, _, _, hr.cells k (by omega) hlt, fun w2 hx2 _ => ?_⟩
    have hr2 := hr.ext hx2
    refine (k_toGroup (hr2.locals k (by omega) hlt) (hr2.dry k (by omega) hlt) (hr2.shelves k (by omega) hlt) (hs k (by omega) hlt)).mono fun e w3 ⟨m', he, hM, hx3⟩ => ?_
    have hO3 := hO.ext0 (hx2.trans hx3)
    have hb : wr.heap.size ≤ w2.heap.size := (hX.trans hx2).size
    have hdj : ∀ j : Int, 0 ≤ j → j < (ps.length : Int) → (k : Int) ≠ j → ∀ b ∈ grpBlks (gi ps j).2, b ∉ grpBlks m' := fun j hj hjl _ b hb hb' => by
      have h1 := ((hO.each j hj hjl).ext0 hx2).lt b hb
      have h2 := hM.lt b hb'
      omega
    have hput := hO3.put (i := (k : Int)) (by omega) hi (p := (gi gs (k : Int), m')) (hM.mono hb) hdj
    refine ⟨_, _, _, _, _, _, _, _, _, _, _, _, _, _, _, _, _, _, _, _, he, kept_nil, by have := hO.row.ix (i := (k : Int)) (by omega) hi; rwa [hpl] at this, hO3.row.wr elt_Group.len (by simp) (by omega) hi (j := 0) (n := 14) (by omega), inR_nat hlt (by omega), fun w4 hx4 _ => loop1w_next (by omega) ⟨by omega, ?_, ps.set k (gi gs (k : Int), m'), by rw [List.length_set]; exact hpl, fun j hj => ?_, hput.ext0 hx4⟩⟩
    · exact (hO3.row.stoB _ _ ((hX.trans hx2).trans hx3) (Nat.le_refl _)).trans hx4
    · have := gi_set ps (gi gs (k : Int), m') (i := (k : Int)) (by omega) hi (j := (j : Int)) (by omega)
      rw [Int.toNat_natCast] at this
      rw [this]
      by_cases hjk : (k : Int) = (j : Int)
      · have : k = j := by omega
        subst this; rw [if_pos rfl]
      · rw [if_neg hjk]; exact hpe j (by omega)
  · have hge := of_decide_eq_false hge
    have hk : k = gs.length := by omega
    subst hk
    refine fun w2 hx2 => ⟨_, _, ps, rfl, gi_ext (by simpa using hpl) fun j hj => ?_, (hO.ext0 hx2).mono hx.size, (hx.trans hX).trans hx2⟩
    rw [List.length_map] at hj
    rw [gi_map _ _ (by omega) (by omega)]
    exact hpe j (by omega)
end Go.Proofs.YthojnihahmlboaaGreat
