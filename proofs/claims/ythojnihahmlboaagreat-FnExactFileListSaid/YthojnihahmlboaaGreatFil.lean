/- Files: paths cut at their last stroke; what is in a group. -/
import Derived.Test.YthojnihahmlboaaGreatPth
import Derived.Test.YthojnihahmlboaaGreatBld
namespace Go.Proofs.YthojnihahmlboaaGreat
open Go.RowKit
set_option linter.unusedVariables false
set_option linter.unusedSimpArgs false
set_option maxRecDepth 10000

/-! ### Plain -/
/-- The last place of a byte among the first n; -1, if it is not there. -/
def lastN (c : Int) : Nat → ByteArray → Int
  | 0, _ => -1
  | n + 1, s => if (strAt s (n : Int) == c) = true then (n : Int) else lastN c n s
theorem lastN_hit {c : Int} {n : Nat} {s : ByteArray} (h : (strAt s (n : Int) == c) = true) : lastN c (n + 1) s = (n : Int) := if_pos h
theorem lastN_miss {c : Int} {n : Nat} {s : ByteArray} (h : (strAt s (n : Int) == c) = false) : lastN c (n + 1) s = lastN c n s := if_neg (by rw [h]; decide)
theorem lastN_range (c : Int) (s : ByteArray) : ∀ n : Nat, -1 ≤ lastN c n s ∧ lastN c n s < n
  | 0 => ⟨Int.le_refl _, by show (-1 : Int) < 0; decide⟩
  | n + 1 => by
    have := lastN_range c s n
    cases h : (strAt s (n : Int) == c) with
    | true => rw [lastN_hit h]; omega
    | false => rw [lastN_miss h]; omega
theorem lastN_pos {c : Int} {s : ByteArray} (h0 : (strAt s 0 == c) = true) : ∀ n : Nat, 0 ≤ lastN c (n + 1) s
  | 0 => by rw [lastN_hit (n := 0) h0]; decide
  | n + 1 => by
    cases h : (strAt s ((n + 1 : Nat) : Int) == c) with
    | true => rw [lastN_hit h]; omega
    | false => rw [lastN_miss h]; exact lastN_pos h0 n
def splitOk (p : ByteArray) : Bool := inB (p.size : Int) 1 60 && (strAt p 0 == 47)
def splitA (p : ByteArray) : ByteArray := if splitOk p = true then (if (lastN 47 p.size p == 0) = true then ⟨[47].toArray⟩ else p.extract 0 (lastN 47 p.size p).toNat) else ⟨[].toArray⟩
def splitB (p : ByteArray) : ByteArray := if splitOk p = true then p.extract (lastN 47 p.size p + 1).toNat p.size else ⟨[].toArray⟩
def splitV (p : ByteArray) : Value := .tuple #[.string (splitA p), .string (splitB p), .bool (splitOk p)]
theorem splitV_no {p : ByteArray} (h : splitOk p = false) : splitV p = .tuple #[.string ⟨[].toArray⟩, .string ⟨[].toArray⟩, .bool false] := by
  unfold splitV splitA splitB
  rw [h]; rfl
theorem splitV_zero {p : ByteArray} (h : splitOk p = true) (hk : lastN 47 p.size p = 0) : splitV p = .tuple #[.string ⟨[47].toArray⟩, .string (p.extract 1 p.size), .bool true] := by
  unfold splitV splitA splitB
  rw [h, hk]; rfl
theorem splitV_pos {p : ByteArray} {k : Int} (h : splitOk p = true) (hk : lastN 47 p.size p = k) (h0 : (k == 0) = false) : splitV p = .tuple #[.string (p.extract 0 k.toNat), .string (p.extract (k + 1).toNat p.size), .bool true] := by
  unfold splitV splitA splitB
  rw [h, hk, h0]; rfl
theorem splitOk_t {p : ByteArray} (h : splitOk p = true) : 1 ≤ p.size ∧ p.size ≤ 60 ∧ (strAt p 0 == 47) = true := by
  unfold splitOk at h
  simp only [Bool.and_eq_true] at h
  have := inB_t.1 h.1
  exact ⟨by omega, by omega, h.2⟩

/-! ### Both cut alike -/
section
variable {w : World} {bs : List Nat} {p : ByteArray}
theorem k_spec_l14Split : PureX bs Tryz.prog fn_spec_l14Split #[.string p] w (splitV p) :=
  p_spec_l14Split p fun wr hx => by
    have e : ((((decide ((p.size : Int) < 1)) || (decide ((p.size : Int) > 60))) || ((strAt p 0) != 47))) = !splitOk p := by
      unfold splitOk inB
      rw [Bool.not_and, bne]
      congr 1
      rw [Bool.not_and]
      congr 1 <;> (rw [← decide_not]; exact decide_eq_decide.2 (by omega))
    refine ⟨fun q => ?_, fun q => ?_, fun q => ?_⟩
    · simp only [Bool.or_eq_false_iff, decide_eq_false_iff_not] at q
      exact ⟨by omega, by omega⟩
    · rw [e] at q
      rw [splitV_no (by simpa using q)]
    · rw [e] at q
      have q : splitOk p = true := by simpa using q
      obtain ⟨h1, h2, h3⟩ := splitOk_t q
      refine ⟨⟨by omega, by omega⟩, fun vs => ∃ k : Nat, vs = [.int .i64 (k : Int)] ∧ k < p.size ∧ lastN 47 (k + 1) p = lastN 47 p.size p, fun vs => (ctrAt 0 vs).toNat, ⟨p.size - 1, by rw [Int.ofNat_sub h1]; rfl, by omega, by rw [show p.size - 1 + 1 = p.size by omega]⟩, ?_⟩
      rintro k' ⟨k, he, hk, hI⟩
      simp only [List.cons.injEq, Value.int.injEq, true_and, and_true] at he
      subst he
      refine ⟨⟨by omega, by omega⟩, fun hn => ?_, fun hn => ?_⟩
      · have hn' : (strAt p (k : Int) == 47) = false := by simpa [bne] using hn
        have hk0 : k ≠ 0 := fun hz => by
          subst hz
          rw [show ((0 : Nat) : Int) = 0 from rfl, h3] at hn'
          cases hn'
        refine ⟨⟨by omega, by omega⟩, ⟨k - 1, by rw [Int.ofNat_sub (by omega)]; rfl, by omega, ?_⟩, ?_⟩
        · rw [← hI, lastN_miss hn', show k - 1 + 1 = k by omega]
        · show ((k : Int) - 1).toNat < (k : Int).toNat
          omega
      · have hn' : (strAt p (k : Int) == 47) = true := by simpa [bne] using hn
        have hL : lastN 47 p.size p = (k : Int) := by rw [← hI, lastN_hit hn']
        refine ⟨fun hz => ⟨⟨by omega, by omega, by omega⟩, ?_⟩, fun hz => ⟨⟨by omega, by omega, by omega⟩, ⟨by omega, by omega⟩, ⟨by omega, by omega, by omega⟩, ?_⟩⟩
        · have hz : (k : Int) = 0 := by simpa using hz
          rw [splitV_zero q (by rw [hL, hz])]; rfl
        · rw [splitV_pos q hL hz]; rfl
theorem k_LastIndexByteString {c : Int} (hm : p.size ≤ 1048576) : PureX bs Tryz.prog fn_internal_bytealg_LastIndexByteString #[.string p, .int .u8 c] w (.int .i64 (lastN c p.size p)) :=
  p_internal_bytealg_LastIndexByteString p c fun wr hx => by
    refine ⟨⟨by omega, by omega⟩, fun vs => ∃ k : Nat, vs = [.int .i64 ((k : Int) - 1)] ∧ k ≤ p.size ∧ lastN c k p = lastN c p.size p, fun vs => (ctrAt 0 vs + 1).toNat, ⟨p.size, rfl, Nat.le_refl _, rfl⟩, ?_⟩
    rintro k' ⟨k, he, hk, hI⟩
    simp only [List.cons.injEq, Value.int.injEq, true_and, and_true] at he
    subst he
    refine ⟨fun hge => ?_, fun hlt => ?_⟩
    · have hge := of_decide_eq_true hge
      have hk1 : 1 ≤ k := by omega
      have ek : ((k : Int) - 1) = ((k - 1 : Nat) : Int) := by omega
      refine ⟨⟨by omega, by omega⟩, fun hn => ?_, fun hn => ⟨⟨by omega, by omega⟩, ⟨k - 1, by rw [ek], by omega, ?_⟩, ?_⟩⟩
      · rw [ek] at hn ⊢
        rw [← hI, ← lastN_hit hn, show k - 1 + 1 = k by omega]
      · rw [ek] at hn
        rw [← hI, ← lastN_miss hn, show k - 1 + 1 = k by omega]
      · show ((k : Int) - 1 - 1 + 1).toNat < ((k : Int) - 1 + 1).toNat
        omega
    · have hlt := of_decide_eq_false hlt
      have : k = 0 := by omega
      subst this
      rw [← hI]; rfl
theorem k_LastIndexByte {c : Int} (hm : p.size ≤ 1048576) : PureX bs Tryz.prog fn_strings_LastIndexByte #[.string p, .int .u8 c] w (.int .i64 (lastN c p.size p)) :=
  p_strings_LastIndexByte p c fun wr hx => ⟨_, k_LastIndexByteString hm, rfl⟩
theorem k_splitPath (hm : p.size ≤ 1048576) : PureX bs Tryz.prog fn_impl_splitPath #[.string p] w (splitV p) :=
  p_impl_splitPath p fun wr hx => by
    have e : ((!inB (p.size : Int) 1 60) || ((strAt p 0) != 47)) = !splitOk p := by
      unfold splitOk
      rw [Bool.not_and, bne]
    refine ⟨_, k_impl_inRange, fun q => ?_, fun q => ?_, fun q => ?_⟩
    · have q := inB_t.1 (by simpa using q : inB (p.size : Int) 1 60 = true)
      exact ⟨by omega, by omega⟩
    · rw [e] at q
      rw [splitV_no (by simpa using q)]
    · rw [e] at q
      have q : splitOk p = true := by simpa using q
      obtain ⟨h1, h2, h3⟩ := splitOk_t q
      have hr := lastN_range 47 p p.size
      have hp := lastN_pos h3 (p.size - 1)
      rw [show p.size - 1 + 1 = p.size by omega] at hp
      refine ⟨_, k_LastIndexByte hm, fun hz => ⟨⟨by omega, by omega, by omega⟩, ?_⟩, fun hz => ⟨⟨by omega, by omega, by omega⟩, ⟨by omega, by omega⟩, ⟨by omega, by omega, by omega⟩, ?_⟩⟩
      · have hz : lastN 47 p.size p = 0 := by simpa using hz
        rw [splitV_zero q hz]; rfl
      · rw [splitV_pos q rfl hz]; rfl
end

/-! ### What is in a group -/
/-- The names of the first k kids, each with a stroke. -/
def txtN (gs : List Grp) (l : List Int) : Nat → ByteArray
  | 0 => ⟨[].toArray⟩
  | k + 1 => (txtN gs l k ++ (gi gs (gi l (k : Int))).name) ++ ⟨[47, 10].toArray⟩
noncomputable def kidT (gs : List Grp) (g : Int) : ByteArray := txtN gs (kidsD gs g) (kidsD gs g).length
noncomputable def listT (gs : List Grp) (g : Int) : ByteArray := (if (g != 0) = true then kidT gs g ++ ⟨[119, 101, 105, 103, 104, 116, 10, 109, 97, 120, 10, 99, 112, 117, 115, 10].toArray⟩ else kidT gs g) ++ ⟨[112, 114, 111, 99, 115, 10, 115, 116, 97, 116, 10].toArray⟩
noncomputable def fgC (gs : List Grp) (p : ByteArray) : Int := if splitOk p = true then (if findD gs p < 0 then 2 else 0) else 1
noncomputable def fgA (gs : List Grp) (p : ByteArray) : Int := if fgC gs p = 0 then findD gs p else 0
noncomputable def listC (W : Wld) (p : ByteArray) : Int := if worldB W = true then fgC W.groups p else 1
noncomputable def listA (W : Wld) (p : ByteArray) : ByteArray := if listC W p = 0 then listT W.groups (findD W.groups p) else ⟨[].toArray⟩
theorem kids_at {gs : List Grp} {g : Int} (hl8 : gs.length = 8) {k : Int} (h0 : 0 ≤ k) (hk : k < ((kidsD gs g).length : Int)) : 0 ≤ gi (kidsD gs g) k ∧ gi (kidsD gs g) k < (gs.length : Int) ∧ (gi gs (gi (kidsD gs g) k)).used = true := by
  have hm := gi_mem h0 hk
  unfold kidsD at hm ⊢
  split at hm
  · rename_i h
    rw [if_pos h]
    have := kidL_mem hm
    exact ⟨this.1, by omega, this.2.2⟩
  · cases hm
theorem kids_le (gs : List Grp) (g : Int) : (kidsD gs g).length ≤ 8 := by
  unfold kidsD
  split
  · exact kidL_le gs g 8
  · simp
theorem size_two : (ByteArray.mk [47, 10].toArray).size = 2 := rfl
theorem txtN_le {gs : List Grp} (ht : TreeP gs) {g : Int} : ∀ k : Nat, k ≤ (kidsD gs g).length → (txtN gs (kidsD gs g) k).size ≤ 10 * k
  | 0, _ => Nat.le_refl _
  | k + 1, hk => by
    have h1 := txtN_le ht (g := g) k (by omega)
    obtain ⟨a, b, u⟩ := kids_at (g := g) ht.len (k := (k : Int)) (by omega) (by omega)
    have h2 := name_le ht (usedD_iff.2 ⟨a, b, u⟩)
    simp only [txtN]
    rw [ByteArray.size_append, ByteArray.size_append, size_two]
    omega
theorem listC_find {W : Wld} {p : ByteArray} (h : listC W p = 0) : worldB W = true ∧ splitOk p = true ∧ 0 ≤ findD W.groups p := by
  unfold listC fgC at h
  split at h
  · split at h
    · split at h
      · omega
      · rename_i a b c
        exact ⟨a, b, by omega⟩
    · omega
  · omega
section
variable {W : Wld} {m : MW} {w : World} {bs : List Nat} {p : ByteArray}
theorem k_spec_FileList (h : RdW [] w W m) (hl : LenW W) : Calls Tryz.prog fn_spec_FileList #[.agg (encW W m).toArray, .string p] w fun e w' => e = .returned (.tuple #[.string (listA W p), .int .i64 (listC W p)]) ∧ ExtX [] w w' := by
  refine (e_spec_FileList W.now m.cO W.cpus.length m.cC m.tO W.tasks.length m.tC m.gO W.groups.length m.gC p (R := fun v w' => v = .tuple #[.string (listA W p), .int .i64 (listC W p)] ∧ ExtX [] w w') ?_).mono fun e w' ⟨v, he, hv, h1⟩ => ⟨by rw [he, hv], h1⟩
  intro b hb
  have out : ∀ c : Int, listC W p = c → c ≠ 0 → listA W p = ⟨[].toArray⟩ := fun c h1 h2 => by unfold listA; rw [if_neg (by rw [h1]; exact h2)]
  refine ⟨_, k_spec_WorldOk h hl.c hl.t hl.g hl.f, fun q wr hx => ?_, fun q => ?_⟩
  · have hC : listC W p = 1 := by unfold listC; rw [if_neg (by simpa using q)]
    rw [out 1 hC (by decide), hC]; exact ⟨rfl, hx⟩
  have q : worldB W = true := by simpa using q
  have hC0 : listC W p = fgC W.groups p := if_pos q
  refine ⟨_, _, _, k_spec_l14Split, fun q2 wr hx => ?_, fun q2 wr2 hx2 hs2 => ?_⟩
  · have hC : listC W p = 1 := by rw [hC0]; unfold fgC; rw [if_neg (by simpa using q2)]
    rw [out 1 hC (by decide), hC]; exact ⟨rfl, hx⟩
  have q2 : splitOk p = true := by simpa using q2
  have hF0 : fgC W.groups p = if findD W.groups p < 0 then 2 else 0 := if_pos q2
  refine (k_spec_TreeFind (c := m.gC) (p := p) (h.ext hx2).g hl.g).mono fun e wv ⟨he, hx3⟩ => ⟨_, he, kept_of hx3 hs2, fun q3 wr3 hx4 => ?_, fun q3 wr4 hx4 hs4 => ?_⟩
  · have hC : listC W p = 2 := by rw [hC0, hF0]; exact if_pos (of_decide_eq_true q3)
    rw [out 2 hC (by decide), hC]
    exact ⟨rfl, (hx2.trans hx3).fresh hx4 fun x hm => .inl (by
      have : x = b := by simpa using hm
      omega)⟩
  have q3 : ¬ findD W.groups p < 0 := of_decide_eq_false q3
  have hC : listC W p = 0 := by rw [hC0, hF0]; exact if_neg q3
  have wp := decB_t.1 q
  have hbn : ∀ x ∈ [b], w.heap.size ≤ x := by simpa using hb
  have s4 : Sc w [b] wr4 := (Sc.mk (hx2.trans hx3) hbn).step hx4
  refine (k_spec_TreeKids (c := m.gC) (g := findD W.groups p) (h.ext s4.ext).g hl.g).mono fun e1 wv1 ⟨o', c', he1, hO, hx5⟩ => ⟨_, _, _, he1, kept_of hx5 hs4, ?_⟩
  rcases findD_range (gs := W.groups) (p := p) with hbad | ⟨ht, hu⟩
  · exact absurd (by omega) q3
  have hl8 := ht.len
  have hkl := kids_le W.groups (findD W.groups p)
  have s5 := s4.call0 hx5
  have hb5 : Ob encI 1 ty_int wr4.heap.size [b] wv1 o' c' (kidsD W.groups (findD W.groups p)) := Ob.of hO (by simpa using hs4)
  refine ⟨fun vs w1 => ∃ k : Nat, vs = [.string (txtN W.groups (kidsD W.groups (findD W.groups p)) k), .int .i64 (k : Int)] ∧ k ≤ (kidsD W.groups (findD W.groups p)).length ∧ Sc w [b] w1 ∧ Ob encI 1 ty_int wr4.heap.size [b] w1 o' c' (kidsD W.groups (findD W.groups p)), cntMw (kidsD W.groups (findD W.groups p)).length 1, fun wr5 hx6 _ => ⟨0, rfl, Nat.zero_le _, s5.step hx6, hb5.step hx6⟩, ?_⟩
  rintro s i w1 hs1 ⟨k, hv, hk, s1, hob⟩
  simp only [List.cons.injEq, Value.string.injEq, Value.int.injEq, true_and, and_true] at hv
  obtain ⟨rfl, rfl⟩ := hv
  have hsz := txtN_le ht (g := findD W.groups p) k hk
  refine ⟨fun hlt => ?_, fun hge => ?_⟩
  · have hlt := of_decide_eq_true hlt
    have hR := hob.rd elt_Int.len
    obtain ⟨a, b', u⟩ := kids_at (g := findD W.groups p) hl8 (k := (k : Int)) (by omega) hlt
    have h8 := name_le ht (usedD_iff.2 ⟨a, b', u⟩)
    have hg := ((h.wide (cs := [b]) fun x hm => .inr (hbn x hm)).ext s1.ext.of_nil).g
    refine ⟨hR.ix encI_c (by omega) hlt, _, hR (k : Int) (by omega) hlt, hg.ix a b', _, hg.name a b', by omega, ?_, ⟨by omega, by omega⟩, fun wr6 hx6 _ => ⟨⟨k + 1, rfl, by omega, s1.step hx6, hob.step hx6⟩, cntM_ltW (k := k) rfl rfl (by omega)⟩⟩
    rw [ByteArray.size_append, size_two]; omega
  · have hge := of_decide_eq_false hge
    have hkn : k = (kidsD W.groups (findD W.groups p)).length := by omega
    have eA : listA W p = listT W.groups (findD W.groups p) := if_pos hC
    have sz1 : (ByteArray.mk [119, 101, 105, 103, 104, 116, 10, 109, 97, 120, 10, 99, 112, 117, 115, 10].toArray).size = 16 := rfl
    have sz2 : (ByteArray.mk [112, 114, 111, 99, 115, 10, 115, 116, 97, 116, 10].toArray).size = 11 := rfl
    refine ⟨fun hz => ⟨by rw [sz1]; omega, by rw [ByteArray.size_append, sz1, sz2]; omega, fun wr7 hx7 => ⟨?_, (s1.step hx7).ext⟩⟩, fun hz => ⟨by rw [sz2]; omega, fun wr8 hx8 => ⟨?_, (s1.step hx8).ext⟩⟩⟩
    · rw [eA, hC]
      unfold listT kidT
      rw [if_pos hz, hkn]
    · rw [eA, hC]
      unfold listT kidT
      rw [if_neg (by rw [hz]; decide), hkn]
theorem k_findGroup {q : Option Addr} (h : WPt bs w q W m) (hl : LenW W) (hm : p.size ≤ 1048576) : PureX bs Tryz.prog fn_impl_findGroup #[.pointer q, .string p] w (.tuple #[.int .i64 (fgA W.groups p), .int .i64 (fgC W.groups p)]) :=
  p_impl_findGroup q p fun wr hx => by
    have h := (h.ext hx).less (cs := []) (by simp)
    refine ⟨_, _, _, k_splitPath hm, fun q1 => ?_, fun q1 => ⟨h.some, _, _, _, h.groups, _, k_impl_TreeFind h.rd.g hl.g, fun q2 => ?_, fun q2 => ?_⟩⟩
    · have hC : fgC W.groups p = 1 := if_neg (by simpa using q1)
      have hA : fgA W.groups p = 0 := if_neg (by rw [hC]; decide)
      rw [hC, hA]
    · have q1 : splitOk p = true := by simpa using q1
      have hC : fgC W.groups p = 2 := by unfold fgC; rw [if_pos q1, if_pos (of_decide_eq_true q2)]
      have hA : fgA W.groups p = 0 := if_neg (by rw [hC]; decide)
      rw [hC, hA]
    · have q1 : splitOk p = true := by simpa using q1
      have hC : fgC W.groups p = 0 := by unfold fgC; rw [if_pos q1, if_neg (of_decide_eq_false q2)]
      have hA : fgA W.groups p = findD W.groups p := if_pos hC
      rw [hC, hA]
end
/-- The files' names. -/
def fnames : List ByteArray := [⟨[119, 101, 105, 103, 104, 116].toArray⟩, ⟨[109, 97, 120].toArray⟩, ⟨[99, 112, 117, 115].toArray⟩, ⟨[112, 114, 111, 99, 115].toArray⟩, ⟨[115, 116, 97, 116].toArray⟩]
def encTx (s : ByteArray) : List Value := [.string s]
theorem encTx_c (x : ByteArray) : ∃ v r, encTx x = v :: r := ⟨_, _, rfl⟩
def NamesAt (b : Nat) (w : World) : Prop := w.heap[b]? = some (Obj.cells (fnames.flatMap encTx).toArray ty_string (0, 0))
def nOff (g : Int) : Nat := if (g == 0) = true then 3 else 0
theorem rd_names {b : Nat} {w : World} (h : NamesAt b w) (g : Int) : Rd encTx 1 [] w (some ⟨b, nOff g, none⟩) (fnames.drop (nOff g)) := by
  have key : ∀ (off : Nat) (v : ByteArray), (fnames.flatMap encTx)[off]? = some (.string v) → CellsX [] w (some ⟨b, off, none⟩) 0 [.string v] := fun off v hv => by
    refine cellsX_one ⟨⟨b, off, none⟩, rfl, by simp, ?_⟩
    rw [Addr.add_lit, Nat.add_zero, cell_blk h]
    simpa using hv
  have sh : ∀ (off j : Nat) (v : ByteArray), CellsX [] w (some ⟨b, off + j, none⟩) 0 [.string v] → CellsX [] w (some ⟨b, off, none⟩) j [.string v] := fun off j v hv => by
    obtain ⟨a, ha, hb, hc⟩ := hv
    cases ha
    exact cellsX_one ⟨⟨b, off, none⟩, rfl, by simp, by rw [Addr.add_lit] at hc ⊢; exact hc⟩
  intro i h0 hi
  unfold nOff at hi ⊢
  cases hg : (g == 0) with
  | true =>
    rw [hg] at hi
    simp only [if_true] at hi ⊢
    have hi2 : i < 2 := hi
    have : i = 0 ∨ i = 1 := by omega
    rcases this with rfl | rfl
    · exact sh 3 0 _ (key 3 _ rfl)
    · exact sh 3 1 _ (key 4 _ rfl)
  | false =>
    rw [hg] at hi
    have hi2 : i < 5 := hi
    have : i = 0 ∨ i = 1 ∨ i = 2 ∨ i = 3 ∨ i = 4 := by omega
    rcases this with rfl | rfl | rfl | rfl | rfl
    · exact sh 0 0 _ (key 0 _ rfl)
    · exact sh 0 1 _ (key 1 _ rfl)
    · exact sh 0 2 _ (key 2 _ rfl)
    · exact sh 0 3 _ (key 3 _ rfl)
    · exact sh 0 4 _ (key 4 _ rfl)
theorem k_fileNames {w : World} {g : Int} : Calls Tryz.prog fn_impl_fileNames #[.int .i64 g] w fun e w' => ∃ b : Nat, w.heap.size ≤ b ∧ e = .returned (.slice (some ⟨b, nOff g, none⟩) (fnames.drop (nOff g)).length (5 - nOff g)) ∧ NamesAt b w' ∧ ExtX [] w w' := by
  refine (e_impl_fileNames g (R := fun v w' => ∃ b : Nat, w.heap.size ≤ b ∧ v = .slice (some ⟨b, nOff g, none⟩) (fnames.drop (nOff g)).length (5 - nOff g) ∧ NamesAt b w' ∧ ExtX [] w w') ?_).mono fun e w' ⟨v, he, b, hb, hv, h1⟩ => ⟨b, hb, by rw [he, hv], h1⟩
  intro b wb hx hb hcell _
  refine ⟨fun q => ⟨⟨by decide, by decide, by decide⟩, fun wr hx2 => ⟨b, hb, ?_, blk_ext hcell hx2 (by simp), hx.trans hx2⟩⟩, fun q wr hx2 => ⟨b, hb, ?_, blk_ext hcell hx2 (by simp), hx.trans hx2⟩⟩
  · unfold nOff
    rw [if_pos q]; rfl
  · unfold nOff
    rw [if_neg (by rw [q]; decide)]; rfl
/-- The names' text behind another one. -/
def nmT (s : ByteArray) (l : List ByteArray) : Nat → ByteArray
  | 0 => s
  | k + 1 => nmT s l k ++ (gi l (k : Int) ++ ⟨[10].toArray⟩)
theorem nmT_end (s : ByteArray) (g : Int) : nmT s (fnames.drop (nOff g)) (fnames.drop (nOff g)).length = (if (g != 0) = true then s ++ ⟨[119, 101, 105, 103, 104, 116, 10, 109, 97, 120, 10, 99, 112, 117, 115, 10].toArray⟩ else s) ++ ⟨[112, 114, 111, 99, 115, 10, 115, 116, 97, 116, 10].toArray⟩ := by
  have hb : (g != 0) = !(g == 0) := rfl
  rw [hb]
  unfold nOff
  cases hg : (g == 0) with
  | true =>
    show (s ++ (⟨[112, 114, 111, 99, 115].toArray⟩ ++ ⟨[10].toArray⟩)) ++ (⟨[115, 116, 97, 116].toArray⟩ ++ ⟨[10].toArray⟩) = s ++ _
    apply ByteArray.ext
    simp only [ByteArray.data_append]
    apply Array.ext'
    simp
  | false =>
    show ((((s ++ (⟨[119, 101, 105, 103, 104, 116].toArray⟩ ++ ⟨[10].toArray⟩)) ++ (⟨[109, 97, 120].toArray⟩ ++ ⟨[10].toArray⟩)) ++ (⟨[99, 112, 117, 115].toArray⟩ ++ ⟨[10].toArray⟩)) ++ (⟨[112, 114, 111, 99, 115].toArray⟩ ++ ⟨[10].toArray⟩)) ++ (⟨[115, 116, 97, 116].toArray⟩ ++ ⟨[10].toArray⟩) = (s ++ _) ++ _
    apply ByteArray.ext
    simp only [ByteArray.data_append]
    apply Array.ext'
    simp
theorem fname_le {g : Int} {k : Nat} (hk : k < (fnames.drop (nOff g)).length) : (gi (fnames.drop (nOff g)) (k : Int)).size ≤ 6 := by
  have hm : gi (fnames.drop (nOff g)) (k : Int) ∈ fnames := List.mem_of_mem_drop (gi_mem (by omega) (by omega))
  have all : ∀ x ∈ fnames, x.size ≤ 6 := by decide
  exact all _ hm
theorem nmT_le {s : ByteArray} {g : Int} : ∀ k : Nat, k ≤ (fnames.drop (nOff g)).length → (nmT s (fnames.drop (nOff g)) k).size ≤ s.size + 7 * k
  | 0, _ => Nat.le_refl _
  | k + 1, hk => by
    have h1 := nmT_le (s := s) (g := g) k (by omega)
    have h2 := fname_le (g := g) (k := k) (by omega)
    have h3 : (ByteArray.mk [10].toArray).size = 1 := rfl
    simp only [nmT]
    rw [ByteArray.size_append, ByteArray.size_append, h3]
    omega
theorem Bk.blk {B b k : Nat} {w w' : World} {c : Array Value} {t : TypeId} {fz : Nat × Nat} (h : Bk B b w w') (hk : w.heap[k]? = some (.cells c t fz)) (hne : k ≠ b) (ht : t ≠ ty_uint8) : w'.heap[k]? = some (.cells c t fz) :=
  h.2 k _ hk (fun e => hne (Option.some.inj e)) fun c' f he => by cases he; exact ht rfl
theorem Own.bk {α : Type} {enc : α → List Value} {z : Nat} {ty : TypeId} {base B b : Nat} {w w' : World} {o : Option Addr} {cap : Nat} {l : List α} (h : Own enc z ty base w o cap l) (hk : Bk B b w w') (hne : ∀ x ∈ blkOf o, x ≠ b) (ht : ty ≠ ty_uint8) : Own enc z ty base w' o cap l := by
  rcases h with h | ⟨g, sp, rfl, h1, h2, h3⟩
  · exact .inl h
  · exact .inr ⟨g, sp, rfl, h1, hk.blk h2 (hne g (by simp [blkOf])) ht, h3⟩
section
variable {W : Wld} {m : MW} {w : World} {bs : List Nat} {p : ByteArray}
set_option maxHeartbeats 800000 in
theorem k_impl_FileList (h : RdW [] w W m) (hl : LenW W) (hm : p.size ≤ 1048576) : Calls Tryz.prog fn_impl_FileList #[.agg (encW W m).toArray, .string p] w fun e w' => e = .returned (.tuple #[.string (listA W p), .int .i64 (listC W p)]) ∧ ExtX [] w w' := by
  refine (e_impl_FileList W.now m.cO W.cpus.length m.cC m.tO W.tasks.length m.tC m.gO W.groups.length m.gC p (R := fun v w' => v = .tuple #[.string (listA W p), .int .i64 (listC W p)] ∧ ExtX [] w w') ?_).mono fun e w' ⟨v, he, hv, h1⟩ => ⟨by rw [he, hv], h1⟩
  intro b wb hxb hb hcell _
  have hrd := h.ext hxb
  have hp := wpt_of (bs := []) hcell hrd (ExtX.refl _ _) (by simp)
  have out : ∀ c : Int, listC W p = c → c ≠ 0 → listA W p = ⟨[].toArray⟩ := fun c h1 h2 => by unfold listA; rw [if_neg (by rw [h1]; exact h2)]
  refine ⟨_, _, _, _, _, _, _, _, _, _, hp.cs, _, k_impl_WorldOk hrd hl.c hl.g hl.f, fun q wr hx => ?_, fun q => ?_⟩
  · have hC : listC W p = 1 := by unfold listC; rw [if_neg (by simpa using q)]
    rw [out 1 hC (by decide), hC]; exact ⟨rfl, hxb.trans hx⟩
  have q : worldB W = true := by simpa using q
  have hC0 : listC W p = fgC W.groups p := if_pos q
  refine ⟨_, _, by exact k_findGroup hp hl hm, fun q2 wr1 hx1 => ?_, fun q2 b1 wb1 hxb1 hb1 hcell1 _ => ?_⟩
  · have hC : listC W p ≠ 0 := by rw [hC0]; simpa using q2
    rw [out _ rfl hC, hC0]; exact ⟨rfl, hxb.trans hx1⟩
  have hC : listC W p = 0 := by rw [hC0]; simpa using q2
  have hA : fgA W.groups p = findD W.groups p := if_pos (by rw [← hC0]; exact hC)
  rw [hA]
  obtain ⟨_, _, hf0⟩ := listC_find hC
  rcases findD_range (gs := W.groups) (p := p) with hbad | ⟨ht, hu⟩
  · exact absurd hf0 (by omega)
  have hl8 := ht.len
  have hkl := kids_le W.groups (findD W.groups p)
  have hpt : ∀ {w1 : World}, ExtX [] wb w1 → WPt [] w1 (some ⟨b, 0, none⟩) W m := fun {w1} hx => wpt_of hcell hrd hx (by simp)
  refine ⟨_, _, _, (hpt hxb1).groups, fun wr2 hx2 _ => ?_⟩
  have hX2 := hxb1.trans hx2
  refine (k_impl_TreeKids (c := m.gC) (g := findD W.groups p) (hrd.ext hX2).g hl.g).mono fun e wv ⟨o', c', he, hO, hx3⟩ => ⟨_, _, _, he, kept_nil, ?_⟩
  have hb1w : b1 < wr2.heap.size := Nat.lt_of_lt_of_le (blk_lt hcell1) hx2.size
  have hneO : ∀ x ∈ blkOf o', x ≠ b1 := fun x hx e => by
    have := (hO.lt x hx).1
    omega
  have B0 : BldAt b1 b1 ⟨[].toArray⟩ wv := ((bld_new hcell1 (Nat.le_refl _)).ext hx2).ext hx3
  refine loop1w (kidsD W.groups (findD W.groups p)).length 0 rfl (fun k w1 => k ≤ (kidsD W.groups (findD W.groups p)).length ∧ BldAt b1 b1 (txtN W.groups (kidsD W.groups (findD W.groups p)) k) w1 ∧ ExtX [] wb w1 ∧ Own encI 1 ty_int wr2.heap.size w1 o' c' (kidsD W.groups (findD W.groups p)) ∧ b1 < w1.heap.size)
    (fun w1 hx4 _ => ⟨Nat.zero_le _, B0.ext hx4, (hX2.trans hx3).trans hx4, hO.ext0 hx4, by have := hx3.size; have := hx4.size; omega⟩) fun k w1 _ ⟨hk, hB, hX, hOw, hsz1⟩ => ⟨fun hlt => ?_, fun hge => ?_⟩
  · have hlt := of_decide_eq_true hlt
    have hR := hOw.rd (bs := []) elt_Int.len (by simp)
    obtain ⟨a, b', u⟩ := kids_at (g := findD W.groups p) hl8 (k := (k : Int)) (by omega) hlt
    have h8 := name_le ht (usedD_iff.2 ⟨a, b', u⟩)
    have hsz := txtN_le ht (g := findD W.groups p) k hk
    have hw1 := hpt hX
    refine ⟨hR.ix encI_c (by omega) hlt, _, hR (k : Int) (by omega) hlt, _, _, _, hw1.groups, hw1.rd.g.ix a b', _, hw1.rd.g.name a b', by rw [size_two]; omega, fun wr4 hx4 _ => ?_⟩
    have hs4 := hx4.size
    have hcall := k_WriteString (t := (gi W.groups (gi (kidsD W.groups (findD W.groups p)) (k : Int))).name ++ ⟨[47, 10].toArray⟩) (hB.ext hx4) (by rw [ByteArray.size_append, size_two]; omega) (by omega)
    refine Calls.mono hcall ?_
    rintro e1 wv2 ⟨he1, hB2, hk2⟩
    refine ⟨_, _, he1, kept_nil, ⟨by omega, by omega⟩, fun wr5 hx5 _ => loop1w_next (by omega) ⟨by omega, ?_, ((hk2.ext (hX.trans hx4) hb1).trans hx5), (((hOw.ext0 hx4).bk hk2 hneO (by decide)).ext0 hx5), ?_⟩⟩
    · have e2 : txtN W.groups (kidsD W.groups (findD W.groups p)) (k + 1) = txtN W.groups (kidsD W.groups (findD W.groups p)) k ++ ((gi W.groups (gi (kidsD W.groups (findD W.groups p)) (k : Int))).name ++ ⟨[47, 10].toArray⟩) := by
        rw [← ByteArray.append_assoc]; rfl
      rw [e2]; exact hB2.ext hx5
    · have := hk2.1.size; have := hx5.size; omega
  · have hge := of_decide_eq_false hge
    have hkn : k = (kidsD W.groups (findD W.groups p)).length := by omega
    have hB' : BldAt b1 b1 (kidT W.groups (findD W.groups p)) w1 := by rw [hkn] at hB; exact hB
    have hsz : (kidT W.groups (findD W.groups p)).size ≤ 80 := by
      have := txtN_le ht (g := findD W.groups p) _ (Nat.le_refl _)
      unfold kidT; omega
    intro wr6 hx6 _
    refine (k_fileNames (g := findD W.groups p)).mono fun e2 wv3 ⟨bn, hbn, he2, hN, hx7⟩ => ⟨_, _, _, he2, kept_nil, ?_⟩
    have hs6 := hx6.size
    have hs7 := hx7.size
    have hnb : bn ≠ b1 := fun e => by omega
    refine loop1w (fnames.drop (nOff (findD W.groups p))).length 0 rfl (fun j w2 => j ≤ (fnames.drop (nOff (findD W.groups p))).length ∧ BldAt b1 b1 (nmT (kidT W.groups (findD W.groups p)) (fnames.drop (nOff (findD W.groups p))) j) w2 ∧ ExtX [] wb w2 ∧ NamesAt bn w2 ∧ b1 ≤ w2.heap.size)
      (fun w2 hx8 _ => ⟨Nat.zero_le _, ((hB'.ext hx6).ext hx7).ext hx8, ((hX.trans hx6).trans hx7).trans hx8, blk_ext hN hx8 (by simp), by have := hx8.size; omega⟩) fun j w2 _ ⟨hj, hB2, hX2', hN2, hsz2⟩ => ⟨fun hlt => ?_, fun hge => ?_⟩
    · have hlt := of_decide_eq_true hlt
      have hR := rd_names hN2 (findD W.groups p)
      have h6 := fname_le (g := findD W.groups p) (k := j) (by omega)
      have hl5 : (fnames.drop (nOff (findD W.groups p))).length ≤ 5 := by rw [List.length_drop]; exact Nat.sub_le _ _
      have hnm := nmT_le (s := kidT W.groups (findD W.groups p)) (g := findD W.groups p) j hj
      have h1 : (ByteArray.mk [10].toArray).size = 1 := rfl
      refine ⟨hR.ix encTx_c (by omega) hlt, _, hR (j : Int) (by omega) hlt, by rw [h1]; omega, fun wr8 hx8 _ => ?_⟩
      have hs8 := hx8.size
      have hcall := k_WriteString (t := gi (fnames.drop (nOff (findD W.groups p))) (j : Int) ++ ⟨[10].toArray⟩) (hB2.ext hx8) (by rw [ByteArray.size_append, h1]; omega) (by omega)
      refine Calls.mono hcall ?_
      rintro e3 wv5 ⟨he3, hB3, hk3⟩
      refine ⟨_, _, he3, kept_nil, ⟨by omega, by omega⟩, fun wr9 hx9 _ => loop1w_next (by omega) ⟨by omega, hB3.ext hx9, (hk3.ext (hX2'.trans hx8) hb1).trans hx9, blk_ext (hk3.blk (blk_ext hN2 hx8 (by simp)) hnb (by decide)) hx9 (by simp), ?_⟩⟩
      have := hk3.1.size; have := hx9.size; omega
    · have hge := of_decide_eq_false hge
      have hjn : j = (fnames.drop (nOff (findD W.groups p))).length := by omega
      intro wr10 hx10 _
      have hs10 := hx10.size
      have hcall := k_String (hB2.ext hx10) (by omega)
      refine Calls.mono hcall ?_
      rintro e4 wv6 ⟨he4, hk4⟩
      refine ⟨_, he4, kept_nil, fun wr11 hx11 => ⟨?_, hxb.trans ((hk4.ext (hX2'.trans hx10) hb1).trans hx11)⟩⟩
      have eA : listA W p = listT W.groups (findD W.groups p) := if_pos hC
      rw [eA, hC, hjn, nmT_end]; rfl
end
end Go.Proofs.YthojnihahmlboaaGreat
