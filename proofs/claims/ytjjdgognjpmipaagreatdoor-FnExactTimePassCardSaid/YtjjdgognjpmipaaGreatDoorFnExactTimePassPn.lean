/- Part 14 of what the law FnExactTimePass needs: the engine, the functions' propositions, the contracts. -/
import Derived.Test.YtjjdgognjpmipaaGreatDoorFnExactTimePassPm
import Derived.Laws.BytesArg
namespace Go.Proofs.YtjjdgognjpmipaaGreatDoor
open Go.RowKit
set_option linter.unusedVariables false
set_option linter.unusedSimpArgs false
set_option maxRecDepth 10000
theorem tdiv10 {k : Int} (h : 0 < k) : 0 ≤ Int.tdiv k 10 ∧ Int.tdiv k 10 < k := by
  rw [Int.tdiv_eq_ediv_of_nonneg (by omega)]
  omega
theorem tmod10 {k : Int} (h : 0 < k) : 0 ≤ Int.tmod k 10 ∧ Int.tmod k 10 ≤ 9 := by
  rw [Int.tmod_eq_emod_of_nonneg (by omega)]
  omega
def digs (k : Int) (out : ByteArray) : ByteArray := if h : 0 < k then digs (Int.tdiv k 10) (strOfNums [48 + Int.tmod k 10] ++ out) else out
termination_by k.toNat
decreasing_by
  have := tdiv10 h
  omega
def mtx (k : Int) : ByteArray := if k ≤ 0 then ⟨[109,48].toArray⟩ else ⟨[109].toArray⟩ ++ digs k ⟨[].toArray⟩
theorem u_sl_u8 : Tryz.prog.underlying ty_sl_uint8 = some (.slice ty_uint8) := by kernel_rfl
theorem u_u8 : Tryz.prog.underlying ty_uint8 = some (.int .u8) := by kernel_rfl
theorem u_str0 : Tryz.prog.underlying ty_string = some .string := by kernel_rfl
theorem k_markText {k : Int} (hk : k ≤ 1000000000000000000) {w : World} {bs : List Nat} : PureX bs Tryz.prog fn_laws_markText #[.int .i64 k] w (.string (mtx k)) :=
  pureX_of fun wr _ => e_laws_markText k (R:=fun v w' => v = .string (mtx k) ∧ ExtX [] wr w') (by
    refine ⟨fun g w1 hx => ⟨by unfold mtx; rw [if_pos (of_decide_eq_true g)],hx⟩,fun g => ?_⟩
    have g := of_decide_eq_false g
    have hmt : mtx k = ⟨[109].toArray⟩ ++ digs k ⟨[].toArray⟩ := by unfold mtx; rw [if_neg g]
    refine ⟨fun vs w1 => ∃ (k1 : Int) (out : ByteArray),vs = [.int .i64 k1,.string out] ∧ 0 ≤ k1 ∧ (out.size : Int) + k1 ≤ k ∧ digs k1 out = digs k ⟨[].toArray⟩ ∧ ExtX [] wr w1,fun vs _ => (ctrAt 0 vs).toNat,fun w1 hx _ => ⟨k,_,rfl,by omega,by simp [ByteArray.size],rfl,hx⟩,?_⟩
    rintro k1 out wv _ ⟨k1',out',he,h0,hs,hd,hX⟩
    simp only [List.cons.injEq,Value.int.injEq,Value.string.injEq,true_and,and_true] at he
    obtain ⟨rfl,rfl⟩ := he
    refine ⟨fun gk => ?_,fun gk => ?_⟩
    · have gk : 0 < k1 := of_decide_eq_true gk
      have hm := tmod10 gk
      have hd10 := tdiv10 gk
      refine ⟨by decide,⟨by omega,by omega⟩,⟨by show (0 : Int) ≤ _; omega,by show _ ≤ (255 : Int); omega⟩,fun b wb hxb hb hcell _ wr2 hx2 _ => ?_⟩
      have hc := blk_ext hcell hx2 (by simp)
      have hrun := run_convert_bytes_arg (P:=Tryz.prog) wr2 ty_sl_uint8 ty_uint8 u_sl_u8 u_u8 b 0 1 1 [48 + Int.tmod k1 10] rfl (fun i hi => by
        have : i = 0 := by omega
        subst this
        rw [Nat.add_zero,cell_blk hc]
        rfl) ty_string u_str0
      have hsz : (strOfNums [48 + Int.tmod k1 10] ++ out).size = 1 + out.size := by rw [ByteArray.size_append,strOfNums_size]; rfl
      refine ⟨_,wr2,hrun,kept_nil,?_,⟨by decide,⟨by omega,by omega⟩⟩,fun wr3 hx3 _ => ⟨⟨Int.tdiv k1 10,_,rfl,hd10.1,?_,?_,((hX.trans hxb).trans hx2).trans hx3⟩,?_⟩⟩
      · rw [strOfNums_size,List.length_singleton]; omega
      · rw [hsz]; omega
      · rw [← hd]
        conv => rhs; rw [digs]
        rw [dif_pos gk]
      · show (Int.tdiv k1 10).toNat < k1.toNat
        omega
    · have gk : ¬ 0 < k1 := of_decide_eq_false gk
      refine ⟨by rw [show (ByteArray.mk [109].toArray).size = 1 from rfl]; omega,fun wr4 hx4 => ⟨?_,hX.trans hx4⟩⟩
      rw [hmt,← hd,digs,dif_neg gk])
theorem set_self0 {α : Type} [Inhabited α] {l : List α} {i : Int} (h0 : 0 ≤ i) (h1 : i < (l.length : Int)) : l.set i.toNat (gi l i) = l := by
  obtain ⟨k,rfl⟩ := Int.eq_ofNat_of_zero_le h0
  rw [gi_lt (by omega),Int.toNat_natCast,List.set_getElem_self]
def mkG (G : Grp) (K : Int) : Grp := ⟨(Int.tmod (K) 3 == 0),K + 1,mtx (K + 1 + 1),K + 1 + 1 + 1,K + 1 + 1 + 1 + 1,K + 1 + 1 + 1 + 1 + 1,K + 1 + 1 + 1 + 1 + 1 + 1,K + 1 + 1 + 1 + 1 + 1 + 1 + 1,⟨K + 1 + 1 + 1 + 1 + 1 + 1 + 1 + 1,K + 1 + 1 + 1 + 1 + 1 + 1 + 1 + 1 + 1,K + 1 + 1 + 1 + 1 + 1 + 1 + 1 + 1 + 1 + 1,markI G.band.locals.length (K + 1 + 1 + 1 + 1 + 1 + 1 + 1 + 1 + 1 + 1 + 1),markB G.band.dry.length (K + 1 + 1 + 1 + 1 + 1 + 1 + 1 + 1 + 1 + 1 + 1 + 1 * (G.band.locals.length : Int))⟩,markS G.shelves.length (K + 1 + 1 + 1 + 1 + 1 + 1 + 1 + 1 + 1 + 1 + 1 + 1 * (G.band.locals.length : Int) + 1 * (G.band.dry.length : Int))⟩
def nxK (G : Grp) (K : Int) : Int := K + 1 + 1 + 1 + 1 + 1 + 1 + 1 + 1 + 1 + 1 + 1 + 1 * (G.band.locals.length : Int) + 1 * (G.band.dry.length : Int) + 5 * (G.shelves.length : Int)
def gK (gs : List Grp) (k : Int) : Nat → Int
  | 0 => k
  | i + 1 => nxK (gi gs (i : Int)) (gK gs k i)
def markG (gs : List Grp) (k : Int) : Nat → List Grp
  | 0 => gs
  | i + 1 => (markG gs k i).set i (mkG (gi gs (i : Int)) (gK gs k i))
theorem markG_len (gs : List Grp) (k : Int) : ∀ i,(markG gs k i).length = gs.length
  | 0 => rfl
  | i + 1 => by simp only [markG]; rw [List.length_set,markG_len gs k i]
theorem markG_gi {gs : List Grp} {k : Int} : ∀ (i : Nat) (j : Nat),i ≤ gs.length → gi (markG gs k i) (j : Int) = if j < i then mkG (gi gs (j : Int)) (gK gs k j) else gi gs (j : Int)
  | 0,j,_ => by rw [if_neg (by omega)]; rfl
  | i + 1,j,h => by
    simp only [markG]
    have := gi_set (markG gs k i) (mkG (gi gs (i : Int)) (gK gs k i)) (i:=(i : Int)) (by omega) (by rw [markG_len]; omega) (j:=(j : Int)) (by omega)
    rw [Int.toNat_natCast] at this
    rw [this,markG_gi i j (by omega)]
    by_cases e : i = j
    · subst e; rw [if_pos rfl,if_pos (by omega)]
    · rw [if_neg (by omega)]
      by_cases h2 : j < i
      · rw [if_pos h2,if_pos (by omega)]
      · rw [if_neg h2,if_neg (by omega)]
theorem gK_range {gs : List Grp} {k : Int} (hs : ∀ i : Int,0 ≤ i → i < (gs.length : Int) → SmG (gi gs i)) : ∀ i : Nat,i ≤ gs.length → k ≤ gK gs k i ∧ gK gs k i ≤ k + (i : Int) * 8000000
  | 0,_ => by simp only [gK]; omega
  | i + 1,h => by
    have ih := gK_range (k:=k) hs i (by omega)
    have s := hs (i : Int) (by omega) (by omega)
    have h1 := s.lo
    have h2 := s.dr
    have h3 := s.sh
    simp only [gK,nxK]
    omega
section
variable {n base : Nat} {W : Wld} {m : MW} {w w' : World} {G G' : Grp} {i : Int}
theorem MWd.grRd (h : MWd n base w (setGr W i G) m) (i0 : 0 ≤ i) (i1 : i < (W.groups.length : Int)) : CellsX [] w m.gO (Int.toNat i * 14) (encG G (m.ms i.toNat)) := by
  have := (h.rd (bs:=[]) (by simp)).g.cells i i0 (by show i < (((W.groups.set i.toNat G).length : Nat) : Int); rw [List.length_set]; exact i1)
  rwa [set_gi i0 i1 i0,if_pos rfl] at this
theorem MWd.grOwn (h : MWd n base w (setGr W i G) m) (i0 : 0 ≤ i) (i1 : i < (n : Int)) (hl : W.groups.length = n) : OwnM base w (G,m.ms i.toNat) := by
  have := h.each i0 i1
  rwa [set_gi i0 (by omega) i0,if_pos rfl] at this
theorem MWd.grSto (h : MWd n base w (setGr W i G) m) (i0 : 0 ≤ i) (i1 : i < (n : Int)) (hl : W.groups.length = n) (e1 : G'.band.locals = G.band.locals) (e2 : G'.band.dry = G.band.dry) (e3 : G'.shelves = G.shelves) {j : Nat} {vs : List Value}
    (he : encG G' (m.ms i.toNat) = (encG G (m.ms i.toNat)).take j ++ vs ++ (encG G (m.ms i.toNat)).drop (j + vs.length)) (hj : j + vs.length ≤ 14) : MWd n base (sto w m.gO (Int.toNat i * 14 + j) vs) (setGr W i G') m := by
  have hg : gi (setGr W i G).groups i = G := by rw [set_gi i0 (by omega) i0,if_pos rfl]
  have this : MWd n base _ (setGr (setGr W i G) i G') m := h.stoG0 i0 i1 (g:=G') (by rw [hg]; exact e1) (by rw [hg]; exact e2) (by rw [hg]; exact e3) (by rw [hg]; exact he) hj
  rwa [show setGr (setGr W i G) i G' = setGr W i G' by unfold setGr; rw [List.set_set]] at this
theorem MWd.grIn {bs : List Nat} (h : MWd n base w (setGr W i G) m) (i0 : 0 ≤ i) (i1 : i < (n : Int)) (hl : W.groups.length = n) (hx : ExtX bs w w') (hb : ∀ x ∈ bs,x ∈ grpBlks (m.ms i.toNat)) (hp : OwnM base w' (G',m.ms i.toNat)) (he : encG G' (m.ms i.toNat) = encG G (m.ms i.toNat)) : MWd n base w' (setGr W i G') m := by
  have hg : gi (setGr W i G).groups i = G := by rw [set_gi i0 (by omega) i0,if_pos rfl]
  have this : MWd n base _ (setGr (setGr W i G) i G') m := h.in i0 i1 hx hb hp (by rw [hg]; exact he)
  rwa [show setGr (setGr W i G) i G' = setGr W i G' by unfold setGr; rw [List.set_set]] at this
set_option maxHeartbeats 1000000 in
theorem k_markGroupS {k : Int} (h : MWd n base w W m) (hln : W.groups.length ≤ 1048576) (hs : ∀ i : Int,0 ≤ i → i < (W.groups.length : Int) → SmG (gi W.groups i)) (hk : 0 ≤ k) (hk2 : k ≤ 10000000000000000) :
    Calls Tryz.prog fn_laws_markGroupS #[.slice m.gO W.groups.length m.gC,.int .i64 k] w fun e w' => e = .returned (.int .i64 (gK W.groups k W.groups.length)) ∧ MWd n base w' { W with groups := markG W.groups k W.groups.length } m ∧ ExtX (wBlks n m) w w' := by
  refine (e_laws_markGroupS m.gO W.groups.length m.gC k (R:=fun v w' => v = .int .i64 (gK W.groups k W.groups.length) ∧ MWd n base w' { W with groups := markG W.groups k W.groups.length } m ∧ ExtX (wBlks n m) w w') ?_).mono fun e w' ⟨v,he,hv,h1⟩ => ⟨by rw [he,hv],h1⟩
  have hnl := h.len
  refine ⟨fun vs w1 => ∃ (i : Nat),vs = [.int .i64 (gK W.groups k i),.int .i64 (i : Int)] ∧ i ≤ W.groups.length ∧ MWd n base w1 { W with groups := markG W.groups k i } m ∧ ExtX (wBlks n m) w w1,cntMw W.groups.length 1,fun w1 hx _ => ⟨0,rfl,Nat.zero_le _,h.ext0 hx,hx.of_nil⟩,?_⟩
  rintro k1 i1 wv _ ⟨i,he,hi,hM,hX⟩
  simp only [List.cons.injEq,Value.int.injEq,true_and,and_true] at he
  obtain ⟨rfl,rfl⟩ := he
  have hr := gK_range (k:=k) hs i hi
  refine ⟨fun hlt => ?_,fun hge => ?_⟩
  · have hlt := of_decide_eq_true hlt
    have sm := hs (i : Int) (by omega) hlt
    have s1 := sm.lo
    have s2 := sm.dr
    have s3 := sm.sh
    have hG0 := markG_gi (gs:=W.groups) (k:=k) i i hi
    rw [if_neg (by omega)] at hG0
    have hlen : (markG W.groups k i).length = n := by rw [markG_len,hnl]
    have hM0 : MWd n base wv (setGr { W with groups := markG W.groups k i } (i : Int) (gi W.groups (i : Int))) m := by
      have e : setGr { W with groups := markG W.groups k i } (i : Int) (gi W.groups (i : Int)) = { W with groups := markG W.groups k i } := by
        unfold setGr
        dsimp only
        rw [← hG0,set_self0 (by omega) (by rw [markG_len]; exact hlt)]
      rw [e]; exact hM
    have hdef : ({ W with groups := markG W.groups k (i + 1) } : Wld) = setGr { W with groups := markG W.groups k i } (i : Int) (mkG (gi W.groups (i : Int)) (gK W.groups k i)) := by
      unfold setGr
      simp only [markG,Int.toNat_natCast]
    have hnx : gK W.groups k (i + 1) = nxK (gi W.groups (i : Int)) (gK W.groups k i) := rfl
    have hKr : gK W.groups k i ≤ 50000000000000000 := by omega
    have hK0 : 0 ≤ gK W.groups k i := by omega
    have i0 : (0 : Int) ≤ (i : Int) := by omega
    have i1 : (i : Int) < (n : Int) := by omega
    generalize ({ W with groups := markG W.groups k i } : Wld) = W1 at hM hM0 hdef
    have hl1 : W1.groups.length = n := hM.len
    clear hG0 hlen hM
    generalize gi W.groups (i : Int) = G at hM0 hdef hnx s1 s2 s3
    generalize gK W.groups k i = K at hKr hK0 hnx hdef ⊢
    have hix : Ix m.gO W.groups.length (i : Int) := by
      have := (hM0.rd (bs:=[]) (by simp)).g.ix (i:=(i : Int)) i0 (by show (i : Int) < (((W1.groups.set (Int.toNat (i : Int)) G).length : Nat) : Int); rw [List.length_set]; omega)
      rw [show (setGr W1 (i : Int) G).groups.length = W.groups.length by show (W1.groups.set (Int.toNat (i : Int)) G).length = _; rw [List.length_set]; omega] at this
      exact this
    have hM1 := hM0.grSto i0 i1 hl1 (G' := { G with used := (Int.tmod (K) 3 == 0) }) rfl rfl rfl (j:=0) (vs:=[.bool (Int.tmod K 3 == 0)]) rfl (by simp)
    have hM2 := hM1.grSto i0 i1 hl1 (G' := { G with used := (Int.tmod (K) 3 == 0),parent := K + 1 }) rfl rfl rfl (j:=1) (vs:=[.int .i64 (K + 1)]) rfl (by simp)
    have hM3 := hM2.grSto i0 i1 hl1 (G' := { G with used := (Int.tmod (K) 3 == 0),parent := K + 1,name := mtx (K + 1 + 1) }) rfl rfl rfl (j:=2) (vs:=[.string (mtx (K + 1 + 1))]) rfl (by simp)
    have hM4 := hM3.grSto i0 i1 hl1 (G' := { G with used := (Int.tmod (K) 3 == 0),parent := K + 1,name := mtx (K + 1 + 1),weight := K + 1 + 1 + 1 }) rfl rfl rfl (j:=3) (vs:=[.int .i64 (K + 1 + 1 + 1)]) rfl (by simp)
    have hM5 := hM4.grSto i0 i1 hl1 (G' := { G with used := (Int.tmod (K) 3 == 0),parent := K + 1,name := mtx (K + 1 + 1),weight := K + 1 + 1 + 1,cpus := K + 1 + 1 + 1 + 1 }) rfl rfl rfl (j:=4) (vs:=[.int .i64 (K + 1 + 1 + 1 + 1)]) rfl (by simp)
    have hM6 := hM5.grSto i0 i1 hl1 (G' := { G with used := (Int.tmod (K) 3 == 0),parent := K + 1,name := mtx (K + 1 + 1),weight := K + 1 + 1 + 1,cpus := K + 1 + 1 + 1 + 1,period := K + 1 + 1 + 1 + 1 + 1 }) rfl rfl rfl (j:=5) (vs:=[.int .i64 (K + 1 + 1 + 1 + 1 + 1)]) rfl (by simp)
    have hM7 := hM6.grSto i0 i1 hl1 (G' := { G with used := (Int.tmod (K) 3 == 0),parent := K + 1,name := mtx (K + 1 + 1),weight := K + 1 + 1 + 1,cpus := K + 1 + 1 + 1 + 1,period := K + 1 + 1 + 1 + 1 + 1,next := K + 1 + 1 + 1 + 1 + 1 + 1 }) rfl rfl rfl (j:=6) (vs:=[.int .i64 (K + 1 + 1 + 1 + 1 + 1 + 1)]) rfl (by simp)
    have hM8 := hM7.grSto i0 i1 hl1 (G' := { G with used := (Int.tmod (K) 3 == 0),parent := K + 1,name := mtx (K + 1 + 1),weight := K + 1 + 1 + 1,cpus := K + 1 + 1 + 1 + 1,period := K + 1 + 1 + 1 + 1 + 1,next := K + 1 + 1 + 1 + 1 + 1 + 1,sum := K + 1 + 1 + 1 + 1 + 1 + 1 + 1 }) rfl rfl rfl (j:=7) (vs:=[.int .i64 (K + 1 + 1 + 1 + 1 + 1 + 1 + 1)]) rfl (by simp)
    have hM9 := hM8.grSto i0 i1 hl1 (G' := { G with used := (Int.tmod (K) 3 == 0),parent := K + 1,name := mtx (K + 1 + 1),weight := K + 1 + 1 + 1,cpus := K + 1 + 1 + 1 + 1,period := K + 1 + 1 + 1 + 1 + 1,next := K + 1 + 1 + 1 + 1 + 1 + 1,sum := K + 1 + 1 + 1 + 1 + 1 + 1 + 1,band := { G.band with quota := K + 1 + 1 + 1 + 1 + 1 + 1 + 1 + 1 } }) rfl rfl rfl (j:=8) (vs:=[.int .i64 (K + 1 + 1 + 1 + 1 + 1 + 1 + 1 + 1)]) rfl (by simp)
    have hM10 := hM9.grSto i0 i1 hl1 (G' := { G with used := (Int.tmod (K) 3 == 0),parent := K + 1,name := mtx (K + 1 + 1),weight := K + 1 + 1 + 1,cpus := K + 1 + 1 + 1 + 1,period := K + 1 + 1 + 1 + 1 + 1,next := K + 1 + 1 + 1 + 1 + 1 + 1,sum := K + 1 + 1 + 1 + 1 + 1 + 1 + 1,band := { G.band with quota := K + 1 + 1 + 1 + 1 + 1 + 1 + 1 + 1,pool := K + 1 + 1 + 1 + 1 + 1 + 1 + 1 + 1 + 1 } }) rfl rfl rfl (j:=9) (vs:=[.int .i64 (K + 1 + 1 + 1 + 1 + 1 + 1 + 1 + 1 + 1)]) rfl (by simp)
    have hM11 := hM10.grSto i0 i1 hl1 (G' := { G with used := (Int.tmod (K) 3 == 0),parent := K + 1,name := mtx (K + 1 + 1),weight := K + 1 + 1 + 1,cpus := K + 1 + 1 + 1 + 1,period := K + 1 + 1 + 1 + 1 + 1,next := K + 1 + 1 + 1 + 1 + 1 + 1,sum := K + 1 + 1 + 1 + 1 + 1 + 1 + 1,band := { G.band with quota := K + 1 + 1 + 1 + 1 + 1 + 1 + 1 + 1,pool := K + 1 + 1 + 1 + 1 + 1 + 1 + 1 + 1 + 1,spent := K + 1 + 1 + 1 + 1 + 1 + 1 + 1 + 1 + 1 + 1 } }) rfl rfl rfl (j:=10) (vs:=[.int .i64 (K + 1 + 1 + 1 + 1 + 1 + 1 + 1 + 1 + 1 + 1)]) rfl (by simp)
    have hc11 := hM11.grRd i0 (by omega)
    have hX11 : ExtX (wBlks n m) wv _ := ((((((((((subG (n:=n) (m:=m) (w:=wv) (k:=Int.toNat (i : Int) * 14 + 0) (vs:=[.bool (Int.tmod K 3 == 0)])).trans (subG (n:=n) (m:=m) (k:=Int.toNat (i : Int) * 14 + 1) (vs:=[.int .i64 (K + 1)]))).trans (subG (n:=n) (m:=m) (k:=Int.toNat (i : Int) * 14 + 2) (vs:=[.string (mtx (K + 1 + 1))]))).trans (subG (n:=n) (m:=m) (k:=Int.toNat (i : Int) * 14 + 3) (vs:=[.int .i64 (K + 1 + 1 + 1)]))).trans (subG (n:=n) (m:=m) (k:=Int.toNat (i : Int) * 14 + 4) (vs:=[.int .i64 (K + 1 + 1 + 1 + 1)]))).trans (subG (n:=n) (m:=m) (k:=Int.toNat (i : Int) * 14 + 5) (vs:=[.int .i64 (K + 1 + 1 + 1 + 1 + 1)]))).trans (subG (n:=n) (m:=m) (k:=Int.toNat (i : Int) * 14 + 6) (vs:=[.int .i64 (K + 1 + 1 + 1 + 1 + 1 + 1)]))).trans (subG (n:=n) (m:=m) (k:=Int.toNat (i : Int) * 14 + 7) (vs:=[.int .i64 (K + 1 + 1 + 1 + 1 + 1 + 1 + 1)]))).trans (subG (n:=n) (m:=m) (k:=Int.toNat (i : Int) * 14 + 8) (vs:=[.int .i64 (K + 1 + 1 + 1 + 1 + 1 + 1 + 1 + 1)]))).trans (subG (n:=n) (m:=m) (k:=Int.toNat (i : Int) * 14 + 9) (vs:=[.int .i64 (K + 1 + 1 + 1 + 1 + 1 + 1 + 1 + 1 + 1)]))).trans (subG (n:=n) (m:=m) (k:=Int.toNat (i : Int) * 14 + 10) (vs:=[.int .i64 (K + 1 + 1 + 1 + 1 + 1 + 1 + 1 + 1 + 1 + 1)]))
    refine ⟨by decide,hix,wrG hM0 (bs:=[]) (by simp) i0 i1 (j:=0) (k:=1) (by decide),⟨by omega,by omega⟩,hix,wrG hM1 (bs:=[]) (by simp) i0 i1 (j:=1) (k:=1) (by decide),⟨by omega,by omega⟩,_,k_markText (by omega),hix,wrG hM2 (bs:=[]) (by simp) i0 i1 (j:=2) (k:=1) (by decide),⟨by omega,by omega⟩,hix,wrG hM3 (bs:=[]) (by simp) i0 i1 (j:=3) (k:=1) (by decide),⟨by omega,by omega⟩,hix,wrG hM4 (bs:=[]) (by simp) i0 i1 (j:=4) (k:=1) (by decide),⟨by omega,by omega⟩,hix,wrG hM5 (bs:=[]) (by simp) i0 i1 (j:=5) (k:=1) (by decide),⟨by omega,by omega⟩,hix,wrG hM6 (bs:=[]) (by simp) i0 i1 (j:=6) (k:=1) (by decide),⟨by omega,by omega⟩,hix,wrG hM7 (bs:=[]) (by simp) i0 i1 (j:=7) (k:=1) (by decide),⟨by omega,by omega⟩,hix,wrG hM8 (bs:=[]) (by simp) i0 i1 (j:=8) (k:=1) (by decide),⟨by omega,by omega⟩,hix,wrG hM9 (bs:=[]) (by simp) i0 i1 (j:=9) (k:=1) (by decide),⟨by omega,by omega⟩,hix,wrG hM10 (bs:=[]) (by simp) i0 i1 (j:=10) (k:=1) (by decide),⟨by omega,by omega⟩,hix,_,_,_,cellsX_one (hc11.get 11 _ rfl),fun wr1 hx1 _ => ?_⟩
    have hN1 := hM11.ext0 hx1
    have hO1 := hN1.grOwn i0 i1 hl1
    refine Calls.mono (k_markIntS (k:=K + 1 + 1 + 1 + 1 + 1 + 1 + 1 + 1 + 1 + 1 + 1) hO1.loc s1 (by omega) (by omega)) ?_
    rintro e wv1 ⟨he1,hL1,hy1⟩
    have hN2 := hN1.grIn (G' := { { G with used := (Int.tmod (K) 3 == 0),parent := K + 1,name := mtx (K + 1 + 1),weight := K + 1 + 1 + 1,cpus := K + 1 + 1 + 1 + 1,period := K + 1 + 1 + 1 + 1 + 1,next := K + 1 + 1 + 1 + 1 + 1 + 1,sum := K + 1 + 1 + 1 + 1 + 1 + 1 + 1,band := { G.band with quota := K + 1 + 1 + 1 + 1 + 1 + 1 + 1 + 1,pool := K + 1 + 1 + 1 + 1 + 1 + 1 + 1 + 1 + 1,spent := K + 1 + 1 + 1 + 1 + 1 + 1 + 1 + 1 + 1 + 1 } } with band := { ({ G with used := (Int.tmod (K) 3 == 0),parent := K + 1,name := mtx (K + 1 + 1),weight := K + 1 + 1 + 1,cpus := K + 1 + 1 + 1 + 1,period := K + 1 + 1 + 1 + 1 + 1,next := K + 1 + 1 + 1 + 1 + 1 + 1,sum := K + 1 + 1 + 1 + 1 + 1 + 1 + 1,band := { G.band with quota := K + 1 + 1 + 1 + 1 + 1 + 1 + 1 + 1,pool := K + 1 + 1 + 1 + 1 + 1 + 1 + 1 + 1 + 1,spent := K + 1 + 1 + 1 + 1 + 1 + 1 + 1 + 1 + 1 + 1 } } : Grp).band with locals := markI G.band.locals.length (K + 1 + 1 + 1 + 1 + 1 + 1 + 1 + 1 + 1 + 1 + 1) } }) i0 i1 hl1 hy1 (fun x hx => by simp [grpBlks]; exact .inl hx) ⟨hL1,hO1.dry.ext hy1 (hO1.dry.ty_ne hO1.loc (by decide)),hO1.shl.ext hy1 (hO1.shl.ty_ne hO1.loc (by decide))⟩ (by simp [encG,markI_len])
    have hc2 := hN2.grRd i0 (by omega)
    refine ⟨_,he1,kept_nil,hix,_,_,_,cellsX_one (hc2.get 12 _ rfl),fun wr2 hx2 _ => ?_⟩
    have hN3 := hN2.ext0 hx2
    have hO3 := hN3.grOwn i0 i1 hl1
    refine Calls.mono (k_markBoolS (k:=K + 1 + 1 + 1 + 1 + 1 + 1 + 1 + 1 + 1 + 1 + 1 + 1 * (G.band.locals.length : Int)) hO3.dry s2 (by omega) (by omega)) ?_
    rintro e wv2 ⟨he2,hD1,hy2⟩
    have hN4 := hN3.grIn (G' := { mkG G K with shelves := G.shelves }) i0 i1 hl1 hy2 (fun x hx => by simp [grpBlks]; exact .inr (.inl hx)) ⟨hO3.loc.ext hy2 (hO3.loc.ty_ne hO3.dry (by decide)),hD1,hO3.shl.ext hy2 (hO3.shl.ty_ne hO3.dry (by decide))⟩ (by simp [encG,mkG,markI_len,markB_len])
    have hc4 := hN4.grRd i0 (by omega)
    refine ⟨_,he2,kept_nil,hix,_,_,_,cellsX_one (hc4.get 13 _ rfl),fun wr3 hx3 _ => ?_⟩
    have hN5 := hN4.ext0 hx3
    have hO5 := hN5.grOwn i0 i1 hl1
    refine Calls.mono (k_markShelfS (k:=K + 1 + 1 + 1 + 1 + 1 + 1 + 1 + 1 + 1 + 1 + 1 + 1 * (G.band.locals.length : Int) + 1 * (G.band.dry.length : Int)) hO5.shl s3 (by omega) (by omega)) ?_
    rintro e wv3 ⟨he3,hS1,hy3⟩
    have hN6 := hN5.grIn (G' := mkG G K) i0 i1 hl1 hy3 (fun x hx => by simp [grpBlks]; exact .inr (.inr hx)) ⟨hO5.loc.ext hy3 (hO5.loc.ty_ne hO5.shl (by decide)),hO5.dry.ext hy3 (hO5.dry.ty_ne hO5.shl (by decide)),hS1⟩ (by simp [encG,mkG,markS_len])
    refine ⟨_,he3,kept_nil,⟨by omega,by omega⟩,fun w4 hx4 _ => ⟨⟨i + 1,?_,by omega,?_,?_⟩,?_⟩⟩
    · rw [hnx]; rfl
    · rw [hdef]; exact hN6.ext0 hx4
    · have m1 : ∀ x ∈ blkOf (m.ms (Int.toNat (i : Int))).lO,x ∈ wBlks n m := fun x hx => mem_wM (k:=Int.toNat (i : Int)) (by omega) (by simp [grpBlks]; exact .inl (by simpa using hx))
      have m2 : ∀ x ∈ blkOf (m.ms (Int.toNat (i : Int))).dO,x ∈ wBlks n m := fun x hx => mem_wM (k:=Int.toNat (i : Int)) (by omega) (by simp [grpBlks]; exact .inr (.inl (by simpa using hx)))
      have m3 : ∀ x ∈ blkOf (m.ms (Int.toNat (i : Int))).sO,x ∈ wBlks n m := fun x hx => mem_wM (k:=Int.toNat (i : Int)) (by omega) (by simp [grpBlks]; exact .inr (.inr (by simpa using hx)))
      exact (((((((hX.trans hX11).trans hx1.of_nil).trans (hy1.mono m1)).trans hx2.of_nil).trans (hy2.mono m2)).trans hx3.of_nil).trans (hy3.mono m3)).trans hx4.of_nil
    · simp only [cntMw,cntM,ctrAt,List.getElem?_cons_zero,List.getElem?_cons_succ]; omega
  · have hge := of_decide_eq_false hge
    have : i = W.groups.length := by omega
    subst this
    exact fun w5 hx5 => ⟨rfl,hM.ext0 hx5,hX.trans hx5.of_nil⟩
set_option maxHeartbeats 1000000 in
theorem k_heldGroupS {gs gs0 : List Grp} {ms : Nat → MG} {o : Option Addr} {c : Nat} {k : Int} {bs : List Nat} (h : RdG bs w o gs ms) (hl : gs.length = gs0.length) (hln : gs0.length ≤ 1048576) (hm : ∀ i : Nat,i < gs0.length → gi gs (i : Int) = mkG (gi gs0 (i : Int)) (gK gs0 k i)) (hs : ∀ i : Int,0 ≤ i → i < (gs0.length : Int) → SmG (gi gs0 i)) (hk : 0 ≤ k) (hk2 : k ≤ 10000000000000000) :
    PureX bs Tryz.prog fn_laws_heldGroupS #[.slice o gs0.length c,.int .i64 k] w (.int .i64 (gK gs0 k gs0.length)) :=
  p_laws_heldGroupS o gs0.length c k fun wr hx => by
    have h := (h.ext hx).less (cs:=[]) (by simp)
    refine loop2 gs0.length 0 rfl (fun x i => i ≤ gs0.length ∧ x = gK gs0 k i) ⟨Nat.zero_le _,rfl⟩ fun x i ⟨hi,hx1⟩ => ⟨fun hlt => ?_,fun hge => ?_⟩
    · subst hx1
      have hlt := of_decide_eq_true hlt
      have hr := gK_range (k:=k) hs i hi
      have sm := hs (i : Int) (by omega) hlt
      have s1 := sm.lo
      have s2 := sm.dr
      have s3 := sm.sh
      have hg := hm i (by omega)
      have hc := h.cells (i : Int) (by omega) (by omega)
      have hix : Ix o gs0.length (i : Int) := by have := h.ix (i:=(i : Int)) (by omega) (by omega); rwa [hl] at this
      have hLo := h.locals (i : Int) (by omega) (by omega)
      have hDo := h.dry (i : Int) (by omega) (by omega)
      have hSo := h.shelves (i : Int) (by omega) (by omega)
      have e1 : (gi gs (i : Int)).band.locals = markI (gi gs0 (i : Int)).band.locals.length (gK gs0 k i + 1 + 1 + 1 + 1 + 1 + 1 + 1 + 1 + 1 + 1 + 1) := by rw [hg]; rfl
      have e2 : (gi gs (i : Int)).band.dry = markB (gi gs0 (i : Int)).band.dry.length (gK gs0 k i + 1 + 1 + 1 + 1 + 1 + 1 + 1 + 1 + 1 + 1 + 1 + 1 * ((gi gs0 (i : Int)).band.locals.length : Int)) := by rw [hg]; rfl
      have e3 : (gi gs (i : Int)).shelves = markS (gi gs0 (i : Int)).shelves.length (gK gs0 k i + 1 + 1 + 1 + 1 + 1 + 1 + 1 + 1 + 1 + 1 + 1 + 1 * ((gi gs0 (i : Int)).band.locals.length : Int) + 1 * ((gi gs0 (i : Int)).band.dry.length : Int)) := by rw [hg]; rfl
      have hI := k_heldIntS (c:=(ms (Int.toNat (i : Int))).lC) (e1 ▸ hLo) s1 (by omega) (by omega)
      have hB := k_heldBoolS (c:=(ms (Int.toNat (i : Int))).dC) (e2 ▸ hDo) s2 (by omega) (by omega)
      have hS := k_heldShelfS (c:=(ms (Int.toNat (i : Int))).sC) (e3 ▸ hSo) s3 (by omega) (by omega)
      have l1 : (gi gs (i : Int)).band.locals.length = (gi gs0 (i : Int)).band.locals.length := by rw [e1,markI_len]
      have l2 : (gi gs (i : Int)).band.dry.length = (gi gs0 (i : Int)).band.dry.length := by rw [e2,markB_len]
      have l3 : (gi gs (i : Int)).shelves.length = (gi gs0 (i : Int)).shelves.length := by rw [e3,markS_len]
      have c11 : CellsX [] wr o (Int.toNat (i : Int) * 14 + 11) [.slice (ms (Int.toNat (i : Int))).lO (gi gs0 (i : Int)).band.locals.length (ms (Int.toNat (i : Int))).lC] := by rw [← l1]; exact cellsX_one (hc.get 11 _ rfl)
      have c12 : CellsX [] wr o (Int.toNat (i : Int) * 14 + 12) [.slice (ms (Int.toNat (i : Int))).dO (gi gs0 (i : Int)).band.dry.length (ms (Int.toNat (i : Int))).dC] := by rw [← l2]; exact cellsX_one (hc.get 12 _ rfl)
      have c13 : CellsX [] wr o (Int.toNat (i : Int) * 14 + 13) [.slice (ms (Int.toNat (i : Int))).sO (gi gs0 (i : Int)).shelves.length (ms (Int.toNat (i : Int))).sC] := by rw [← l3]; exact cellsX_one (hc.get 13 _ rfl)
      have f0 : (gi gs (i : Int)).used = (Int.tmod (gK gs0 k i) 3 == 0) := by rw [hg]; rfl
      have f1 : (gi gs (i : Int)).parent = gK gs0 k i + 1 := by rw [hg]; rfl
      have f2 : (gi gs (i : Int)).name = mtx (gK gs0 k i + 1 + 1) := by rw [hg]; rfl
      have f3 : (gi gs (i : Int)).weight = gK gs0 k i + 1 + 1 + 1 := by rw [hg]; rfl
      have f4 : (gi gs (i : Int)).cpus = gK gs0 k i + 1 + 1 + 1 + 1 := by rw [hg]; rfl
      have f5 : (gi gs (i : Int)).period = gK gs0 k i + 1 + 1 + 1 + 1 + 1 := by rw [hg]; rfl
      have f6 : (gi gs (i : Int)).next = gK gs0 k i + 1 + 1 + 1 + 1 + 1 + 1 := by rw [hg]; rfl
      have f7 : (gi gs (i : Int)).sum = gK gs0 k i + 1 + 1 + 1 + 1 + 1 + 1 + 1 := by rw [hg]; rfl
      have f8 : (gi gs (i : Int)).band.quota = gK gs0 k i + 1 + 1 + 1 + 1 + 1 + 1 + 1 + 1 := by rw [hg]; rfl
      have f9 : (gi gs (i : Int)).band.pool = gK gs0 k i + 1 + 1 + 1 + 1 + 1 + 1 + 1 + 1 + 1 := by rw [hg]; rfl
      have f10 : (gi gs (i : Int)).band.spent = gK gs0 k i + 1 + 1 + 1 + 1 + 1 + 1 + 1 + 1 + 1 + 1 := by rw [hg]; rfl
      refine ⟨hix,_,cellsX_one (hc.get 0 _ rfl),by decide,fun hb => (by rw [f0] at hb; simp at hb),fun _ => ⟨⟨by omega,by omega⟩,hix,_,cellsX_one (hc.get 1 _ rfl),fun hb => (by rw [f1] at hb; simp at hb),fun _ => ⟨⟨by omega,by omega⟩,hix,_,cellsX_one (hc.get 2 _ rfl),_,k_markText (by omega),fun hb => (by rw [f2,strEq_iff.2 rfl] at hb; cases hb),fun _ => ⟨⟨by omega,by omega⟩,hix,_,cellsX_one (hc.get 3 _ rfl),fun hb => (by rw [f3] at hb; simp at hb),fun _ => ⟨⟨by omega,by omega⟩,hix,_,cellsX_one (hc.get 4 _ rfl),fun hb => (by rw [f4] at hb; simp at hb),fun _ => ⟨⟨by omega,by omega⟩,hix,_,cellsX_one (hc.get 5 _ rfl),fun hb => (by rw [f5] at hb; simp at hb),fun _ => ⟨⟨by omega,by omega⟩,hix,_,cellsX_one (hc.get 6 _ rfl),fun hb => (by rw [f6] at hb; simp at hb),fun _ => ⟨⟨by omega,by omega⟩,hix,_,cellsX_one (hc.get 7 _ rfl),fun hb => (by rw [f7] at hb; simp at hb),fun _ => ⟨⟨by omega,by omega⟩,hix,_,cellsX_one (hc.get 8 _ rfl),fun hb => (by rw [f8] at hb; simp at hb),fun _ => ⟨⟨by omega,by omega⟩,hix,_,cellsX_one (hc.get 9 _ rfl),fun hb => (by rw [f9] at hb; simp at hb),fun _ => ⟨⟨by omega,by omega⟩,hix,_,cellsX_one (hc.get 10 _ rfl),fun hb => (by rw [f10] at hb; simp at hb),fun _ => ⟨⟨by omega,by omega⟩,hix,_,_,_,c11,_,hI,fun hb => (by have := of_decide_eq_true hb; omega),fun _ => ⟨hix,_,_,_,c12,_,hB,fun hb => (by have := of_decide_eq_true hb; omega),fun _ => ⟨hix,_,_,_,c13,_,hS,fun hb => (by have := of_decide_eq_true hb; omega),fun _ => ⟨⟨by omega,by omega⟩,loop2_next (by omega) ⟨by omega,rfl⟩⟩⟩⟩⟩⟩⟩⟩⟩⟩⟩⟩⟩⟩⟩⟩
    · have hge := of_decide_eq_false hge
      have : i = gs0.length := by omega
      subst this
      rw [hx1]
end
end Go.Proofs.YtjjdgognjpmipaaGreatDoor
namespace Go.Proofs.YtjjdgognjpmipaaGreatDoor
open Go.RowKit
set_option linter.unusedVariables false
set_option linter.unusedSimpArgs false
set_option maxRecDepth 10000
def kC (W : Wld) : Int := 1 + 5 * (W.cpus.length : Int)
def kT (W : Wld) : Int := kC W + 9 * (W.tasks.length : Int)
def mK (W : Wld) : Int := gK W.groups (kT W) W.groups.length
def markW (W : Wld) : Wld := { W with cpus := markC W.cpus.length 1,tasks := markT W.tasks.length (kC W),groups := markG W.groups (kT W) W.groups.length }
section
variable {n base : Nat} {W : Wld} {m : MW} {w w' : World} {bs : List Nat}
theorem mK_pos (sm : SmW W) : 0 ≤ mK W := by
  have := gK_range (k:=kT W) sm.gs W.groups.length (Nat.le_refl _)
  unfold mK kT kC at *
  omega
theorem k_markWorld (h : MWd n base w W m) (sm : SmW W) :
    Calls Tryz.prog fn_laws_markWorld #[.agg (encW W m).toArray,.int .i64 1] w fun e w' => e = .returned (.int .i64 (mK W)) ∧ MWd n base w' (markW W) m ∧ ExtX (wBlks n m) w w' := by
  refine (e_laws_markWorld W.now m.cO W.cpus.length m.cC m.tO W.tasks.length m.tC m.gO W.groups.length m.gC 1 (R:=fun v w' => v = .int .i64 (mK W) ∧ MWd n base w' (markW W) m ∧ ExtX (wBlks n m) w w') ?_).mono fun e w' ⟨v,he,hv,h1⟩ => ⟨by rw [he,hv],h1⟩
  have s1 := sm.c
  have s2 := sm.t
  have s3 := sm.g
  intro b hb wr hx hs
  have hnb : ∀ y ∈ wBlks n m,y ∉ [b] := fun y hy hm => by
    have : y = b := by simpa using hm
    have := (h.lt y hy).2
    omega
  have hM0 := h.ext0 hx
  refine Calls.mono (k_markCpuS hM0.c s1 (by decide) (by decide)) ?_
  rintro e wv ⟨he,hC,hy⟩
  have hyW : ExtX (wBlks n m) wr wv := hy.mono fun y hy => mem_wC hy
  have hM1 : MWd n base wv { W with cpus := markC W.cpus.length 1 } m := ⟨hC,hM0.t.ext hy (hM0.t.ty_ne hM0.c (by decide)),hM0.g.foreign hM0.c (by decide) (by decide) (by decide) (by decide) hy,hM0.len⟩
  refine ⟨_,he,kept_sep hyW hs hnb,fun wr1 hx1 hs1 => ?_⟩
  have hM2 := hM1.ext hx1 hnb
  refine Calls.mono (k_markTaskS (k:=kC W) hM2.t s2 (by unfold kC; omega) (by unfold kC; omega)) ?_
  rintro e1 wv1 ⟨he1,hT,hy1⟩
  have hyW1 : ExtX (wBlks n m) wr1 wv1 := hy1.mono fun y hy => mem_wT hy
  have hM3 : MWd n base wv1 { W with cpus := markC W.cpus.length 1,tasks := markT W.tasks.length (kC W) } m := ⟨hM2.c.ext hy1 (hM2.c.ty_ne hM2.t (by decide)),hT,hM2.g.foreign hM2.t (by decide) (by decide) (by decide) (by decide) hy1,hM2.len⟩
  refine ⟨_,he1,kept_sep hyW1 hs1 hnb,fun wr2 hx2 hs2 => ?_⟩
  have hM4 := hM3.ext hx2 hnb
  refine Calls.mono (k_markGroupS (W:={ W with cpus := markC W.cpus.length 1,tasks := markT W.tasks.length (kC W) }) (k:=kT W) hM4 s3 sm.gs (by unfold kT kC; omega) (by unfold kT kC; omega)) ?_
  rintro e2 wv2 ⟨he2,hG,hy2⟩
  refine ⟨_,he2,kept_sep hy2 hs2 hnb,fun wr3 hx3 => ⟨rfl,hG.ext hx3 hnb,?_⟩⟩
  have hone : ∀ y ∈ [b],w.heap.size ≤ y := fun y hm => by
    have : y = b := by simpa using hm
    omega
  exact ((((((hx.of_nil.trans hyW).fresh hx1 fun y hm => .inl (hone y hm)).trans hyW1).fresh hx2 fun y hm => .inl (hone y hm)).trans hy2).fresh hx3 fun y hm => .inl (hone y hm))
theorem k_heldWorld (h : RdW bs w (markW W) m) (sm : SmW W) : PureX bs Tryz.prog fn_laws_heldWorld #[.agg (encW W m).toArray,.int .i64 1] w (.int .i64 (mK W)) :=
  p_laws_heldWorld W.now m.cO W.cpus.length m.cC m.tO W.tasks.length m.tC m.gO W.groups.length m.gC 1 fun wr hx => by
    have h := (h.ext hx).less (cs:=[]) (by simp)
    have s1 := sm.c
    have s2 := sm.t
    have s3 := sm.g
    have hp := mK_pos sm
    intro b hb
    refine ⟨_,k_heldCpuS (k:=1) h.c s1 (by decide) (by decide),fun g => ?_,fun _ => ⟨_,k_heldTaskS (k:=kC W) h.t s2 (by unfold kC; omega) (by unfold kC; omega),fun g => ?_,fun _ => ⟨mK W,k_heldGroupS (gs0:=W.groups) (k:=kT W) h.g (markG_len _ _ _) s3 (fun i hi => ?_) sm.gs (by unfold kT kC; omega) (by unfold kT kC; omega),fun g => ?_,fun _ => rfl⟩⟩⟩
    · have := of_decide_eq_true g; omega
    · have := of_decide_eq_true g; unfold kC at this; omega
    · have := markG_gi (gs:=W.groups) (k:=kT W) W.groups.length i (Nat.le_refl _)
      rw [if_pos hi] at this
      exact this
    · have := of_decide_eq_true g; omega
theorem k_toW {D : Wld} {M : MW} {w0 : World} (h : RdW [] w0 D M) (s : Sc w0 bs w) (hs : ∀ x ∈ bs,x < w.heap.size) (sm : SmW D) :
    Calls Tryz.prog fn_laws_toWorld #[.agg (encW D M).toArray] w fun e w' => ∃ m',e = .returned (.agg (encW D m').toArray) ∧ OW D.groups.length w.heap.size bs w' D m' ∧ ExtX [] w w' :=
  (k_toWorld (h.ext s.ext) sm).mono fun e w' ⟨m',he,hO,hx⟩ => ⟨m',he,OW.of (MWd.of hO rfl) hs,hx⟩
theorem eqWW {A : Wld} {ma mb : MW} (ha : RdW bs w A ma) (hb : RdW bs w A mb) (hs : SmW A) : PureX bs Tryz.prog fn_laws_eqWorld #[.agg (encW A ma).toArray,.agg (encW A mb).toArray] w (.bool true) := by
  have := k_eqWorld ha hb hs
  rwa [decide_eq_true rfl] at this
end
theorem sm_zero : SmW zeroW := ⟨by decide,by decide,by decide,fun i a b => by simp [zeroW] at b; omega⟩
theorem sm_of_WA {W : Wld} (ha : WA W) (hn : ∀ i : Int,0 ≤ i → i < 8 → (gi W.groups i).name.size ≤ 1048576) : SmW W := by
  have h1 := ha.c2
  have h2 := ha.t
  have h3 := ha.gl
  refine ⟨by omega,by omega,by omega,fun i a b => ?_⟩
  have := band_len ha a (by omega)
  exact ⟨hn i a (by omega),by omega,by omega,by omega⟩
theorem sm_fr {W W' : Wld} (sm : SmW W) (ha : WA W') (hf : TreeC W.groups W'.groups) : SmW W' := sm_of_WA ha fun i a b => by
  rw [hf.n]
  have hl := ha.gl
  rw [hf.len] at hl
  exact (sm.gs i a (by omega)).nm
theorem ans_sm {W W' : Wld} {bar : Int} (sm : SmW W) (h : worldB W = true → bar = 0 → SmW W') : SmW (ansD W bar W').1 := by
  unfold ansD
  split
  · exact sm_zero
  · rename_i hW
    split
    · exact sm
    · rename_i hb
      exact h (by simpa using hW) (by simpa using hb)
theorem sm_set {K : Int} {W W1 : Wld} (sm : SmW W) (hS : SW K W1) (hK : 0 ≤ K) (hf : TreeC W.groups W1.groups) : SmW (settleD W1) :=
  sm_fr sm (settleD_ok hS hK).1.a (hf.trans (settleD_ok hS hK).2.g)
end Go.Proofs.YtjjdgognjpmipaaGreatDoor
namespace Go.Proofs.YtjjdgognjpmipaaGreatDoor
open Go.RowKit
set_option linter.unusedVariables false
set_option linter.unusedSimpArgs false
set_option maxRecDepth 10000
theorem set_set {W : Wld} {t : Int} {x y : Tsk} : setTk (setTk W t x) t y = setTk W t y := by simp [setTk]
section
variable {W : Wld} {m : MW} {w : World} {bar : Int}
end
end Go.Proofs.YtjjdgognjpmipaaGreatDoor
namespace Go.Proofs.YtjjdgognjpmipaaGreatDoor
open Go.RowKit
set_option linter.unusedVariables false
set_option linter.unusedSimpArgs false
set_option maxRecDepth 10000
theorem sumI_rep0 (n : Nat) : ∀ k : Nat,k ≤ n → sumI (List.replicate n (0 : Int)) k = 0
  | 0,_ => rfl
  | k + 1,hk => by
    simp only [sumI]
    rw [sumI_rep0 n k (by omega),gi_rep _ _ (by omega) (by omega)]; rfl
theorem SW.setGr {K : Int} {W : Wld} (h : SW K W) {g : Int} {x : Grp} (hu : usedD W.groups g = true) (u : x.used = (gi W.groups g).used) (p : x.parent = (gi W.groups g).parent) (n : x.name = (gi W.groups g).name) (s : x.shelves = (gi W.groups g).shelves) (hx : GrpU W g x) : SW K (setGr W g x) := by
  obtain ⟨u0,u1,ut⟩ := usedD_iff.1 hu
  have hl := h.a.gl
  have hT := treeC_set (x:=x) u0 u1 u p n
  have es : ∀ k c : Int,0 ≤ k → shf (Go.Proofs.YtjjdgognjpmipaaGreatDoor.setGr W g x) k c = shf W k c := fun k c k0 => by
    unfold shf
    rw [set_gi u0 u1 k0]
    split
    · rename_i e; subst e; rw [s]
    · rfl
  refine ⟨h.a.set u0 (by omega) u p n (fun hn => by rw [u,ut] at hn; cases hn) fun _ => hx,fun t a b n => by rw [hT.usd]; exact h.t t a b n,h.tv,fun k c uk a b => ?_,h.cu⟩
  rw [hT.usd] at uk
  rw [es k c (usedD_iff.1 uk).1]
  exact h.s k c uk a b
section
variable {W W' : Wld} {m : MW} {w : World} {bar : Int}
theorem mwd_gr {base : Nat} (h : MWd 8 base w W m) {g : Int} (u0 : 0 ≤ g) (u1 : g < 8) {G : Grp} {p : MG} (hp : OwnBd base w G.band p) (hb : ∀ x ∈ bdBlks p,x ∉ wBlks 8 m) (es : G.shelves = (gi W.groups g).shelves) {j : Nat} {vs : List Value}
    (he : encG G (putM (m.ms g.toNat) p) = (encG (gi W.groups g) (m.ms g.toNat)).take j ++ vs ++ (encG (gi W.groups g) (m.ms g.toNat)).drop (j + vs.length)) (hj : j + vs.length ≤ 14) :
    MWd 8 base (sto w m.gO (Int.toNat g * 14 + j) vs) (setGr W g G) (setM m g.toNat (putM (m.ms g.toNat) p)) :=
  h.stoG u0 u1 (g:=G) (p:=putM (m.ms g.toNat) p) ⟨hp.loc,hp.dry,by rw [es]; exact (h.each u0 u1).shl⟩ (fun x hx => by
    rcases putM_blks x hx with h1 | h1
    · exact .inl (hb x h1)
    · exact .inr h1) he hj
theorem Wk.gr {bs : List Nat} {w0 : World} (h : Wk 8 bs w0 w W m) {g : Int} (u0 : 0 ≤ g) (u1 : g < 8) {G : Grp} {p : MG} (hp : OwnBd w0.heap.size w G.band p) (hb : ∀ x ∈ bdBlks p,x ∉ wBlks 8 m ∧ x ∉ bs) (es : G.shelves = (gi W.groups g).shelves) {j : Nat} {vs : List Value}
    (he : encG G (putM (m.ms g.toNat) p) = (encG (gi W.groups g) (m.ms g.toNat)).take j ++ vs ++ (encG (gi W.groups g) (m.ms g.toNat)).drop (j + vs.length)) (hj : j + vs.length ≤ 14) :
    Wk 8 bs w0 (Go.Proofs.YtjjdgognjpmipaaGreatDoor.sto w m.gO (Int.toNat g * 14 + j) vs) (setGr W g G) (setM m g.toNat (putM (m.ms g.toNat) p)) :=
  ⟨h.s.call subG fun x hx => (h.own.lt x hx).1,⟨mwd_gr h.own u0 u1 hp (fun x hx => (hb x hx).1) es he hj,fun x hx => by
    rcases setM_blks x hx with h1 | h1
    · exact h.nb x h1
    · rcases putM_blks x h1 with h2 | h2
      · exact (hb x h2).2
      · exact h.nb x (mem_wM (by omega) h2)⟩⟩
theorem Done.pre {base pb : Nat} {ex : List Nat} {w0 w w' : World} {W' : Wld} {m m' : MW} (hx : ExtX [] w0 w) (h : Done base pb ex w m w' W' m') : Done base pb ex w0 m w' W' m' :=
  ⟨h.own,h.pt,hx.of_nil.trans h.ext,fun x hy => (h.sub x hy).imp id fun hz => Nat.le_trans hx.size hz⟩
theorem Done.post {base pb : Nat} {ex : List Nat} {w w' w1 : World} {W' : Wld} {m m' : MW} (h : Done base pb ex w m w' W' m') (hx : ExtX [] w' w1) : Done base pb ex w m w1 W' m' :=
  ⟨h.own.ext0 hx,blk_ext h.pt hx (by simp),h.ext.trans hx.of_nil,h.sub⟩
theorem Mp.swap {base pb : Nat} {bs : List Nat} {w0 w' : World} {m0 m' : MW} (h : Mp base pb bs w0 m0 w W m) (k : MWd 8 base w' W' m') (hx : ExtX (wBlks 8 m) w w') (hm : m' = { m with ms := m'.ms })
    (hsub : ∀ x ∈ wBlks 8 m',x ∈ wBlks 8 m ∨ (w0.heap.size ≤ x ∧ x ∉ bs ∧ x ≠ pb)) (he : encW W' m' = encW W m) : Mp base pb bs w0 m0 w' W' m' :=
  ⟨h.v.swap k hx hm fun x hy => (hsub x hy).imp id fun a => ⟨a.1,a.2.1⟩,by rw [he]; exact blk_ext h.pt hx h.pn,fun hy => by
    rcases hsub pb hy with h1 | h1
    · exact h.pn h1
    · exact h1.2.2 rfl,h.pb⟩
theorem Mp.gr {base pb : Nat} {w0 : World} {m0 : MW} (h : Mp base pb [] w0 m0 w W m) {g : Int} (u0 : 0 ≤ g) (u1 : g < 8) {G : Grp} {p : MG} (hp : OwnBd base w G.band p) (hb : ∀ x ∈ bdBlks p,x ∉ wBlks 8 m ∧ w0.heap.size ≤ x ∧ x ≠ pb) (es : G.shelves = (gi W.groups g).shelves) {j : Nat} {vs : List Value}
    (he : encG G (putM (m.ms g.toNat) p) = (encG (gi W.groups g) (m.ms g.toNat)).take j ++ vs ++ (encG (gi W.groups g) (m.ms g.toNat)).drop (j + vs.length)) (hj : j + vs.length ≤ 14) :
    Mp base pb [] w0 m0 (Go.Proofs.YtjjdgognjpmipaaGreatDoor.sto w m.gO (Int.toNat g * 14 + j) vs) (setGr W g G) (setM m g.toNat (putM (m.ms g.toNat) p)) :=
  h.swap (mwd_gr h.own u0 u1 hp (fun x hx => (hb x hx).1) es he hj) subG rfl (fun x hx => by
    rcases setM_blks x hx with h1 | h1
    · exact .inl h1
    · rcases putM_blks x h1 with h2 | h2
      · exact .inr ⟨(hb x h2).2.1,by simp,(hb x h2).2.2⟩
      · exact .inl (mem_wM (by omega) h2)) (by simp [encW,setGr,setM])
theorem Mp.grf {base pb : Nat} {bs : List Nat} {w0 : World} {m0 : MW} (h : Mp base pb bs w0 m0 w W m) {g : Int} (u0 : 0 ≤ g) (u1 : g < 8) {G : Grp} (e1 : G.band.locals = (gi W.groups g).band.locals) (e2 : G.band.dry = (gi W.groups g).band.dry) (e3 : G.shelves = (gi W.groups g).shelves) {j : Nat} {vs : List Value}
    (he : encG G (m.ms g.toNat) = (encG (gi W.groups g) (m.ms g.toNat)).take j ++ vs ++ (encG (gi W.groups g) (m.ms g.toNat)).drop (j + vs.length)) (hj : j + vs.length ≤ 14) :
    Mp base pb bs w0 m0 (Go.Proofs.YtjjdgognjpmipaaGreatDoor.sto w m.gO (Int.toNat g * 14 + j) vs) (setGr W g G) m :=
  h.deed (h.own.stoG0 u0 u1 e1 e2 e3 he hj) subG (by simp [encW,setGr])
end
end Go.Proofs.YtjjdgognjpmipaaGreatDoor
namespace Go.Proofs.YtjjdgognjpmipaaGreatDoor
open Go.RowKit
set_option linter.unusedVariables false
set_option linter.unusedSimpArgs false
set_option maxRecDepth 10000
def lagT (W : Wld) (t : Int) : Int := lagCut ((tkk W t).v - (shf W (tkk W t).group (tkk W t).cpu).floor) (weightOf (tkk W t).nice)
def putT (W : Wld) (t g c : Int) : Tsk := { tkk W t with group := g,cpu := c,v := (shf W g c).floor + lagT W t }
def putW (W : Wld) (t g c : Int) : Wld := if (tkk W t).state = 1 then endW (setTk W t (putT W t g c)) c else setTk W t (putT W t g c)
theorem SF.setTk {F K : Int} {W : Wld} (h : SF F K W) {t : Int} (t0 : 0 ≤ t) (t1 : t < 12) {x : Tsk} (hx : x.state ≠ 0 → usedD W.groups x.group = true ∧ 0 ≤ x.cpu ∧ x.cpu < (W.cpus.length : Int)) (v0 : 0 ≤ x.v) (v1 : x.v ≤ K) : SF F K (setTk W t x) := ⟨h.w.setTk t0 t1 hx v0 v1,h.f⟩
theorem SF.endW {F K : Int} {W : Wld} (h : SF F K W) {c : Int} (c0 : 0 ≤ c) (c1 : c < (W.cpus.length : Int)) : SF F K (endW W c) :=
  ⟨h.w.endW c0 c1,fun k d u a b => h.f k d u a (by
    have b : d < (((W.cpus.set c.toNat (endC (gi W.cpus c))).length : Nat) : Int) := b
    rwa [List.length_set] at b)⟩
theorem put_fr (W : Wld) (t g c : Int) : (putW W t g c).now = W.now ∧ (putW W t g c).cpus.length = W.cpus.length ∧ (putW W t g c).tasks.length = W.tasks.length ∧ (putW W t g c).groups = W.groups := by
  unfold putW
  split
  · exact ⟨rfl,by simp [endW,setCp,setTk],by simp [endW,setCp,setTk],rfl⟩
  · exact ⟨rfl,rfl,by simp [setTk],rfl⟩
structure RelF (W W' : Wld) : Prop where
  n : W'.now = W.now
  c : W'.cpus.length = W.cpus.length
  t : W'.tasks.length = W.tasks.length
  g : W'.groups = W.groups
theorem RelF.refl (W : Wld) : RelF W W := ⟨rfl,rfl,rfl,rfl⟩
theorem RelF.trans {A B C : Wld} (h : RelF A B) (k : RelF B C) : RelF A C := ⟨k.n.trans h.n,k.c.trans h.c,k.t.trans h.t,k.g.trans h.g⟩
theorem RelF.put (W : Wld) (t g c : Int) : RelF W (putW W t g c) := by
  obtain ⟨h1,h2,h3,h4⟩ := put_fr W t g c
  exact ⟨h1,h2,h3,h4⟩
end Go.Proofs.YtjjdgognjpmipaaGreatDoor
namespace Go.Proofs.YtjjdgognjpmipaaGreatDoor
open Go.RowKit
set_option linter.unusedVariables false
set_option linter.unusedSimpArgs false
set_option maxRecDepth 10000
def beatD (l u : Int) : Int := if inB l 0 8000000 = true ∧ inB u 0 1000000 = true then l - Int.tdiv l 8 + u else 0
def decT (x : Tsk) : Tsk := { x with used := 0,load := minI (beatD x.load (minI x.used 1000000)) 8000000 }
def decN (W : Wld) : Nat → Wld
  | 0 => W
  | t + 1 => setTk (decN W t) (t : Int) (decT (tkk (decN W t) (t : Int)))
def nextI (next p now : Int) : Nat → Int
  | 0 => next
  | i + 1 => if nextI next p now i ≤ now + ((i : Int) + 1) then nextI next p now i + p else nextI next p now i
theorem nextI_far {next p now : Int} : ∀ i : Nat,now + (i : Int) < next → nextI next p now i = next
  | 0,_ => rfl
  | i + 1,h => by
    have h : now + ((i : Int) + 1) < next := by have := h; push_cast at this; omega
    simp only [nextI]
    rw [nextI_far i (by omega),if_neg (by omega)]
structure JustP (next p now v : Int) : Prop where
  gt : now < v
  at' : ∃ j : Nat,v = next + p * (j : Int) ∧ (j = 0 ∨ v - p ≤ now)
theorem nextI_just {next p now : Int} (hp : 1 ≤ p) (hn : now < next) : ∀ i : Nat,JustP next p (now + (i : Int)) (nextI next p now i)
  | 0 => ⟨by simp only [nextI]; omega,0,by simp only [nextI]; omega,.inl rfl⟩
  | i + 1 => by
    obtain ⟨h1,j,h2,h3⟩ := nextI_just hp hn i
    simp only [nextI]
    push_cast
    split
    · refine ⟨by omega,j + 1,?_,.inr (by omega)⟩
      rw [h2]; push_cast; rw [Int.mul_add,Int.mul_one,Int.add_assoc]
    · exact ⟨by omega,j,h2,h3.imp id fun h => by omega⟩
theorem just_eq {next p now v v' : Int} (hp : 1 ≤ p) (h : JustP next p now v) (h' : JustP next p now v') : v = v' := by
  obtain ⟨h1,j,h2,h3⟩ := h
  obtain ⟨k1,k,k2,k3⟩ := h'
  have key : ∀ a b : Nat,a < b → p * (a : Int) + p ≤ p * (b : Int) := fun a b hab => by
    have : p * ((a : Int) + 1) ≤ p * (b : Int) := Int.mul_le_mul_of_nonneg_left (by omega) (by omega)
    rw [Int.mul_add,Int.mul_one] at this
    exact this
  rcases Nat.lt_trichotomy j k with h | h | h
  · have := key j k h; omega
  · subst h; omega
  · have := key k j h; omega
def passG (now : Int) (n : Nat) (G : Grp) : Grp := if (G.used && (G.band.quota != 0)) = true ∧ G.next ≤ now + (n : Int) then { G with next := nextI G.next G.period now n,band := fillB G.band } else G
def tickG (now : Int) (G : Grp) : Grp := if G.band.quota ≠ 0 ∧ G.next ≤ now then { G with next := G.next + G.period,band := fillB G.band } else G
theorem fillB_twice (b : Bnd) : fillB (fillB b) = fillB b := by simp [fillB]
theorem passG_zero {now : Int} {G : Grp} (h : G.band.quota ≠ 0 → now < G.next) : passG now 0 G = G := by
  unfold passG
  rw [if_neg]
  rintro ⟨h1,h2⟩
  simp only [Bool.and_eq_true,bne_iff_ne,ne_eq] at h1
  have := h h1.2
  simp at h2
  omega
theorem passG_tick {now : Int} {n : Nat} {G : Grp} (hu : G.band.quota ≠ 0 → G.used = true) : tickG (now + ((n : Int) + 1)) (passG now n G) = passG now (n + 1) G := by
  by_cases hq : G.band.quota ≠ 0
  · have hc : (G.used && (G.band.quota != 0)) = true := by rw [hu hq]; simpa using hq
    unfold passG
    rw [hc]
    simp only [true_and]
    push_cast
    by_cases h1 : G.next ≤ now + (n : Int)
    · rw [if_pos h1,if_pos (show G.next ≤ now + ((n : Int) + 1) by omega)]
      unfold tickG
      simp only [nextI]
      rw [show ({ G with next := nextI G.next G.period now n,band := fillB G.band } : Grp).band.quota = G.band.quota from rfl]
      by_cases h2 : nextI G.next G.period now n ≤ now + ((n : Int) + 1)
      · rw [if_pos ⟨hq,h2⟩,if_pos h2]
        simp only [fillB_twice]
      · rw [if_neg (fun h => h2 h.2),if_neg h2]
    · rw [if_neg h1]
      unfold tickG
      by_cases h2 : G.next ≤ now + ((n : Int) + 1)
      · rw [if_pos ⟨hq,h2⟩,if_pos h2]
        simp only [nextI]
        rw [nextI_far n (by omega),if_pos h2]
      · rw [if_neg (fun h => h2 h.2),if_neg h2]
  · have hc : ∀ k : Nat,passG now k G = G := fun k => by
      unfold passG
      rw [if_neg]
      rintro ⟨h1,_⟩
      simp only [Bool.and_eq_true,bne_iff_ne,ne_eq] at h1
      exact hq h1.2
    rw [hc,hc]
    unfold tickG
    rw [if_neg (fun h => hq h.1)]
def passK (W : Wld) (n : Nat) : Nat → Wld
  | 0 => { W with now := W.now + (n : Int) }
  | k + 1 => setGr (passK W n k) (k : Int) (passG W.now n (gi W.groups (k : Int)))
def passW (W : Wld) (n : Nat) : Wld := passK W n 8
noncomputable def timeB (W : Wld) (n : Int) : Int := if inB n 1 1000 = false then 1 else if roomB W = false then 10 else 0
def timeW (W : Wld) (n : Int) : Wld := settleD (decN (passW W n.toNat) 12)
theorem passG_u (now : Int) (n : Nat) (G : Grp) : (passG now n G).used = G.used ∧ (passG now n G).parent = G.parent ∧ (passG now n G).name = G.name ∧ (passG now n G).shelves = G.shelves ∧ (passG now n G).weight = G.weight ∧ (passG now n G).cpus = G.cpus ∧ (passG now n G).sum = G.sum ∧ (passG now n G).period = G.period ∧ (passG now n G).band.quota = G.band.quota := by
  unfold passG; split <;> exact ⟨rfl,rfl,rfl,rfl,rfl,rfl,rfl,rfl,rfl⟩
theorem passK_len (W : Wld) (n : Nat) : ∀ k : Nat,(passK W n k).groups.length = W.groups.length ∧ (passK W n k).now = W.now + (n : Int) ∧ (passK W n k).cpus = W.cpus ∧ (passK W n k).tasks = W.tasks
  | 0 => ⟨rfl,rfl,rfl,rfl⟩
  | k + 1 => by
    obtain ⟨a,b,c,d⟩ := passK_len W n k
    exact ⟨by show (List.set _ _ _).length = _; rw [List.length_set]; exact a,b,c,d⟩
theorem passK_gi (W : Wld) (n : Nat) : ∀ k : Nat,k ≤ W.groups.length → ∀ i : Int,0 ≤ i → gi (passK W n k).groups i = if i < (k : Int) then passG W.now n (gi W.groups i) else gi W.groups i
  | 0,_,i,i0 => by rw [if_neg (by omega)]; rfl
  | k + 1,hk,i,i0 => by
    have ih := passK_gi W n k (by omega) i i0
    have hl := (passK_len W n k).1
    show gi (setGr (passK W n k) (k : Int) _).groups i = _
    rw [set_gi (by omega) (by omega) i0]
    by_cases e : (k : Int) = i
    · subst e
      rw [if_pos rfl,if_pos (by omega)]
    · rw [if_neg e,ih]
      by_cases h : i < (k : Int)
      · rw [if_pos h,if_pos (by omega)]
      · rw [if_neg h,if_neg (by omega)]
theorem decN_ok (W : Wld) : ∀ k : Nat,(decN W k).groups = W.groups ∧ (decN W k).now = W.now ∧ (decN W k).cpus = W.cpus ∧ (decN W k).tasks.length = W.tasks.length
  | 0 => ⟨rfl,rfl,rfl,rfl⟩
  | k + 1 => by
    obtain ⟨a,b,c,d⟩ := decN_ok W k
    exact ⟨a,b,c,by show (List.set _ _ _).length = _; rw [List.length_set]; exact d⟩
theorem decN_sw {K : Int} {W : Wld} (h : SW K W) : ∀ k : Nat,k ≤ 12 → SW K (decN W k)
  | 0,_ => h
  | k + 1,hk => by
    have ih := decN_sw h k (by omega)
    have hv := ih.tv (k : Int) (by omega) (by omega)
    exact ih.setTk (by omega) (by omega) (x:=decT (tkk (decN W k) (k : Int))) (fun hs => ih.t (k : Int) (by omega) (by omega) hs) hv.1 hv.2
theorem fillB_ok {b : Bnd} (h : BndP b) : BndP (fillB b) ∧ (fillB b).locals.length = b.locals.length := by
  have hd := h.dl
  refine ⟨⟨h.q1,h.q2,by simp only [fillB,List.length_replicate]; have := h.l1; omega,by simp only [fillB,List.length_replicate]; have := h.l2; omega,by simp [fillB],by simp only [fillB]; have := h.q1; omega,Int.le_refl _,by simp [fillB],by simp only [fillB]; have := h.q1; omega,fun c c0 c1 => ?_,?_⟩,by simp [fillB,hd]⟩
  · simp only [fillB,List.length_replicate] at c1 ⊢
    rw [gi_rep _ _ c0 c1,gi_rep _ _ c0 c1]
    have := h.q1
    exact ⟨Int.le_refl _,by omega,fun h => by cases h⟩
  · simp only [fillB,List.length_replicate]
    rw [sumI_rep0 _ _ (Nat.le_refl _)]; omega
theorem passG_ok {W W' : Wld} {n : Nat} {k : Int} {G : Grp} (hg : GrpU W k G) (hu : G.used = true) (hn : W'.now = W.now + (n : Int)) (hc : W'.cpus.length = W.cpus.length) : GrpU W' k (passG W.now n G) := by
  obtain ⟨_,_,_,u4,u5,u6,u7,u8,u9⟩ := passG_u W.now n G
  refine ⟨by rw [u5]; exact hg.w1,by rw [u5]; exact hg.w2,by rw [u6]; exact hg.m,by rw [u6]; exact hg.m0,by rw [u7]; exact hg.s,by rw [u4,hc]; exact hg.len,fun h => by rw [u5,u6,u9]; exact hg.root h,fun hq => ?_,fun hq => ?_⟩
  · rw [u9] at hq
    have : passG W.now n G = G := by
      unfold passG
      rw [if_neg]
      rintro ⟨h1,_⟩
      simp only [Bool.and_eq_true,bne_iff_ne,ne_eq] at h1
      exact h1.2 hq
    rw [this]
    exact hg.none hq
  · rw [u9] at hq
    obtain ⟨b1,b2,b3,b4,b5,b6⟩ := hg.band hq
    rw [hn,hc]
    unfold passG
    split
    · obtain ⟨f1,f2⟩ := fillB_ok b1
      have hj := nextI_just b3 b5 n
      refine ⟨f1,by show (fillB G.band).locals.length = _; rw [f2]; exact b2,b3,b4,hj.gt,?_⟩
      obtain ⟨h1,j,h2,h3⟩ := hj
      show nextI G.next G.period W.now n - (W.now + (n : Int)) ≤ G.period
      rcases h3 with rfl | h3
      · simp at h2; omega
      · omega
    · rename_i hcnd
      have hlt : W.now + (n : Int) < G.next := Int.not_le.1 fun hle => hcnd ⟨by rw [hu]; simpa using hq,hle⟩
      exact ⟨b1,b2,b3,b4,hlt,by omega⟩
theorem passK_tree (W : Wld) (n : Nat) : ∀ k : Nat,k ≤ W.groups.length → TreeC W.groups (passK W n k).groups
  | 0,_ => TreeC.refl _
  | k + 1,hk => by
    have ih := passK_tree W n k (by omega)
    have hl := (passK_len W n k).1
    have e := passK_gi W n k (by omega) (k : Int) (by omega)
    rw [if_neg (by omega)] at e
    obtain ⟨u1,u2,u3,_⟩ := passG_u W.now n (gi W.groups (k : Int))
    exact ih.trans (treeC_set (W:=passK W n k) (g:=(k : Int)) (x:=passG W.now n (gi W.groups (k : Int))) (by omega) (by omega) (by rw [u1,e]) (by rw [u2,e]) (by rw [u3,e]))
theorem passW_sw {K : Int} {W : Wld} {n : Nat} (h : SW K W) (h1 : W.now + (n : Int) ≤ 100000000000000000) : SW K (passW W n) := by
  have hl := h.a.gl
  have hT := passK_tree W n 8 (by omega)
  obtain ⟨l1,l2,l3,l4⟩ := passK_len W n 8
  have e : ∀ i : Int,0 ≤ i → i < 8 → gi (passW W n).groups i = passG W.now n (gi W.groups i) := fun i a b => by
    have := passK_gi W n 8 (by omega) i a
    rwa [if_pos (show i < ((8 : Nat) : Int) by omega)] at this
  have n1 := h.a.n1
  have et : ∀ t : Int,tkk (passW W n) t = tkk W t := fun t => by unfold tkk; rw [show (passW W n).tasks = W.tasks from l4]
  have ec : (passW W n).cpus = W.cpus := l3
  have hT : TreeC W.groups (passW W n).groups := hT
  refine ⟨⟨by rw [show (passW W n).now = _ from l2]; omega,by rw [show (passW W n).now = _ from l2]; exact h1,by rw [ec]; exact h.a.c1,by rw [ec]; exact h.a.c2,by rw [show (passW W n).tasks = W.tasks from l4]; exact h.a.t,hT.tree h.a.tree,by rw [ec]; exact h.a.ups,fun k a b => ?_⟩,fun t a b hs => ?_,fun t a b => ?_,fun k c u a b => ?_,fun c a b => ?_⟩
  · have hg := h.a.grp k a b
    obtain ⟨u1,u2,u3,u4,u5,u6,u7,u8,u9⟩ := passG_u W.now n (gi W.groups k)
    unfold GrpP
    rw [e k a b]
    refine ⟨fun hu => ?_,fun hu => ?_⟩
    · rw [u1] at hu
      have : passG W.now n (gi W.groups k) = gi W.groups k := by
        unfold passG
        rw [if_neg]
        rintro ⟨h1,_⟩
        rw [hu] at h1
        cases h1
      rw [this]
      exact hg.1 hu
    · rw [u1] at hu
      exact passG_ok (hg.2 hu) hu l2 (by rw [ec])
  · rw [et] at hs ⊢
    rw [hT.usd,ec]
    exact h.t t a b hs
  · rw [et]; exact h.tv t a b
  · rw [hT.usd] at u
    rw [ec] at b
    have hk := usedD_iff.1 u
    have : shf (passW W n) k c = shf W k c := by
      unfold shf
      rw [e k hk.1 (by omega),(passG_u W.now n (gi W.groups k)).2.2.2.1]
    rw [this]
    exact h.s k c u a b
  · rw [ec] at b ⊢
    exact h.cu c a b
theorem passW_zero {W : Wld} (ha : WA W) : passW W 0 = W := by
  have hl := ha.gl
  obtain ⟨l1,l2,l3,l4⟩ := passK_len W 0 8
  have hg : (passW W 0).groups = W.groups := gi_ext l1 fun k hk => by
    have hk8 : k < 8 := by have : (passW W 0).groups.length = W.groups.length := l1; omega
    have := passK_gi W 0 8 (by omega) (k : Int) (by omega)
    rw [if_pos (by omega)] at this
    refine this.trans (passG_zero fun hq => ?_)
    have hgp := ha.grp (k : Int) (by omega) (by omega)
    cases hu : (gi W.groups (k : Int)).used with
    | true => exact ((hgp.2 hu).band hq).2.2.2.2.1
    | false =>
      have := (hgp.1 hu).b
      exact absurd (by unfold noBand at this; simp only [Bool.and_eq_true,beq_iff_eq] at this; exact this.1.1.1.1) hq
  have h2 : (passW W 0).now = W.now := by rw [show (passW W 0).now = _ from l2]; simp
  have h3 : (passW W 0).cpus = W.cpus := l3
  have h4 : (passW W 0).tasks = W.tasks := l4
  generalize passW W 0 = V at hg h2 h3 h4
  cases V
  cases W
  simp only at hg h2 h3 h4
  subst hg; subst h2; subst h3; subst h4
  rfl
def tickK (V : Wld) : Nat → Wld
  | 0 => V
  | g + 1 => setGr (tickK V g) (g : Int) (tickG V.now (gi V.groups (g : Int)))
theorem tickK_len (V : Wld) : ∀ k : Nat,(tickK V k).groups.length = V.groups.length ∧ (tickK V k).now = V.now ∧ (tickK V k).cpus = V.cpus ∧ (tickK V k).tasks = V.tasks
  | 0 => ⟨rfl,rfl,rfl,rfl⟩
  | k + 1 => by
    obtain ⟨a,b,c,d⟩ := tickK_len V k
    exact ⟨by show (List.set _ _ _).length = _; rw [List.length_set]; exact a,b,c,d⟩
theorem tickK_gi (V : Wld) : ∀ k : Nat,k ≤ V.groups.length → ∀ i : Int,0 ≤ i → gi (tickK V k).groups i = if i < (k : Int) then tickG V.now (gi V.groups i) else gi V.groups i
  | 0,_,i,i0 => by rw [if_neg (by omega)]; rfl
  | k + 1,hk,i,i0 => by
    have ih := tickK_gi V k (by omega) i i0
    have hl := (tickK_len V k).1
    show gi (setGr (tickK V k) (k : Int) _).groups i = _
    rw [set_gi (by omega) (by omega) i0]
    by_cases e : (k : Int) = i
    · subst e
      rw [if_pos rfl,if_pos (by omega)]
    · rw [if_neg e,ih]
      by_cases h : i < (k : Int)
      · rw [if_pos h,if_pos (by omega)]
      · rw [if_neg h,if_neg (by omega)]
theorem tick_pass {W : Wld} (ha : WA W) (n : Nat) : tickK { passW W n with now := W.now + ((n : Int) + 1) } 8 = passW W (n + 1) := by
  have hl := ha.gl
  obtain ⟨l1,l2,l3,l4⟩ := passK_len W n 8
  obtain ⟨p1,p2,p3,p4⟩ := passK_len W (n + 1) 8
  obtain ⟨t1,t2,t3,t4⟩ := tickK_len { passW W n with now := W.now + ((n : Int) + 1) } 8
  have hlen : (tickK { passW W n with now := W.now + ((n : Int) + 1) } 8).groups.length = (passW W (n + 1)).groups.length := by rw [t1]; show (passW W n).groups.length = _; exact l1.trans p1.symm
  have hg : (tickK { passW W n with now := W.now + ((n : Int) + 1) } 8).groups = (passW W (n + 1)).groups := gi_ext hlen fun k hk => by
    have hk8 : k < 8 := by have : (passW W n).groups.length = W.groups.length := l1; rw [t1] at hk; have hk : k < (passW W n).groups.length := hk; omega
    have a := tickK_gi { passW W n with now := W.now + ((n : Int) + 1) } 8 (by show 8 ≤ (passW W n).groups.length; have : (passW W n).groups.length = W.groups.length := l1; omega) (k : Int) (by omega)
    have b := passK_gi W n 8 (by omega) (k : Int) (by omega)
    have c := passK_gi W (n + 1) 8 (by omega) (k : Int) (by omega)
    rw [if_pos (by omega)] at a b c
    refine a.trans (Eq.trans ?_ c.symm)
    show tickG (W.now + ((n : Int) + 1)) (gi (passW W n).groups (k : Int)) = _
    rw [show gi (passW W n).groups (k : Int) = _ from b]
    refine passG_tick fun hq => ?_
    cases hu : (gi W.groups (k : Int)).used with
    | true => rfl
    | false =>
      have := ((ha.grp (k : Int) (by omega) (by omega)).1 hu).b
      exact absurd (by unfold noBand at this; simp only [Bool.and_eq_true,beq_iff_eq] at this; exact this.1.1.1.1) hq
  have h2 : (tickK { passW W n with now := W.now + ((n : Int) + 1) } 8).now = (passW W (n + 1)).now := by rw [t2,show (passW W (n + 1)).now = _ from p2]; push_cast; rfl
  have h3 : (tickK { passW W n with now := W.now + ((n : Int) + 1) } 8).cpus = (passW W (n + 1)).cpus := by rw [t3]; exact l3.trans p3.symm
  have h4 : (tickK { passW W n with now := W.now + ((n : Int) + 1) } 8).tasks = (passW W (n + 1)).tasks := by rw [t4]; exact l4.trans p4.symm
  generalize tickK { passW W n with now := W.now + ((n : Int) + 1) } 8 = V at hg h2 h3 h4
  generalize passW W (n + 1) = U at hg h2 h3 h4
  cases V
  cases U
  simp only at hg h2 h3 h4
  subst hg; subst h2; subst h3; subst h4
  rfl
theorem time_sw {W : Wld} {n : Int} (hW : worldB W = true) (hb : timeB W n = 0) : inB n 1 1000 = true ∧ roomB W = true ∧ SW halfT W ∧ W.now ≤ halfT ∧ SW halfT (passW W n.toNat) ∧ SW halfT (decN (passW W n.toNat) 12) := by
  have wp := decB_t.1 hW
  unfold timeB at hb
  split at hb
  · cases hb
  · rename_i h1
    split at hb
    · cases hb
    · rename_i h3
      have h1 : inB n 1 1000 = true := by simpa using h1
      have h3 : roomB W = true := by simpa using h3
      have hr := decB_t.1 h3
      have sw := sw_of wp hr
      have hn := hr.n
      have hi := inB_t.1 h1
      have hh : halfT = 50000000000000000 := rfl
      have s1 := passW_sw (n:=n.toNat) sw (by omega)
      exact ⟨h1,h3,sw,hn,s1,decN_sw s1 12 (Nat.le_refl _)⟩
theorem sm_time {W : Wld} {n : Int} (sm : SmW W) (hW : worldB W = true) (hb : timeB W n = 0) : SmW (timeW W n) := by
  obtain ⟨_,_,sw,_,_,h5⟩ := time_sw hW hb
  refine sm_set sm h5 (by decide) ?_
  rw [(decN_ok _ 12).1]
  exact passK_tree W n.toNat 8 (by have := sw.a.gl; omega)
section
variable {W W' : Wld} {m : MW} {w : World} {bar : Int}
theorem beat_in {l u : Int} (h1 : inB l 0 8000000 = true) (h2 : inB u 0 1000000 = true) : 0 ≤ Int.tdiv l 8 ∧ Int.tdiv l 8 ≤ l := by
  have := inB_t.1 h1
  rw [Int.tdiv_eq_ediv_of_nonneg this.1]
  omega
theorem k_spec_DecayBeat {bs : List Nat} {l u : Int} : PureX bs Tryz.prog fn_spec_DecayBeat #[.int .i64 l,.int .i64 u] w (.int .i64 (beatD l u)) :=
  p_spec_DecayBeat l u fun wr hx => ⟨_,k_spec_l1In,_,fun _ => k_spec_l1In,fun g => (by
    unfold beatD
    rw [if_neg]
    rintro ⟨h1,h2⟩
    rw [h1,h2] at g
    cases g),fun g => by
    have h1 : inB l 0 8000000 = true := by cases h : inB l 0 8000000 <;> simp_all
    have h2 : inB u 0 1000000 = true := by cases h : inB u 0 1000000 <;> simp_all
    have hb := beat_in h1 h2
    have i1 := inB_t.1 h1
    have i2 := inB_t.1 h2
    refine ⟨⟨by decide,by omega,by omega⟩,⟨by omega,by omega⟩,⟨by omega,by omega⟩,?_⟩
    unfold beatD
    rw [if_pos ⟨h1,h2⟩]⟩
theorem k_impl_DecayBeat {bs : List Nat} {l u : Int} : PureX bs Tryz.prog fn_impl_DecayBeat #[.int .i64 l,.int .i64 u] w (.int .i64 (beatD l u)) :=
  p_impl_DecayBeat l u fun wr hx => ⟨_,k_impl_loadOk,_,fun _ => p_impl_usedOk u fun wr hx => ⟨_,k_impl_inRange,rfl⟩,fun g => (by
    unfold beatD
    rw [if_neg]
    rintro ⟨h1,h2⟩
    rw [h1,h2] at g
    cases g),fun g => by
    have h1 : inB l 0 8000000 = true := by cases h : inB l 0 8000000 <;> simp_all
    have h2 : inB u 0 1000000 = true := by cases h : inB u 0 1000000 <;> simp_all
    have hb := beat_in h1 h2
    have i1 := inB_t.1 h1
    have i2 := inB_t.1 h2
    refine ⟨⟨by decide,by omega,by omega⟩,⟨by omega,by omega⟩,⟨by omega,by omega⟩,?_⟩
    unfold beatD
    rw [if_pos ⟨h1,h2⟩]⟩
theorem setGr_self {W : Wld} {k : Int} (h0 : 0 ≤ k) (h1 : k < (W.groups.length : Int)) : setGr W k (gi W.groups k) = W := by
  unfold setGr
  rw [set_self h0 h1]
set_option maxHeartbeats 1000000 in
theorem k_spec_TimePass {n : Int} (h : RdW [] w W m) (hl : LenW W) :
    Calls Tryz.prog fn_spec_TimePass #[.agg (encW W m).toArray,.int .i64 n] w fun e w' => ∃ v,e = .returned v ∧ AnsW (ansD W (timeB W n) (timeW W n)) w v w' := by
  refine e_spec_TimePass W.now m.cO W.cpus.length m.cC m.tO W.tasks.length m.tC m.gO W.groups.length m.gC n (R:=fun v w' => AnsW (ansD W (timeB W n) (timeW W n)) w v w') ?_
  intro x hx x1 hx1 wr hx2 hs2
  refine Calls.mono (k_spec_l10Begin (h.ext hx2) hl) ?_
  rintro e wv (⟨hW,he,hy⟩ | ⟨hW,m',he,hM,hy⟩)
  · exact ⟨_,_,_,_,_,_,_,_,_,_,_,he,kept_of hy hs2,false,fun g => by simp at g,fun _ wr1 hx3 => AnsW.bad hW ((hx2.trans hy).fresh hx3 fun y hm => .inl (two_new hx hx1 y hm)),fun g => by simp at g⟩
  have hK := Wk.begin hx hx1 hx2 hs2 hM hy
  have hc1 : ((if roomB W = true then 0 else 10 : Int) == 1) = false := by split <;> rfl
  refine ⟨_,_,_,_,_,_,_,_,_,_,_,he,kept_of hy hs2,_,fun _ => k_spec_l1In,fun g wr1 hx3 => ?_,fun g => ⟨fun g3 wr2 hx3 => ?_,fun g3 => ?_⟩⟩
  · rw [hc1] at g
    have g : inB n 1 1000 = false := by simpa using g
    have hb : timeB W n = 1 := by unfold timeB; rw [if_pos g]
    exact AnsW.no hW (by rw [hb]; decide) (hK.step hx3) hb
  · rw [hc1] at g
    have g : inB n 1 1000 = true := by simpa using g
    have hr0 : ¬ roomB W = true := fun hr => by rw [if_pos hr] at g3; simp at g3
    have hb : timeB W n = 10 := by unfold timeB; rw [if_neg (by rw [g]; decide),if_pos (by simpa using hr0)]
    rw [if_neg hr0]
    exact AnsW.no hW (by rw [hb]; decide) (hK.step hx3) hb
  rw [hc1] at g
  have g : inB n 1 1000 = true := by simpa using g
  have hr0 : roomB W = true := Decidable.byContradiction fun hr => by rw [if_neg hr] at g3; simp at g3
  have hb : timeB W n = 0 := by unfold timeB; rw [if_neg (by rw [g]; decide),if_neg (by rw [hr0]; decide)]
  obtain ⟨_,_,sw,hnow,sp,sd⟩ := time_sw hW hb
  have hn := inB_t.1 g
  obtain ⟨N,rfl⟩ := Int.eq_ofNat_of_zero_le (show 0 ≤ n by omega)
  have hE : timeW W (N : Int) = settleD (decN (passW W N) 12) := by unfold timeW; rw [Int.toNat_natCast]
  rw [Int.toNat_natCast] at sp sd
  rw [hE]
  have hgl := sw.a.gl
  have htl := sw.a.t
  have hn1 := sw.a.n1
  have hh : halfT = 50000000000000000 := rfl
  refine ⟨⟨by omega,by omega⟩,?_⟩
  refine loop1w W.groups.length 0 rfl (fun k w2 => k ≤ 8 ∧ ∃ m2,Wk 8 [x,x1] w w2 (passK W N k) m2 ∧ m2 = { m' with ms := m2.ms }) (fun w2 hx3 _ => ⟨by decide,m',(show Wk 8 [x,x1] w wv (passK W N 0) m' from ⟨hK.s,⟨⟨hK.own.c,hK.own.t,hK.own.g,hK.own.len⟩,hK.nb⟩⟩).step hx3,rfl⟩) fun k w2 hs3 ⟨hk8,m2,hK2,hd2⟩ => ?_
  obtain ⟨l1,l2,l3,l4⟩ := passK_len W N k
  have eG := passK_gi W N k (by omega) (k : Int) (by omega)
  rw [if_neg (by omega)] at eG
  have hdef : passK W N (k + 1) = setGr (passK W N k) (k : Int) (passG W.now N (gi W.groups (k : Int))) := rfl
  have hend : k = 8 → passW W N = passK W N k := fun e => by rw [e]; rfl
  have hself : (k : Int) < (W.groups.length : Int) → setGr (passK W N k) (k : Int) (gi W.groups (k : Int)) = passK W N k := fun hlt => by
    have := setGr_self (W:=passK W N k) (k:=(k : Int)) (by omega) (by omega)
    rwa [eG] at this
  have emg : m2.gO = m'.gO := by rw [hd2]
  have emc : m2.gC = m'.gC := by rw [hd2]
  refine ⟨fun hlt => ?_,fun hge => ?_⟩
  · have hlt := of_decide_eq_true hlt
    generalize passK W N k = V at hK2 l1 l2 l3 l4 eG hdef hend hself
    have hr := hK2.rd
    have hltV : (k : Int) < (V.groups.length : Int) := by omega
    have hix : Ix m'.gO W.groups.length (k : Int) := by have := hr.g.ix (i:=(k : Int)) (by omega) hltV; rwa [l1,emg] at this
    have hcs := hr.g.cells (k : Int) (by omega) hltV
    rw [eG,emg] at hcs
    refine ⟨hix,_,_,_,_,_,_,_,_,_,_,_,_,_,_,_,_,_,_,_,_,hcs,fun b2 hb2 => ⟨fun g4 => ⟨⟨by omega,by omega⟩,fun w3 hx3 _ => loop1w_next (by omega) ⟨by omega,m2,?_,hd2⟩⟩,fun g4 wr5 hx5 hs5 => ?_⟩⟩
    · have : passG W.now N (gi W.groups (k : Int)) = gi W.groups (k : Int) := by
        unfold passG
        rw [if_neg]
        rintro ⟨a,b⟩
        simp only [Bool.or_eq_true,Bool.not_eq_true',beq_iff_eq,decide_eq_true_eq] at g4
        simp only [Bool.and_eq_true,bne_iff_ne,ne_eq] at a
        rcases g4 with (h1 | h1) | h1
        · rw [a.1] at h1; cases h1
        · exact a.2 h1
        · omega
      rw [hdef,this,hself hlt]
      exact hK2.step hx3
    · simp only [Bool.or_eq_false_iff,Bool.not_eq_false',beq_eq_false_iff_ne,ne_eq,decide_eq_false_iff_not] at g4
      obtain ⟨⟨hu,hq⟩,hdue⟩ := g4
      have hgu := (sw.a.grp (k : Int) (by omega) (by omega)).2 hu
      obtain ⟨hbd,hbl,hp1,hp2,hnx,hnp⟩ := hgu.band hq
      have hP : passG W.now N (gi W.groups (k : Int)) = { gi W.groups (k : Int) with next := nextI (gi W.groups (k : Int)).next (gi W.groups (k : Int)).period W.now N,band := fillB (gi W.groups (k : Int)).band } := by
        unfold passG
        rw [if_pos ⟨by rw [hu]; simpa using hq,by omega⟩]
      have hJ := nextI_just hp1 hnx N
      have hK3 := (hK2.add hb2).step (hx5.mono fun y hy => List.mem_append_left _ hy)
      have hr5 := hK3.o.rd0
      have hLo := hr5.g.locals (k : Int) (by omega) hltV
      have hDo := hr5.g.dry (k : Int) (by omega) hltV
      rw [eG] at hLo hDo
      refine Calls.mono (k_spec_BandDo (op:=⟨4,0,0⟩) hbd hLo hDo) ?_
      rintro e wv2 ⟨pb,he,hO,hy2⟩
      have hbdE : bandD (gi W.groups (k : Int)).band ⟨4,0,0⟩ = (fillB (gi W.groups (k : Int)).band,0) := by unfold bandD; rw [if_pos rfl]
      rw [hbdE] at he hO
      dsimp only at he hO
      refine ⟨_,_,_,_,_,_,_,_,_,_,he,kept_of hy2 hs5,fun b3 hb3 => ?_⟩
      have hK4 := (hK3.call0 hy2).add hb3
      have hOb : ∀ y ∈ bdBlks pb,y ∉ wBlks 8 m2 ∧ y ∉ [x,x1] ++ [b2] ++ [b3] := fun y hy => by
        have := hO.lt y hy
        refine ⟨fun hm => by have := (hK3.own.lt y hm).2; omega,fun hm => ?_⟩
        rcases List.mem_append.1 hm with h1 | h1
        · have := hs5 y h1; omega
        · have : y = b3 := by simpa using h1
          omega
      have hO4 : OwnBd w.heap.size wv2 (fillB (gi W.groups (k : Int)).band) pb := hO.mono hK3.base
      refine ⟨fun vs w' => ∃ v : Int,vs = encG { gi W.groups (k : Int) with next := v,band := fillB (gi W.groups (k : Int)).band } (putM (m2.ms k) pb) ∧ (∃ j : Nat,v = (gi W.groups (k : Int)).next + (gi W.groups (k : Int)).period * (j : Int) ∧ (j = 0 ∨ v - (gi W.groups (k : Int)).period ≤ W.now + (N : Int))) ∧ 0 ≤ v ∧ Wk 8 ([x,x1] ++ [b2] ++ [b3]) w w' V m2 ∧ OwnBd w.heap.size w' (fillB (gi W.groups (k : Int)).band) pb,fun vs _ => (W.now + (N : Int) + 1 - ctrAt 6 vs).toNat,fun wr7 hx7 hs7 => ⟨(gi W.groups (k : Int)).next,by simp [encG,putM],⟨0,by simp,.inl rfl⟩,by omega,hK4.step (hx7.mono fun y hy => List.mem_append_left _ hy),hO4.ext hx7 fun y hy hm => (hOb y hy).2 (List.mem_append_left _ hm)⟩,?_⟩
      rintro l0 a1 a2 a3 a4 a5 a6 a7 a8 a9 a10 a11O a11L a11C a12O a12L a12C a13O a13L a13C wv4 hs4 ⟨v,hv,hj,hv0,hK5,hO5⟩
      simp only [encG,encBd,List.cons_append,List.nil_append,List.cons.injEq,Value.bool.injEq,Value.int.injEq,Value.string.injEq,Value.slice.injEq,true_and,and_true] at hv
      obtain ⟨rfl,rfl,rfl,rfl,rfl,rfl,rfl,rfl,rfl,rfl,rfl,⟨rfl,rfl,rfl⟩,⟨rfl,rfl,rfl⟩,rfl,rfl,rfl⟩ := hv
      refine ⟨fun hle => ?_,fun hgt => ?_⟩
      · have hle := of_decide_eq_true hle
        refine ⟨⟨by omega,by omega⟩,fun wr8 hx8 hs8 => ⟨⟨a6 + (gi W.groups (k : Int)).period,rfl,?_,by omega,hK5.step hx8,hO5.ext hx8 fun y hy => (hOb y hy).2⟩,?_⟩⟩
        · obtain ⟨j,h1,_⟩ := hj
          exact ⟨j + 1,by rw [h1]; push_cast; rw [Int.mul_add,Int.mul_one,Int.add_assoc],.inr (by omega)⟩
        · show (_ - (a6 + (gi W.groups (k : Int)).period)).toNat < (_ - a6).toNat
          omega
      · have hgt := of_decide_eq_false hgt
        have hv6 : a6 = nextI (gi W.groups (k : Int)).next (gi W.groups (k : Int)).period W.now N := just_eq hp1 ⟨by omega,hj⟩ hJ
        have hwr := wrG hK5.own hK5.nb (i:=(k : Int)) (by omega) (by omega) (j:=0) (k:=14) (by decide)
        rw [emg] at hwr
        refine ⟨hix,hwr,⟨by omega,by omega⟩,fun wr9 hx9 hs9 => loop1w_next (by omega) ⟨by omega,setM m2 k (putM (m2.ms k) pb),?_,by rw [hd2]; rfl⟩⟩
        rw [hdef]
        have hK6 := hK5.gr (g:=(k : Int)) (by omega) (by omega) (G:=passG W.now N (gi W.groups (k : Int))) (p:=pb) (j:=0) (vs:=encG (passG W.now N (gi W.groups (k : Int))) (putM (m2.ms k) pb)) (by rw [hP]; exact hO5) hOb (by rw [eG]; exact (passG_u _ _ _).2.2.2.1) (by simp [encG]) (by simp [encG])
        refine (hK6.step (w' := wr9) ?_).sub fun y hy => List.mem_append_left _ (List.mem_append_left _ hy)
        rw [hP,← hv6,emg]
        exact hx9
  · have hge := of_decide_eq_false hge
    rw [← hend (by omega)] at hK2 l1 l2 l3 l4
    have emt : m2.tO = m'.tO := by rw [hd2]
    refine loop1w W.tasks.length 0 rfl (fun t w2 => t ≤ 12 ∧ Wk 8 [x,x1] w w2 (decN (passW W N) t) m2) (fun w2 hx3 _ => ⟨by decide,hK2.step hx3⟩) fun t w2 hs4 ⟨ht12,hK3⟩ => ?_
    obtain ⟨q1,q2,q3,q4⟩ := decN_ok (passW W N) t
    have hdef2 : decN (passW W N) (t + 1) = setTk (decN (passW W N) t) (t : Int) (decT (tkk (decN (passW W N) t) (t : Int))) := rfl
    have hend2 : t = 12 → decN (passW W N) 12 = decN (passW W N) t := fun e => by rw [e]
    generalize hU : decN (passW W N) t = U at hK3 q1 q2 q3 q4 hdef2 hend2
    have hr := hK3.rd
    refine ⟨fun hlt => ?_,fun hge2 wr12 hx12 hs12 => ?_⟩
    · have hlt := of_decide_eq_true hlt
      have t1 : (t : Int) < (U.tasks.length : Int) := by rw [q4,l4]; exact hlt
      have hix : Ix m'.tO W.tasks.length (t : Int) := by have := hr.t.ix encT_c (i:=(t : Int)) (by omega) t1; rwa [q4,l4,emt] at this
      have hcs := hr.t (t : Int) (by omega) t1
      rw [emt] at hcs
      have hwr := wrT hK3.own hK3.nb (i:=(t : Int)) (by omega) t1 (j:=0) (k:=9) (by decide)
      rw [emt] at hwr
      refine ⟨hix,_,_,_,_,_,_,_,_,_,hcs,fun b4 hb4 => ⟨_,k_spec_l1Min,_,k_spec_DecayBeat,_,k_spec_l1Min,hix,hwr,⟨by omega,by omega⟩,fun wr11 hx11 hs11 => loop1w_next (by omega) ⟨by omega,?_⟩⟩⟩
      rw [hdef2]
      have hset := hK3.own.stoT (i:=(t : Int)) (by omega) t1 (j:=0) (vs:=encT (decT (tkk U (t : Int)))) (x:=decT (tkk U (t : Int))) (by simp [encT]) (by simp [encT])
      have hK4 := hK3.sto hset subT
      rw [emt] at hK4
      exact hK4.step hx11
    · have hge2 := of_decide_eq_false hge2
      rw [hend2 (by omega)] at sd ⊢
      have hK4 := hK3.step hx12
      have hcall := k_spec_l8Settle hK4.own sd (by decide) (by decide) hK4.base
      have e5 : encW U m2 = [.int .i64 (W.now + (N : Int)),.slice m'.cO W.cpus.length m'.cC,.slice m'.tO W.tasks.length m'.tC,.slice m'.gO W.groups.length m'.gC] := by
        unfold encW
        rw [q2,q3,q4,q1,l1,l2,l3,l4,hd2]
      rw [e5] at hcall
      refine Calls.mono hcall ?_
      rintro e2 wv2 ⟨m3,he2,hy2⟩
      exact ⟨_,_,_,_,_,_,_,_,_,_,he2,hK4.kept hy2 hs12,fun wr13 hx13 => AnsW.ok hW hb ((hK4.deed hy2 hs12).step hx13)⟩
theorem min_flip (a b : Int) : (if b < a then b else a) = minI a b := by unfold minI; split <;> split <;> omega
structure Mn (base pb : Nat) (w0 : World) (m0 : MW) (w : World) (W : Wld) (m : MW) : Prop where
  own : MWd 8 base w W m
  pt : w.heap[pb]? = some (.cells (encW W m).toArray ty_impl_World (0,0))
  pn : pb ∉ wBlks 8 m
  ext : ExtX (pb :: wBlks 8 m0) w0 w
  sub : ∀ x ∈ wBlks 8 m,x ∈ wBlks 8 m0 ∨ w0.heap.size ≤ x
section
variable {base pb : Nat} {w0 w' : World} {m0 m' : MW}
theorem Mn.start (h : PW base pb w W m) : Mn base pb w m w W m := ⟨h.own,h.pt,h.pn,ExtX.refl _ _,fun _ hx => .inl hx⟩
theorem Mn.pw (h : Mn base pb w0 m0 w W m) : PW base pb w W m := ⟨h.own,h.pt,h.pn⟩
theorem Mn.wpt (h : Mn base pb w0 m0 w W m) : WPt [] w (pA pb) W m := (Mp.start h.pw).wpt
theorem Mn.call (h : Mn base pb w0 m0 w W m) (k : Mp base pb [] w m w' W' m') : Mn base pb w0 m0 w' W' m' :=
  ⟨k.own,k.pt,k.pn,h.ext.fresh k.v.ext fun x hx => by
    rcases h.sub x hx with h1 | h1
    · exact .inr (List.mem_cons_of_mem _ h1)
    · exact .inl h1,fun x hx => by
    rcases k.v.sub x hx with h1 | h1
    · exact h.sub x h1
    · exact .inr (Nat.le_trans h.ext.size h1)⟩
theorem Mn.nil (h : Mn base pb w0 m0 w W m) (hx : ExtX [] w w') : Mn base pb w0 m0 w' W m := h.call ((Mp.start h.pw).nil hx)
theorem Mn.done (h : Mn base pb w0 m0 w W m) : Done base pb [] w0 m0 w W m := ⟨h.own,h.pt,h.ext,h.sub⟩
theorem Mn.now (h : Mn base pb w0 m0 w W m) (x : Int) : Mn base pb w0 m0 (sto w (pA pb) (0 + 0) [.int .i64 x]) { W with now := x } m := by
  have hx : ExtX [pb] w (sto w (pA pb) (0 + 0) [.int .i64 x]) := sto_ext (bs:=[pb]) (by simp)
  have ho := h.own.ext hx fun y hy hm => h.pn (by
    have : y = pb := by simpa using hm
    exact this ▸ hy)
  refine ⟨⟨ho.c,ho.t,ho.g,ho.len⟩,?_,h.pn,h.ext.trans (hx.mono fun y hy => by
    have : y = pb := by simpa using hy
    exact this ▸ List.mem_cons_self),h.sub⟩
  exact sto_blk h.pt
theorem Mn.wrNow (h : Mn base pb w0 m0 w W m) : WrX [] w (pA pb) (0 + 0) 1 := wrX_blk (k0:=0) h.pt (by simp) (by simp [encW])
end
theorem k_impl_quota {bs : List Nat} {p : Option Addr} {g : Int} (h : WPt bs w p W m) (g0 : 0 ≤ g) (g1 : g < (W.groups.length : Int)) : PureX bs Tryz.prog fn_impl_World_quota #[.pointer p,.int .i64 g] w (.pointer (if (gi W.groups g).band.quota = 0 then none else ptB m g)) :=
  p_impl_World_quota p g fun wr hx => by
    have h := (h.ext hx).less (cs:=[]) (by simp)
    have hix := h.rd.g.ix (i:=g) g0 g1
    refine ⟨h.some,_,_,_,h.groups,hix,_,h.rd.g.quo g0 g1,fun g2 => ?_,fun g2 => ⟨h.some,_,_,_,h.groups,hix,?_⟩⟩
    · rw [if_pos (by simpa using g2)]
    · rw [if_neg (by simpa using g2)]
theorem k_TimePass_1 {base pb : Nat} {cap : Option Addr} {n : Int} (h : PW base pb w W m) (hW : worldB W = true) (hc : CellsX [] w cap 0 [.int .i64 n]) :
    Calls Tryz.prog fn_impl_TimePass_1 #[.pointer (pA pb),.pointer cap] w fun e w2 => (timeB W n ≠ 0 ∧ e = .returned (.iface ty_impl_refusal (.agg #[.int .i64 (timeB W n)])) ∧ ExtX [] w w2) ∨ (timeB W n = 0 ∧ e = .returned .nilIface ∧ ∃ m2,Done base pb [] w m w2 (timeW W n) m2) := by
  have wp := decB_t.1 hW
  have hM := Mn.start h
  have hp := hM.wpt
  refine (e_impl_TimePass_1 (pA pb) cap (R:=fun v w2 => (timeB W n ≠ 0 ∧ v = .iface ty_impl_refusal (.agg #[.int .i64 (timeB W n)]) ∧ ExtX [] w w2) ∨ (timeB W n = 0 ∧ v = .nilIface ∧ ∃ m2,Done base pb [] w m w2 (timeW W n) m2)) ?_).mono fun e w' ⟨v,he,h3⟩ => by
    rw [he]
    rcases h3 with ⟨a,b,c⟩ | ⟨a,b,c⟩
    · exact .inl ⟨a,by rw [b],c⟩
    · exact .inr ⟨a,by rw [b],c⟩
  refine ⟨n,hc,_,k_impl_inRange,fun g wr hx => .inl ?_,fun g => ⟨_,k_impl_roomW hp wp.a,fun g3 wr hx => .inl ?_,fun g3 => ⟨n,hc,?_⟩⟩⟩
  · have g : inB n 1 1000 = false := by simpa using g
    have hb : timeB W n = 1 := by unfold timeB; rw [if_pos g]
    rw [hb]
    exact ⟨by decide,rfl,hx⟩
  · have g : inB n 1 1000 = true := by simpa using g
    have hb : timeB W n = 10 := by unfold timeB; rw [if_neg (by rw [g]; decide),if_pos (by simpa using g3)]
    rw [hb]
    exact ⟨by decide,rfl,hx⟩
  have g : inB n 1 1000 = true := by simpa using g
  have g3 : roomB W = true := by simpa using g3
  have hb : timeB W n = 0 := by unfold timeB; rw [if_neg (by rw [g]; decide),if_neg (by rw [g3]; decide)]
  obtain ⟨_,_,sw,hnow,_,sd⟩ := time_sw hW hb
  have hn := inB_t.1 g
  obtain ⟨N,rfl⟩ := Int.eq_ofNat_of_zero_le (show 0 ≤ n by omega)
  have hE : timeW W (N : Int) = settleD (decN (passW W N) 12) := by unfold timeW; rw [Int.toNat_natCast]
  rw [Int.toNat_natCast] at sd
  rw [hE]
  have hgl := sw.a.gl
  have htl := sw.a.t
  have hn1 := sw.a.n1
  have hh : halfT = 50000000000000000 := rfl
  have hz := passW_zero sw.a
  refine loop1w N 0 rfl (fun k w2 => k ≤ N ∧ Mn base pb w m w2 (passW W k) m) (fun w2 hx3 _ => ⟨Nat.zero_le _,by rw [hz]; exact hM.nil hx3⟩) fun k w2 hs3 ⟨hkN,hM2⟩ => ?_
  obtain ⟨l1,l2,l3,l4⟩ := passK_len W k 8
  have l1 : (passW W k).groups.length = W.groups.length := l1
  have l2 : (passW W k).now = W.now + (k : Int) := l2
  have l3 : (passW W k).cpus = W.cpus := l3
  have l4 : (passW W k).tasks = W.tasks := l4
  have hgi : ∀ i : Int,0 ≤ i → i < 8 → gi (passW W k).groups i = passG W.now k (gi W.groups i) := fun i a b => by
    have := passK_gi W k 8 (by omega) i a
    rwa [if_pos (show i < ((8 : Nat) : Int) by omega)] at this
  refine ⟨fun hlt => ?_,fun hge => ?_⟩
  · have hlt := of_decide_eq_true hlt
    have htick := tick_pass sw.a k
    have hVa := (passW_sw (n:=k) sw (by omega)).a
    generalize passW W k = V at hM2 l1 l2 l3 l4 hgi htick hVa
    have hp2 := hM2.wpt
    have hM3 := hM2.now (W.now + ((k : Int) + 1))
    have hcn := hp2.now
    rw [l2] at hcn
    refine ⟨hp2.some,W.now + (k : Int),hcn,⟨by omega,by omega⟩,hp2.some,hM2.wrNow,hp2.some,?_⟩
    rw [show W.now + (k : Int) + 1 = W.now + ((k : Int) + 1) by omega]
    refine ⟨_,_,_,hM3.wpt.groups,?_⟩
    have hV1 : ({ V with now := W.now + ((k : Int) + 1) } : Wld).groups.length = 8 := by show V.groups.length = 8; omega
    refine loop1w ({ V with now := W.now + ((k : Int) + 1) } : Wld).groups.length 0 rfl (fun j w3 => j ≤ 8 ∧ Mn base pb w m w3 (tickK { V with now := W.now + ((k : Int) + 1) } j) m) (fun w3 hx4 _ => ⟨by decide,hM3.nil hx4⟩) fun j w3 hs4 ⟨hj8,hM4⟩ => ?_
    obtain ⟨t1,t2,t3,t4⟩ := tickK_len { V with now := W.now + ((k : Int) + 1) } j
    have eG := tickK_gi { V with now := W.now + ((k : Int) + 1) } j (by omega) (j : Int) (by omega)
    rw [if_neg (by omega)] at eG
    have hdef : tickK { V with now := W.now + ((k : Int) + 1) } (j + 1) = setGr (tickK { V with now := W.now + ((k : Int) + 1) } j) (j : Int) (tickG (W.now + ((k : Int) + 1)) (gi V.groups (j : Int))) := rfl
    have hend : j = 8 → passW W (k + 1) = tickK { V with now := W.now + ((k : Int) + 1) } j := fun e => by rw [e]; exact htick.symm
    have t2 : (tickK { V with now := W.now + ((k : Int) + 1) } j).now = W.now + ((k : Int) + 1) := t2
    have eG : gi (tickK { V with now := W.now + ((k : Int) + 1) } j).groups (j : Int) = gi V.groups (j : Int) := eG
    rw [hV1]
    rw [hV1] at t1
    generalize tickK { V with now := W.now + ((k : Int) + 1) } j = U at hM4 t1 t2 t3 t4 eG hdef hend
    have hp4 := hM4.wpt
    refine ⟨fun hlt2 => ?_,fun hge2 => ⟨⟨by omega,by omega⟩,fun wr7 hx7 _ => loop1w_next (by omega) ⟨by omega,?_⟩⟩⟩
    · have hlt2 := of_decide_eq_true hlt2
      have hq4 := k_impl_quota (g:=(j : Int)) hp4 (by omega) (by omega)
      rw [eG] at hq4
      have hself : setGr U (j : Int) (gi V.groups (j : Int)) = U := by
        have := setGr_self (W:=U) (k:=(j : Int)) (by omega) (by omega)
        rwa [eG] at this
      by_cases hq : (gi V.groups (j : Int)).band.quota = 0
      · rw [if_pos hq] at hq4
        refine ⟨_,hq4,fun g => by simp at g,none,0,0,fun g => by simp at g,fun g => by simp at g,0,fun g => by simp at g,fun g => by simp at g,0,fun g => by simp at g,fun g => by simp at g,fun _ => ⟨⟨by omega,by omega⟩,fun wr6 hx6 _ => loop1w_next (by omega) ⟨by omega,?_⟩⟩⟩
        rw [hdef,show tickG (W.now + ((k : Int) + 1)) (gi V.groups (j : Int)) = gi V.groups (j : Int) from if_neg fun h => h.1 hq,hself]
        exact hM4.nil hx6
      · rw [if_neg hq] at hq4
        have hu : (gi V.groups (j : Int)).used = true := by
          cases hu : (gi V.groups (j : Int)).used with
          | true => rfl
          | false =>
            have := ((hVa.grp (j : Int) (by omega) (by omega)).1 hu).b
            exact absurd (by unfold noBand at this; simp only [Bool.and_eq_true,beq_iff_eq] at this; exact this.1.1.1.1) hq
        obtain ⟨hbd,_,p1,p2,x1,x2⟩ := ((hVa.grp (j : Int) (by omega) (by omega)).2 hu).band hq
        have hix4 := hp4.rd.g.ix (i:=(j : Int)) (by omega) (by omega)
        have hnx : CellsX [] w3 m.gO (Int.toNat (j : Int) * 14 + 6) [.int .i64 (gi V.groups (j : Int)).next] := by
          have := (hp4.rd.g.cells (j : Int) (by omega) (by omega)).get 6 _ rfl
          rwa [eG] at this
        have hcn4 := hp4.now
        rw [t2] at hcn4
        have hsm : (!(ptB m (j : Int)).isNone) = true := by
          have : m.gO.isSome = true := by
            have := hnx.some
            exact this
          cases hgO : m.gO with
          | none => rw [hgO] at this; cases this
          | some a => simp [ptB,hgO]
        refine ⟨_,hq4,fun _ => hp4.some,_,_,_,fun _ => hp4.groups,fun _ => hix4,_,fun _ => hnx,fun _ => hp4.some,_,fun _ => hcn4,fun g => fun wr4 hx5 _ => ?_,fun g => ⟨⟨by omega,by omega⟩,fun wr6 hx6 _ => loop1w_next (by omega) ⟨by omega,?_⟩⟩⟩
        · have hdue : (gi V.groups (j : Int)).next ≤ W.now + ((k : Int) + 1) := by
            rw [hsm,Bool.true_and] at g
            exact of_decide_eq_true g
          have hM5 := hM4.nil hx5
          have hbdU : setBd U (j : Int) (gi V.groups (j : Int)).band = U := by
            have := setBd_self (W:=U) (k:=(j : Int)) (by omega) (by omega)
            rwa [eG] at this
          refine Calls.mono (k_impl_do (W:=U) (b:=(gi V.groups (j : Int)).band) (op:=⟨4,0,0⟩) (k:=(j : Int)) (base:=base) (m:=m) (by rw [hbdU]; exact hM5.own) (by omega) (by omega) hbd) ?_
          rintro e wv3 ⟨he,hD,hyD⟩
          rw [show (bandD (gi V.groups (j : Int)).band ⟨4,0,0⟩).1 = fillB (gi V.groups (j : Int)).band by unfold bandD; rw [if_pos rfl]] at hD
          have hP5 := (Mp.start hM5.pw).deed hD hyD (by simp [encW,setBd,setGr])
          have hlB : (setBd U (j : Int) (fillB (gi V.groups (j : Int)).band)).groups.length = 8 := by show (List.set _ _ _).length = 8; rw [List.length_set]; exact t1
          have eB : gi (setBd U (j : Int) (fillB (gi V.groups (j : Int)).band)).groups (j : Int) = { gi V.groups (j : Int) with band := fillB (gi V.groups (j : Int)).band } := by
            rw [setBd_gi (by omega) (by omega),eG]
          have hp5 := hP5.wpt
          have hix5 := hp5.rd.g.ix (i:=(j : Int)) (by omega) (by omega)
          rw [hlB] at hix5
          have hn5 : CellsX [] wv3 m.gO (Int.toNat (j : Int) * 14 + 6) [.int .i64 (gi V.groups (j : Int)).next] := by
            have := (hp5.rd.g.cells (j : Int) (by omega) (by omega)).get 6 _ rfl
            rwa [eB] at this
          have hd5 : CellsX [] wv3 m.gO (Int.toNat (j : Int) * 14 + 5) [.int .i64 (gi V.groups (j : Int)).period] := by
            have := (hp5.rd.g.cells (j : Int) (by omega) (by omega)).get 5 _ rfl
            rwa [eB] at this
          have hg5 := hp5.groups
          rw [hlB] at hg5
          have hT : tickG (W.now + ((k : Int) + 1)) (gi V.groups (j : Int)) = { gi V.groups (j : Int) with next := (gi V.groups (j : Int)).next + (gi V.groups (j : Int)).period,band := fillB (gi V.groups (j : Int)).band } := if_pos ⟨hq,hdue⟩
          have hP6 := hP5.grf (g:=(j : Int)) (by omega) (by omega) (G:=tickG (W.now + ((k : Int) + 1)) (gi V.groups (j : Int))) (j:=6) (vs:=[.int .i64 ((gi V.groups (j : Int)).next + (gi V.groups (j : Int)).period)]) (by rw [eB,hT]) (by rw [eB,hT]) (by rw [eB,hT]) (by rw [eB,hT]; rfl) (by simp)
          have hwr := wrG hP5.own hP5.nb (i:=(j : Int)) (by omega) (by omega) (j:=6) (k:=1) (by decide)
          refine ⟨_,he,kept_nil,hp5.some,_,_,_,hg5,hix5,_,hn5,hp5.some,_,_,_,hg5,hix5,_,hd5,⟨by omega,by omega⟩,hix5,hwr,⟨by omega,by omega⟩,fun wr5 hx6 _ => loop1w_next (by omega) ⟨by omega,?_⟩⟩
          have hM6 := (hM5.call hP6).nil hx6
          rw [hdef]
          unfold setBd at hM6
          rwa [setGr_set] at hM6
        · have hdue : ¬ (gi V.groups (j : Int)).next ≤ W.now + ((k : Int) + 1) := by
            rw [hsm,Bool.true_and] at g
            exact of_decide_eq_false g
          rw [hdef,show tickG (W.now + ((k : Int) + 1)) (gi V.groups (j : Int)) = gi V.groups (j : Int) from if_neg fun h => hdue h.2,hself]
          exact hM4.nil hx6
    · have hge2 := of_decide_eq_false hge2
      rw [hend (by omega)]
      exact hM4.nil hx7
  · have hge := of_decide_eq_false hge
    obtain rfl : k = N := by omega
    have hp2 := hM2.wpt
    have hct := hp2.tasks
    refine ⟨hp2.some,_,_,_,hct,?_⟩
    refine loop1w (passW W k).tasks.length 0 rfl (fun t w3 => t ≤ 12 ∧ Mn base pb w m w3 (decN (passW W k) t) m) (fun w3 hx4 _ => ⟨by decide,hM2.nil hx4⟩) fun t w3 hs4 ⟨ht12,hM3⟩ => ?_
    obtain ⟨q1,q2,q3,q4⟩ := decN_ok (passW W k) t
    have hdef2 : decN (passW W k) (t + 1) = setTk (decN (passW W k) t) (t : Int) (decT (tkk (decN (passW W k) t) (t : Int))) := rfl
    have hend2 : t = 12 → decN (passW W k) 12 = decN (passW W k) t := fun e => by rw [e]
    have htl2 : (passW W k).tasks.length = 12 := by rw [l4]; exact htl
    generalize decN (passW W k) t = U at hM3 q1 q2 q3 q4 hdef2 hend2
    have hp3 := hM3.wpt
    refine ⟨fun hlt => ?_,fun hge2 wr10 hx10 _ => ?_⟩
    · have hlt := of_decide_eq_true hlt
      have t1 : (t : Int) < (U.tasks.length : Int) := by rw [q4]; exact hlt
      have hix := hp3.rd.t.ix encT_c (i:=(t : Int)) (by omega) t1
      have h8 := hp3.rd.t.f (i:=(t : Int)) (by omega) t1 (j:=8) rfl
      have h7 := hp3.rd.t.f (i:=(t : Int)) (by omega) t1 (j:=7) rfl
      have hP := Mp.start hM3.pw
      obtain ⟨L,hL,eL⟩ : ∃ L : Int,L = (if (8000000 : Int) < beatD (gi U.tasks (t : Int)).load (if (1000000 : Int) < (gi U.tasks (t : Int)).used then 1000000 else (gi U.tasks (t : Int)).used) then 8000000 else beatD (gi U.tasks (t : Int)).load (if (1000000 : Int) < (gi U.tasks (t : Int)).used then 1000000 else (gi U.tasks (t : Int)).used)) ∧ decT (tkk U (t : Int)) = { tkk U (t : Int) with used := 0,load := L } := ⟨_,rfl,by
        unfold decT
        rw [min_flip,min_flip]
        rfl⟩
      have hset := hP.own.stoT (i:=(t : Int)) (by omega) t1 (j:=8) (vs:=[.int .i64 L]) (x:={ tkk U (t : Int) with load := L }) rfl (by simp)
      have hP2 := hP.deed hset subT (by simp [encW])
      have t1' : (t : Int) < (({ U with tasks := U.tasks.set (Int.toNat (t : Int)) { tkk U (t : Int) with load := L } } : Wld).tasks.length : Int) := by simpa using t1
      have e2 : gi ({ U with tasks := U.tasks.set (Int.toNat (t : Int)) { tkk U (t : Int) with load := L } } : Wld).tasks (t : Int) = { tkk U (t : Int) with load := L } := by
        show gi (List.set _ _ _) _ = _
        rw [gi_set _ _ (by omega) t1 (by omega),if_pos rfl]
      have hset2 := hP2.own.stoT (i:=(t : Int)) (by omega) t1' (j:=7) (vs:=[.int .i64 0]) (x:={ tkk U (t : Int) with used := 0,load := L }) (by rw [e2]; rfl) (by simp)
      have hP3 := hP2.deed hset2 subT (by simp [encW])
      subst hL
      refine ⟨hp3.some,_,_,_,hp3.tasks,hix,_,h8,_,h7,_,k_impl_DecayBeat,wrT hP.own hP.nb (i:=(t : Int)) (by omega) t1 (j:=8) (by decide),wrT hP2.own hP2.nb (i:=(t : Int)) (by omega) t1' (j:=7) (by decide),⟨by omega,by omega⟩,fun wr9 hx9 _ => loop1w_next (by omega) ⟨by omega,?_⟩⟩
      rw [hdef2,eL]
      have hM4 := (hM3.call hP3).nil hx9
      rw [List.set_set] at hM4
      exact hM4
    · have hge2 := of_decide_eq_false hge2
      rw [hend2 (by omega)] at sd ⊢
      have hM4 := hM3.nil hx10
      refine Calls.mono (k_impl_settle hM4.pw sd (by decide) (by decide)) ?_
      rintro e1 wv2 ⟨he1,hy1⟩
      exact ⟨he1,kept_nil,fun wr11 hx11 => .inr ⟨hb,rfl,m,((hM4.call hy1).nil hx11).done⟩⟩
theorem k_impl_TimePass {n : Int} (h : RdW [] w W m) (hl : LenW W) (hg : GlobE w) :
    Calls Tryz.prog fn_impl_TimePass #[.agg (encW W m).toArray,.int .i64 n] w fun e w' => ∃ v,e = .returned v ∧ AnsW (ansD W (timeB W n) (timeW W n)) w v w' := by
  refine e_impl_TimePass W.now m.cO W.cpus.length m.cC m.tO W.tasks.length m.tC m.gO W.groups.length m.gC n (R:=fun v w' => AnsW (ansD W (timeB W n) (timeW W n)) w v w') ?_
  intro x hx b1 wb hx1 hb1 hc hn b2 hb2 wr hx2 hs
  have hX : ExtX [] w wr := hx1.fresh hx2 fun y hy => .inl (le_mem1 hy hx)
  have hc2 := blk_ext hc hx2 hn
  refine Calls.mono (k_attempt (bar:=timeB W n) (W' := timeW W n) (h.ext hX) hl (hg.ext hX) fun w1 pb m1 hW hx3 hpb hP => .inl ⟨fn_impl_TimePass_1,_,rfl,k_TimePass_1 hP hW (cellX_blk (blk_ext hc2 hx3 (by simp)) (by simp) (k0:=0) rfl)⟩) ?_
  rintro e wv ⟨v,he,n',m',hv,hM,hy⟩
  subst hv
  refine ⟨_,_,_,_,_,_,_,_,_,_,_,he,kept_of hy hs,fun wr1 hx4 => ⟨n',m',rfl,(hM.ext hx4 fun y hy hm => ?_).mono hX.size,(hX.trans hy).fresh hx4 fun y hm => ?_⟩⟩
  · have := (hM.lt y hy).1
    have := hs y hm
    omega
  · simp only [List.mem_cons,List.not_mem_nil,or_false] at hm
    rcases hm with rfl | rfl
    · exact .inl hx
    · exact .inl (Nat.le_trans hx1.size hb2)
end
end Go.Proofs.YtjjdgognjpmipaaGreatDoor
namespace Go.Proofs.YtjjdgognjpmipaaGreatDoor
open Go.RowKit
set_option linter.unusedVariables false
set_option linter.unusedSimpArgs false
set_option maxRecDepth 10000
set_option maxHeartbeats 1000000 in
theorem k_FnExactTimePass {D : Wld} {M : MW} {n : Int} {w : World} (ft : FitW w D M) (_ : InR .i64 n) (hg : GlobE w) :
    Calls Tryz.prog fn_laws_FnExactTimePass #[.agg (encW D M).toArray,.int .i64 n] w fun e w' => e = .returned (.bool true) ∧ ExtX [] w w' := by
  refine (e_laws_FnExactTimePass D.now M.cO D.cpus.length M.cC M.tO D.tasks.length M.tC M.gO D.groups.length M.gC n (R:=fun v w' => v = .bool true ∧ ExtX [] w w') ?_).mono fun e w' ⟨v,he,hv,h3⟩ => ⟨by rw [he,hv],h3⟩
  have hl : LenW D := ⟨ft.lc,ft.lt,ft.lg,ft.ft⟩
  have hrd := ft.rd
  intro b hb
  refine ⟨_,k_szWorld ft (by decide) (by decide),fun _ w1 hx1 => ⟨rfl,hx1⟩,fun hs => ?_⟩
  have hs := of_decide_eq_false hs
  have sm := (szWd_nn (W:=D) (left:=1048576) (by decide) (by omega)).1
  have smr : SmW (ansD D (timeB D n) (timeW D n)).1 := ans_sm sm fun hW hb => sm_time sm hW hb
  have hmD := mK_pos sm
  generalize hr : ansD D (timeB D n) (timeW D n) = r at smr
  have hmR := mK_pos smr
  intro wr1 hx1 hs1
  have s1 : Sc w [b] wr1 := ((Sc.start w).add hb).call0 hx1
  refine Calls.mono (k_toW hrd s1 hs1 sm) ?_
  rintro e wv ⟨mA,he,hA,hy⟩
  refine ⟨_,_,_,_,_,_,_,_,_,_,he,kept_of hy hs1,fun wr2 hx2 hs2 => ?_⟩
  have s2 := (s1.call0 hy).step hx2
  have hA2 := hA.step hx2
  refine Calls.mono (k_spec_TimePass (n:=n) hA2.rd0 hl) ?_
  rintro e1 wv1 ⟨v,he1,nW,mW,hv,hW0,hy1⟩
  subst hv
  rw [hr] at he1 hW0
  have s3 := s2.call0 hy1
  have hW1 := (OW.of hW0 hs2).mono s2.ext.size
  refine ⟨_,_,_,_,_,_,_,_,_,_,_,he1,kept_of hy1 hs2,fun b1 hb1 wr3 hx3 hs3 => ?_⟩
  have s4 := s3.put hx3 hb1
  have hW2 := hW1.put hx3 hb1
  refine Calls.mono (k_toW hrd s4 hs3 sm) ?_
  rintro e2 wv2 ⟨mX,he2,hX0,hy2⟩
  have n0 := sepW hW2.own hX0.own (Nat.le_refl _)
  have s5 := s4.call0 hy2
  have hW3 := hW2.call0 hy2
  have hX1 := hX0.mono s4.ext.size
  refine ⟨_,_,_,_,_,_,_,_,_,_,he2,kept_of hy2 hs3,fun b2 hb2 wr4 hx4 hs4 => ?_⟩
  have s6 := s5.put hx4 hb2
  have hW4 := hW3.put hx4 hb2
  have hX2 := hX1.put hx4 hb2
  refine Calls.mono (k_impl_TimePass (n:=n) hX2.rd0 hl (hg.ext s6.ext)) ?_
  rintro e3 wv3 ⟨v,he3,nG,mG,hv,hG0,hy3⟩
  subst hv
  rw [hr] at he3 hG0
  have n1 := sepW hX2.own hG0 (Nat.le_refl _)
  have n2 := sepW hW4.own hG0 (Nat.le_refl _)
  have s7 := s6.call0 hy3
  have hW5 := hW4.call0 hy3
  have hX3 := hX2.call0 hy3
  have hG1 := (OW.of hG0 hs4).mono s6.ext.size
  refine ⟨_,_,_,_,_,_,_,_,_,_,_,he3,kept_of hy3 hs4,fun b3 hb3 => ⟨true,eqWW hG1.rd hW5.rd smr,fun hbad => (by simp at hbad),fun _ wr6 hx6 hs6 => ?_⟩⟩
  have s8 := s7.put hx6 hb3
  have hW6 := hW5.put hx6 hb3
  have hX4 := hX3.put hx6 hb3
  have hG2 := hG1.put hx6 hb3
  refine Calls.mono (k_toW hrd s8 hs6 sm) ?_
  rintro e4 wv4 ⟨mY,he4,hY,hy4⟩
  refine ⟨_,_,_,_,_,_,_,_,_,_,he4,kept_of hy4 hs6,rfl,true,eqWW (hX4.call0 hy4).rd hY.rd sm,fun hbad => (by simp at hbad),fun _ wr8 hx8 hs8 => ?_⟩
  have s9 := (s8.call0 hy4).step hx8
  have hW7 := (hW6.call0 hy4).step hx8
  have hX5 := (hX4.call0 hy4).step hx8
  have hG3 := (hG2.call0 hy4).step hx8
  refine Calls.mono (k_markWorld hX5.own sm) ?_
  rintro e5 wv5 ⟨he5,_,hy5⟩
  have s10 := s9.call hy5 fun x hx => (hX5.own.lt x hx).1
  have hW8 := hW7.call hy5 n0.1
  have hG4 := hG3.call hy5 n1.2
  refine ⟨_,he5,kept_sep hy5 hs8 hX5.nb,true,fun _ => eqWW hG4.rd hW8.rd smr,fun hbad => ?_,fun _ wr10 hx10 hs10 => ?_⟩
  · rw [decide_eq_false (by omega)] at hbad
    simp at hbad
  have s11 := s10.step hx10
  have hW9 := hW8.step hx10
  have hG5 := hG4.step hx10
  refine Calls.mono (k_markWorld hG5.own smr) ?_
  rintro e6 wv6 ⟨he6,hGm,hy6⟩
  have s12 := s11.call hy6 fun x hx => (hG5.own.lt x hx).1
  have hW10 := hW9.call hy6 n2.1
  have hH : OW nG w.heap.size _ wv6 (markW r.1) mG := ⟨hGm,hG5.nb⟩
  refine ⟨_,he6,kept_sep hy6 hs10 hG5.nb,_,k_heldWorld hH.rd smr,fun hbad => ?_,fun _ => ⟨fun hbad => (by simp at hbad),fun _ wr13 hx13 hs13 => ?_⟩⟩
  · have := of_decide_eq_true hbad
    omega
  have s13 := s12.step hx13
  have hW11 := hW10.step hx13
  have hH2 := hH.step hx13
  refine Calls.mono (k_toW hrd s13 hs13 sm) ?_
  rintro e7 wv7 ⟨mZ,he7,hZ,hy7⟩
  refine ⟨_,_,_,_,_,_,_,_,_,_,he7,kept_of hy7 hs13,fun wr14 hx14 hs14 => ?_⟩
  have s14 := (s13.call0 hy7).step hx14
  have hW12 := (hW11.call0 hy7).step hx14
  have hH3 := (hH2.call0 hy7).step hx14
  refine Calls.mono (k_impl_TimePass (n:=n) (hZ.step hx14).rd0 hl (hg.ext s14.ext)) ?_
  rintro e8 wv8 ⟨v,he8,nI,mI,hv,hI0,hy8⟩
  subst hv
  rw [hr] at he8 hI0
  have s15 := s14.call0 hy8
  have hW13 := hW12.call0 hy8
  have hH4 := hH3.call0 hy8
  have hI := OW.of hI0 hs14
  refine ⟨_,_,_,_,_,_,_,_,_,_,_,he8,kept_of hy8 hs14,fun b4 hb4 => ⟨true,eqWW hI.rd hW13.rd smr,fun hbad => (by simp at hbad),fun _ => ⟨_,k_heldWorld hH4.rd smr,fun hbad => ?_,fun _ => ⟨fun hbad => (by simp at hbad),fun _ wr18 hx18 => ⟨rfl,(s15.step hx18).ext⟩⟩⟩⟩⟩
  have := of_decide_eq_true hbad
  omega
end Go.Proofs.YtjjdgognjpmipaaGreatDoor
