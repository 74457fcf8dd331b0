/- Part 14 of what the law FnExactTaskNice needs: the engine, the functions' propositions, the contracts. -/
import Derived.Test.YtjjdgognjpmipaaGreatDoorFnExactTaskNicePm
import Derived.Laws.BytesArg
namespace Go.Proofs.YtjjdgognjpmipaaGreatDoor
open Go.RowKit
set_option linter.unusedVariables false
set_option linter.unusedSimpArgs false
set_option maxRecDepth 10000
theorem tdiv10 {k : Int} (h : 0 < k) : 0 ≤ Int.tdiv k 10 ∧ Int.tdiv k 10 < k := by
  rw [Int.tdiv_eq_ediv_of_nonneg (by omega)]
  omega
theorem tmod10 {k : Int} (h : 0 < k) : 0 ≤ Int.tmod k 10 ∧ Int.tmod k 10 ≤ 9 := by
  rw [Int.tmod_eq_emod_of_nonneg (by omega)]
  omega
def digs (k : Int) (out : ByteArray) : ByteArray := if h : 0 < k then digs (Int.tdiv k 10) (strOfNums [48 + Int.tmod k 10] ++ out) else out
termination_by k.toNat
decreasing_by
  have := tdiv10 h
  omega
def mtx (k : Int) : ByteArray := if k ≤ 0 then ⟨[109,48].toArray⟩ else ⟨[109].toArray⟩ ++ digs k ⟨[].toArray⟩
theorem u_sl_u8 : Tryz.prog.underlying ty_sl_uint8 = some (.slice ty_uint8) := by kernel_rfl
theorem u_u8 : Tryz.prog.underlying ty_uint8 = some (.int .u8) := by kernel_rfl
theorem u_str0 : Tryz.prog.underlying ty_string = some .string := by kernel_rfl
theorem k_markText {k : Int} (hk : k ≤ 1000000000000000000) {w : World} {bs : List Nat} : PureX bs Tryz.prog fn_laws_markText #[.int .i64 k] w (.string (mtx k)) :=
  pureX_of fun wr _ => e_laws_markText k (R:=fun v w' => v = .string (mtx k) ∧ ExtX [] wr w') (by
    refine ⟨fun g w1 hx => ⟨by unfold mtx; rw [if_pos (of_decide_eq_true g)],hx⟩,fun g => ?_⟩
    have g := of_decide_eq_false g
    have hmt : mtx k = ⟨[109].toArray⟩ ++ digs k ⟨[].toArray⟩ := by unfold mtx; rw [if_neg g]
    refine ⟨fun vs w1 => ∃ (k1 : Int) (out : ByteArray),vs = [.int .i64 k1,.string out] ∧ 0 ≤ k1 ∧ (out.size : Int) + k1 ≤ k ∧ digs k1 out = digs k ⟨[].toArray⟩ ∧ ExtX [] wr w1,fun vs _ => (ctrAt 0 vs).toNat,fun w1 hx _ => ⟨k,_,rfl,by omega,by simp [ByteArray.size],rfl,hx⟩,?_⟩
    rintro k1 out wv _ ⟨k1',out',he,h0,hs,hd,hX⟩
    simp only [List.cons.injEq,Value.int.injEq,Value.string.injEq,true_and,and_true] at he
    obtain ⟨rfl,rfl⟩ := he
    refine ⟨fun gk => ?_,fun gk => ?_⟩
    · have gk : 0 < k1 := of_decide_eq_true gk
      have hm := tmod10 gk
      have hd10 := tdiv10 gk
      refine ⟨by decide,⟨by omega,by omega⟩,⟨by show (0 : Int) ≤ _; omega,by show _ ≤ (255 : Int); omega⟩,fun b wb hxb hb hcell _ wr2 hx2 _ => ?_⟩
      have hc := blk_ext hcell hx2 (by simp)
      have hrun := run_convert_bytes_arg (P:=Tryz.prog) wr2 ty_sl_uint8 ty_uint8 u_sl_u8 u_u8 b 0 1 1 [48 + Int.tmod k1 10] rfl (fun i hi => by
        have : i = 0 := by omega
        subst this
        rw [Nat.add_zero,cell_blk hc]
        rfl) ty_string u_str0
      have hsz : (strOfNums [48 + Int.tmod k1 10] ++ out).size = 1 + out.size := by rw [ByteArray.size_append,strOfNums_size]; rfl
      refine ⟨_,wr2,hrun,kept_nil,?_,⟨by decide,⟨by omega,by omega⟩⟩,fun wr3 hx3 _ => ⟨⟨Int.tdiv k1 10,_,rfl,hd10.1,?_,?_,((hX.trans hxb).trans hx2).trans hx3⟩,?_⟩⟩
      · rw [strOfNums_size,List.length_singleton]; omega
      · rw [hsz]; omega
      · rw [← hd]
        conv => rhs; rw [digs]
        rw [dif_pos gk]
      · show (Int.tdiv k1 10).toNat < k1.toNat
        omega
    · have gk : ¬ 0 < k1 := of_decide_eq_false gk
      refine ⟨by rw [show (ByteArray.mk [109].toArray).size = 1 from rfl]; omega,fun wr4 hx4 => ⟨?_,hX.trans hx4⟩⟩
      rw [hmt,← hd,digs,dif_neg gk])
theorem set_self0 {α : Type} [Inhabited α] {l : List α} {i : Int} (h0 : 0 ≤ i) (h1 : i < (l.length : Int)) : l.set i.toNat (gi l i) = l := by
  obtain ⟨k,rfl⟩ := Int.eq_ofNat_of_zero_le h0
  rw [gi_lt (by omega),Int.toNat_natCast,List.set_getElem_self]
def mkG (G : Grp) (K : Int) : Grp := ⟨(Int.tmod (K) 3 == 0),K + 1,mtx (K + 1 + 1),K + 1 + 1 + 1,K + 1 + 1 + 1 + 1,K + 1 + 1 + 1 + 1 + 1,K + 1 + 1 + 1 + 1 + 1 + 1,K + 1 + 1 + 1 + 1 + 1 + 1 + 1,⟨K + 1 + 1 + 1 + 1 + 1 + 1 + 1 + 1,K + 1 + 1 + 1 + 1 + 1 + 1 + 1 + 1 + 1,K + 1 + 1 + 1 + 1 + 1 + 1 + 1 + 1 + 1 + 1,markI G.band.locals.length (K + 1 + 1 + 1 + 1 + 1 + 1 + 1 + 1 + 1 + 1 + 1),markB G.band.dry.length (K + 1 + 1 + 1 + 1 + 1 + 1 + 1 + 1 + 1 + 1 + 1 + 1 * (G.band.locals.length : Int))⟩,markS G.shelves.length (K + 1 + 1 + 1 + 1 + 1 + 1 + 1 + 1 + 1 + 1 + 1 + 1 * (G.band.locals.length : Int) + 1 * (G.band.dry.length : Int))⟩
def nxK (G : Grp) (K : Int) : Int := K + 1 + 1 + 1 + 1 + 1 + 1 + 1 + 1 + 1 + 1 + 1 + 1 * (G.band.locals.length : Int) + 1 * (G.band.dry.length : Int) + 5 * (G.shelves.length : Int)
def gK (gs : List Grp) (k : Int) : Nat → Int
  | 0 => k
  | i + 1 => nxK (gi gs (i : Int)) (gK gs k i)
def markG (gs : List Grp) (k : Int) : Nat → List Grp
  | 0 => gs
  | i + 1 => (markG gs k i).set i (mkG (gi gs (i : Int)) (gK gs k i))
theorem markG_len (gs : List Grp) (k : Int) : ∀ i,(markG gs k i).length = gs.length
  | 0 => rfl
  | i + 1 => by simp only [markG]; rw [List.length_set,markG_len gs k i]
theorem markG_gi {gs : List Grp} {k : Int} : ∀ (i : Nat) (j : Nat),i ≤ gs.length → gi (markG gs k i) (j : Int) = if j < i then mkG (gi gs (j : Int)) (gK gs k j) else gi gs (j : Int)
  | 0,j,_ => by rw [if_neg (by omega)]; rfl
  | i + 1,j,h => by
    simp only [markG]
    have := gi_set (markG gs k i) (mkG (gi gs (i : Int)) (gK gs k i)) (i:=(i : Int)) (by omega) (by rw [markG_len]; omega) (j:=(j : Int)) (by omega)
    rw [Int.toNat_natCast] at this
    rw [this,markG_gi i j (by omega)]
    by_cases e : i = j
    · subst e; rw [if_pos rfl,if_pos (by omega)]
    · rw [if_neg (by omega)]
      by_cases h2 : j < i
      · rw [if_pos h2,if_pos (by omega)]
      · rw [if_neg h2,if_neg (by omega)]
theorem gK_range {gs : List Grp} {k : Int} (hs : ∀ i : Int,0 ≤ i → i < (gs.length : Int) → SmG (gi gs i)) : ∀ i : Nat,i ≤ gs.length → k ≤ gK gs k i ∧ gK gs k i ≤ k + (i : Int) * 8000000
  | 0,_ => by simp only [gK]; omega
  | i + 1,h => by
    have ih := gK_range (k:=k) hs i (by omega)
    have s := hs (i : Int) (by omega) (by omega)
    have h1 := s.lo
    have h2 := s.dr
    have h3 := s.sh
    simp only [gK,nxK]
    omega
section
variable {n base : Nat} {W : Wld} {m : MW} {w w' : World} {G G' : Grp} {i : Int}
theorem MWd.grRd (h : MWd n base w (setGr W i G) m) (i0 : 0 ≤ i) (i1 : i < (W.groups.length : Int)) : CellsX [] w m.gO (Int.toNat i * 14) (encG G (m.ms i.toNat)) := by
  have := (h.rd (bs:=[]) (by simp)).g.cells i i0 (by show i < (((W.groups.set i.toNat G).length : Nat) : Int); rw [List.length_set]; exact i1)
  rwa [set_gi i0 i1 i0,if_pos rfl] at this
theorem MWd.grOwn (h : MWd n base w (setGr W i G) m) (i0 : 0 ≤ i) (i1 : i < (n : Int)) (hl : W.groups.length = n) : OwnM base w (G,m.ms i.toNat) := by
  have := h.each i0 i1
  rwa [set_gi i0 (by omega) i0,if_pos rfl] at this
theorem MWd.grSto (h : MWd n base w (setGr W i G) m) (i0 : 0 ≤ i) (i1 : i < (n : Int)) (hl : W.groups.length = n) (e1 : G'.band.locals = G.band.locals) (e2 : G'.band.dry = G.band.dry) (e3 : G'.shelves = G.shelves) {j : Nat} {vs : List Value}
    (he : encG G' (m.ms i.toNat) = (encG G (m.ms i.toNat)).take j ++ vs ++ (encG G (m.ms i.toNat)).drop (j + vs.length)) (hj : j + vs.length ≤ 14) : MWd n base (sto w m.gO (Int.toNat i * 14 + j) vs) (setGr W i G') m := by
  have hg : gi (setGr W i G).groups i = G := by rw [set_gi i0 (by omega) i0,if_pos rfl]
  have this : MWd n base _ (setGr (setGr W i G) i G') m := h.stoG0 i0 i1 (g:=G') (by rw [hg]; exact e1) (by rw [hg]; exact e2) (by rw [hg]; exact e3) (by rw [hg]; exact he) hj
  rwa [show setGr (setGr W i G) i G' = setGr W i G' by unfold setGr; rw [List.set_set]] at this
theorem MWd.grIn {bs : List Nat} (h : MWd n base w (setGr W i G) m) (i0 : 0 ≤ i) (i1 : i < (n : Int)) (hl : W.groups.length = n) (hx : ExtX bs w w') (hb : ∀ x ∈ bs,x ∈ grpBlks (m.ms i.toNat)) (hp : OwnM base w' (G',m.ms i.toNat)) (he : encG G' (m.ms i.toNat) = encG G (m.ms i.toNat)) : MWd n base w' (setGr W i G') m := by
  have hg : gi (setGr W i G).groups i = G := by rw [set_gi i0 (by omega) i0,if_pos rfl]
  have this : MWd n base _ (setGr (setGr W i G) i G') m := h.in i0 i1 hx hb hp (by rw [hg]; exact he)
  rwa [show setGr (setGr W i G) i G' = setGr W i G' by unfold setGr; rw [List.set_set]] at this
set_option maxHeartbeats 1000000 in
theorem k_markGroupS {k : Int} (h : MWd n base w W m) (hln : W.groups.length ≤ 1048576) (hs : ∀ i : Int,0 ≤ i → i < (W.groups.length : Int) → SmG (gi W.groups i)) (hk : 0 ≤ k) (hk2 : k ≤ 10000000000000000) :
    Calls Tryz.prog fn_laws_markGroupS #[.slice m.gO W.groups.length m.gC,.int .i64 k] w fun e w' => e = .returned (.int .i64 (gK W.groups k W.groups.length)) ∧ MWd n base w' { W with groups := markG W.groups k W.groups.length } m ∧ ExtX (wBlks n m) w w' := by
  refine (e_laws_markGroupS m.gO W.groups.length m.gC k (R:=fun v w' => v = .int .i64 (gK W.groups k W.groups.length) ∧ MWd n base w' { W with groups := markG W.groups k W.groups.length } m ∧ ExtX (wBlks n m) w w') ?_).mono fun e w' ⟨v,he,hv,h1⟩ => ⟨by rw [he,hv],h1⟩
  have hnl := h.len
  refine ⟨fun vs w1 => ∃ (i : Nat),vs = [.int .i64 (gK W.groups k i),.int .i64 (i : Int)] ∧ i ≤ W.groups.length ∧ MWd n base w1 { W with groups := markG W.groups k i } m ∧ ExtX (wBlks n m) w w1,cntMw W.groups.length 1,fun w1 hx _ => ⟨0,rfl,Nat.zero_le _,h.ext0 hx,hx.of_nil⟩,?_⟩
  rintro k1 i1 wv _ ⟨i,he,hi,hM,hX⟩
  simp only [List.cons.injEq,Value.int.injEq,true_and,and_true] at he
  obtain ⟨rfl,rfl⟩ := he
  have hr := gK_range (k:=k) hs i hi
  refine ⟨fun hlt => ?_,fun hge => ?_⟩
  · have hlt := of_decide_eq_true hlt
    have sm := hs (i : Int) (by omega) hlt
    have s1 := sm.lo
    have s2 := sm.dr
    have s3 := sm.sh
    have hG0 := markG_gi (gs:=W.groups) (k:=k) i i hi
    rw [if_neg (by omega)] at hG0
    have hlen : (markG W.groups k i).length = n := by rw [markG_len,hnl]
    have hM0 : MWd n base wv (setGr { W with groups := markG W.groups k i } (i : Int) (gi W.groups (i : Int))) m := by
      have e : setGr { W with groups := markG W.groups k i } (i : Int) (gi W.groups (i : Int)) = { W with groups := markG W.groups k i } := by
        unfold setGr
        dsimp only
        rw [← hG0,set_self0 (by omega) (by rw [markG_len]; exact hlt)]
      rw [e]; exact hM
    have hdef : ({ W with groups := markG W.groups k (i + 1) } : Wld) = setGr { W with groups := markG W.groups k i } (i : Int) (mkG (gi W.groups (i : Int)) (gK W.groups k i)) := by
      unfold setGr
      simp only [markG,Int.toNat_natCast]
    have hnx : gK W.groups k (i + 1) = nxK (gi W.groups (i : Int)) (gK W.groups k i) := rfl
    have hKr : gK W.groups k i ≤ 50000000000000000 := by omega
    have hK0 : 0 ≤ gK W.groups k i := by omega
    have i0 : (0 : Int) ≤ (i : Int) := by omega
    have i1 : (i : Int) < (n : Int) := by omega
    generalize ({ W with groups := markG W.groups k i } : Wld) = W1 at hM hM0 hdef
    have hl1 : W1.groups.length = n := hM.len
    clear hG0 hlen hM
    generalize gi W.groups (i : Int) = G at hM0 hdef hnx s1 s2 s3
    generalize gK W.groups k i = K at hKr hK0 hnx hdef ⊢
    have hix : Ix m.gO W.groups.length (i : Int) := by
      have := (hM0.rd (bs:=[]) (by simp)).g.ix (i:=(i : Int)) i0 (by show (i : Int) < (((W1.groups.set (Int.toNat (i : Int)) G).length : Nat) : Int); rw [List.length_set]; omega)
      rw [show (setGr W1 (i : Int) G).groups.length = W.groups.length by show (W1.groups.set (Int.toNat (i : Int)) G).length = _; rw [List.length_set]; omega] at this
      exact this
    have hM1 := hM0.grSto i0 i1 hl1 (G' := { G with used := (Int.tmod (K) 3 == 0) }) rfl rfl rfl (j:=0) (vs:=[.bool (Int.tmod K 3 == 0)]) rfl (by simp)
    have hM2 := hM1.grSto i0 i1 hl1 (G' := { G with used := (Int.tmod (K) 3 == 0),parent := K + 1 }) rfl rfl rfl (j:=1) (vs:=[.int .i64 (K + 1)]) rfl (by simp)
    have hM3 := hM2.grSto i0 i1 hl1 (G' := { G with used := (Int.tmod (K) 3 == 0),parent := K + 1,name := mtx (K + 1 + 1) }) rfl rfl rfl (j:=2) (vs:=[.string (mtx (K + 1 + 1))]) rfl (by simp)
    have hM4 := hM3.grSto i0 i1 hl1 (G' := { G with used := (Int.tmod (K) 3 == 0),parent := K + 1,name := mtx (K + 1 + 1),weight := K + 1 + 1 + 1 }) rfl rfl rfl (j:=3) (vs:=[.int .i64 (K + 1 + 1 + 1)]) rfl (by simp)
    have hM5 := hM4.grSto i0 i1 hl1 (G' := { G with used := (Int.tmod (K) 3 == 0),parent := K + 1,name := mtx (K + 1 + 1),weight := K + 1 + 1 + 1,cpus := K + 1 + 1 + 1 + 1 }) rfl rfl rfl (j:=4) (vs:=[.int .i64 (K + 1 + 1 + 1 + 1)]) rfl (by simp)
    have hM6 := hM5.grSto i0 i1 hl1 (G' := { G with used := (Int.tmod (K) 3 == 0),parent := K + 1,name := mtx (K + 1 + 1),weight := K + 1 + 1 + 1,cpus := K + 1 + 1 + 1 + 1,period := K + 1 + 1 + 1 + 1 + 1 }) rfl rfl rfl (j:=5) (vs:=[.int .i64 (K + 1 + 1 + 1 + 1 + 1)]) rfl (by simp)
    have hM7 := hM6.grSto i0 i1 hl1 (G' := { G with used := (Int.tmod (K) 3 == 0),parent := K + 1,name := mtx (K + 1 + 1),weight := K + 1 + 1 + 1,cpus := K + 1 + 1 + 1 + 1,period := K + 1 + 1 + 1 + 1 + 1,next := K + 1 + 1 + 1 + 1 + 1 + 1 }) rfl rfl rfl (j:=6) (vs:=[.int .i64 (K + 1 + 1 + 1 + 1 + 1 + 1)]) rfl (by simp)
    have hM8 := hM7.grSto i0 i1 hl1 (G' := { G with used := (Int.tmod (K) 3 == 0),parent := K + 1,name := mtx (K + 1 + 1),weight := K + 1 + 1 + 1,cpus := K + 1 + 1 + 1 + 1,period := K + 1 + 1 + 1 + 1 + 1,next := K + 1 + 1 + 1 + 1 + 1 + 1,sum := K + 1 + 1 + 1 + 1 + 1 + 1 + 1 }) rfl rfl rfl (j:=7) (vs:=[.int .i64 (K + 1 + 1 + 1 + 1 + 1 + 1 + 1)]) rfl (by simp)
    have hM9 := hM8.grSto i0 i1 hl1 (G' := { G with used := (Int.tmod (K) 3 == 0),parent := K + 1,name := mtx (K + 1 + 1),weight := K + 1 + 1 + 1,cpus := K + 1 + 1 + 1 + 1,period := K + 1 + 1 + 1 + 1 + 1,next := K + 1 + 1 + 1 + 1 + 1 + 1,sum := K + 1 + 1 + 1 + 1 + 1 + 1 + 1,band := { G.band with quota := K + 1 + 1 + 1 + 1 + 1 + 1 + 1 + 1 } }) rfl rfl rfl (j:=8) (vs:=[.int .i64 (K + 1 + 1 + 1 + 1 + 1 + 1 + 1 + 1)]) rfl (by simp)
    have hM10 := hM9.grSto i0 i1 hl1 (G' := { G with used := (Int.tmod (K) 3 == 0),parent := K + 1,name := mtx (K + 1 + 1),weight := K + 1 + 1 + 1,cpus := K + 1 + 1 + 1 + 1,period := K + 1 + 1 + 1 + 1 + 1,next := K + 1 + 1 + 1 + 1 + 1 + 1,sum := K + 1 + 1 + 1 + 1 + 1 + 1 + 1,band := { G.band with quota := K + 1 + 1 + 1 + 1 + 1 + 1 + 1 + 1,pool := K + 1 + 1 + 1 + 1 + 1 + 1 + 1 + 1 + 1 } }) rfl rfl rfl (j:=9) (vs:=[.int .i64 (K + 1 + 1 + 1 + 1 + 1 + 1 + 1 + 1 + 1)]) rfl (by simp)
    have hM11 := hM10.grSto i0 i1 hl1 (G' := { G with used := (Int.tmod (K) 3 == 0),parent := K + 1,name := mtx (K + 1 + 1),weight := K + 1 + 1 + 1,cpus := K + 1 + 1 + 1 + 1,period := K + 1 + 1 + 1 + 1 + 1,next := K + 1 + 1 + 1 + 1 + 1 + 1,sum := K + 1 + 1 + 1 + 1 + 1 + 1 + 1,band := { G.band with quota := K + 1 + 1 + 1 + 1 + 1 + 1 + 1 + 1,pool := K + 1 + 1 + 1 + 1 + 1 + 1 + 1 + 1 + 1,spent := K + 1 + 1 + 1 + 1 + 1 + 1 + 1 + 1 + 1 + 1 } }) rfl rfl rfl (j:=10) (vs:=[.int .i64 (K + 1 + 1 + 1 + 1 + 1 + 1 + 1 + 1 + 1 + 1)]) rfl (by simp)
    have hc11 := hM11.grRd i0 (by omega)
    have hX11 : ExtX (wBlks n m) wv _ := ((((((((((subG (n:=n) (m:=m) (w:=wv) (k:=Int.toNat (i : Int) * 14 + 0) (vs:=[.bool (Int.tmod K 3 == 0)])).trans (subG (n:=n) (m:=m) (k:=Int.toNat (i : Int) * 14 + 1) (vs:=[.int .i64 (K + 1)]))).trans (subG (n:=n) (m:=m) (k:=Int.toNat (i : Int) * 14 + 2) (vs:=[.string (mtx (K + 1 + 1))]))).trans (subG (n:=n) (m:=m) (k:=Int.toNat (i : Int) * 14 + 3) (vs:=[.int .i64 (K + 1 + 1 + 1)]))).trans (subG (n:=n) (m:=m) (k:=Int.toNat (i : Int) * 14 + 4) (vs:=[.int .i64 (K + 1 + 1 + 1 + 1)]))).trans (subG (n:=n) (m:=m) (k:=Int.toNat (i : Int) * 14 + 5) (vs:=[.int .i64 (K + 1 + 1 + 1 + 1 + 1)]))).trans (subG (n:=n) (m:=m) (k:=Int.toNat (i : Int) * 14 + 6) (vs:=[.int .i64 (K + 1 + 1 + 1 + 1 + 1 + 1)]))).trans (subG (n:=n) (m:=m) (k:=Int.toNat (i : Int) * 14 + 7) (vs:=[.int .i64 (K + 1 + 1 + 1 + 1 + 1 + 1 + 1)]))).trans (subG (n:=n) (m:=m) (k:=Int.toNat (i : Int) * 14 + 8) (vs:=[.int .i64 (K + 1 + 1 + 1 + 1 + 1 + 1 + 1 + 1)]))).trans (subG (n:=n) (m:=m) (k:=Int.toNat (i : Int) * 14 + 9) (vs:=[.int .i64 (K + 1 + 1 + 1 + 1 + 1 + 1 + 1 + 1 + 1)]))).trans (subG (n:=n) (m:=m) (k:=Int.toNat (i : Int) * 14 + 10) (vs:=[.int .i64 (K + 1 + 1 + 1 + 1 + 1 + 1 + 1 + 1 + 1 + 1)]))
    refine ⟨by decide,hix,wrG hM0 (bs:=[]) (by simp) i0 i1 (j:=0) (k:=1) (by decide),⟨by omega,by omega⟩,hix,wrG hM1 (bs:=[]) (by simp) i0 i1 (j:=1) (k:=1) (by decide),⟨by omega,by omega⟩,_,k_markText (by omega),hix,wrG hM2 (bs:=[]) (by simp) i0 i1 (j:=2) (k:=1) (by decide),⟨by omega,by omega⟩,hix,wrG hM3 (bs:=[]) (by simp) i0 i1 (j:=3) (k:=1) (by decide),⟨by omega,by omega⟩,hix,wrG hM4 (bs:=[]) (by simp) i0 i1 (j:=4) (k:=1) (by decide),⟨by omega,by omega⟩,hix,wrG hM5 (bs:=[]) (by simp) i0 i1 (j:=5) (k:=1) (by decide),⟨by omega,by omega⟩,hix,wrG hM6 (bs:=[]) (by simp) i0 i1 (j:=6) (k:=1) (by decide),⟨by omega,by omega⟩,hix,wrG hM7 (bs:=[]) (by simp) i0 i1 (j:=7) (k:=1) (by decide),⟨by omega,by omega⟩,hix,wrG hM8 (bs:=[]) (by simp) i0 i1 (j:=8) (k:=1) (by decide),⟨by omega,by omega⟩,hix,wrG hM9 (bs:=[]) (by simp) i0 i1 (j:=9) (k:=1) (by decide),⟨by omega,by omega⟩,hix,wrG hM10 (bs:=[]) (by simp) i0 i1 (j:=10) (k:=1) (by decide),⟨by omega,by omega⟩,hix,_,_,_,cellsX_one (hc11.get 11 _ rfl),fun wr1 hx1 _ => ?_⟩
    have hN1 := hM11.ext0 hx1
    have hO1 := hN1.grOwn i0 i1 hl1
    refine Calls.mono (k_markIntS (k:=K + 1 + 1 + 1 + 1 + 1 + 1 + 1 + 1 + 1 + 1 + 1) hO1.loc s1 (by omega) (by omega)) ?_
    rintro e wv1 ⟨he1,hL1,hy1⟩
    have hN2 := hN1.grIn (G' := { { G with used := (Int.tmod (K) 3 == 0),parent := K + 1,name := mtx (K + 1 + 1),weight := K + 1 + 1 + 1,cpus := K + 1 + 1 + 1 + 1,period := K + 1 + 1 + 1 + 1 + 1,next := K + 1 + 1 + 1 + 1 + 1 + 1,sum := K + 1 + 1 + 1 + 1 + 1 + 1 + 1,band := { G.band with quota := K + 1 + 1 + 1 + 1 + 1 + 1 + 1 + 1,pool := K + 1 + 1 + 1 + 1 + 1 + 1 + 1 + 1 + 1,spent := K + 1 + 1 + 1 + 1 + 1 + 1 + 1 + 1 + 1 + 1 } } with band := { ({ G with used := (Int.tmod (K) 3 == 0),parent := K + 1,name := mtx (K + 1 + 1),weight := K + 1 + 1 + 1,cpus := K + 1 + 1 + 1 + 1,period := K + 1 + 1 + 1 + 1 + 1,next := K + 1 + 1 + 1 + 1 + 1 + 1,sum := K + 1 + 1 + 1 + 1 + 1 + 1 + 1,band := { G.band with quota := K + 1 + 1 + 1 + 1 + 1 + 1 + 1 + 1,pool := K + 1 + 1 + 1 + 1 + 1 + 1 + 1 + 1 + 1,spent := K + 1 + 1 + 1 + 1 + 1 + 1 + 1 + 1 + 1 + 1 } } : Grp).band with locals := markI G.band.locals.length (K + 1 + 1 + 1 + 1 + 1 + 1 + 1 + 1 + 1 + 1 + 1) } }) i0 i1 hl1 hy1 (fun x hx => by simp [grpBlks]; exact .inl hx) ⟨hL1,hO1.dry.ext hy1 (hO1.dry.ty_ne hO1.loc (by decide)),hO1.shl.ext hy1 (hO1.shl.ty_ne hO1.loc (by decide))⟩ (by simp [encG,markI_len])
    have hc2 := hN2.grRd i0 (by omega)
    refine ⟨_,he1,kept_nil,hix,_,_,_,cellsX_one (hc2.get 12 _ rfl),fun wr2 hx2 _ => ?_⟩
    have hN3 := hN2.ext0 hx2
    have hO3 := hN3.grOwn i0 i1 hl1
    refine Calls.mono (k_markBoolS (k:=K + 1 + 1 + 1 + 1 + 1 + 1 + 1 + 1 + 1 + 1 + 1 + 1 * (G.band.locals.length : Int)) hO3.dry s2 (by omega) (by omega)) ?_
    rintro e wv2 ⟨he2,hD1,hy2⟩
    have hN4 := hN3.grIn (G' := { mkG G K with shelves := G.shelves }) i0 i1 hl1 hy2 (fun x hx => by simp [grpBlks]; exact .inr (.inl hx)) ⟨hO3.loc.ext hy2 (hO3.loc.ty_ne hO3.dry (by decide)),hD1,hO3.shl.ext hy2 (hO3.shl.ty_ne hO3.dry (by decide))⟩ (by simp [encG,mkG,markI_len,markB_len])
    have hc4 := hN4.grRd i0 (by omega)
    refine ⟨_,he2,kept_nil,hix,_,_,_,cellsX_one (hc4.get 13 _ rfl),fun wr3 hx3 _ => ?_⟩
    have hN5 := hN4.ext0 hx3
    have hO5 := hN5.grOwn i0 i1 hl1
    refine Calls.mono (k_markShelfS (k:=K + 1 + 1 + 1 + 1 + 1 + 1 + 1 + 1 + 1 + 1 + 1 + 1 * (G.band.locals.length : Int) + 1 * (G.band.dry.length : Int)) hO5.shl s3 (by omega) (by omega)) ?_
    rintro e wv3 ⟨he3,hS1,hy3⟩
    have hN6 := hN5.grIn (G' := mkG G K) i0 i1 hl1 hy3 (fun x hx => by simp [grpBlks]; exact .inr (.inr hx)) ⟨hO5.loc.ext hy3 (hO5.loc.ty_ne hO5.shl (by decide)),hO5.dry.ext hy3 (hO5.dry.ty_ne hO5.shl (by decide)),hS1⟩ (by simp [encG,mkG,markS_len])
    refine ⟨_,he3,kept_nil,⟨by omega,by omega⟩,fun w4 hx4 _ => ⟨⟨i + 1,?_,by omega,?_,?_⟩,?_⟩⟩
    · rw [hnx]; rfl
    · rw [hdef]; exact hN6.ext0 hx4
    · have m1 : ∀ x ∈ blkOf (m.ms (Int.toNat (i : Int))).lO,x ∈ wBlks n m := fun x hx => mem_wM (k:=Int.toNat (i : Int)) (by omega) (by simp [grpBlks]; exact .inl (by simpa using hx))
      have m2 : ∀ x ∈ blkOf (m.ms (Int.toNat (i : Int))).dO,x ∈ wBlks n m := fun x hx => mem_wM (k:=Int.toNat (i : Int)) (by omega) (by simp [grpBlks]; exact .inr (.inl (by simpa using hx)))
      have m3 : ∀ x ∈ blkOf (m.ms (Int.toNat (i : Int))).sO,x ∈ wBlks n m := fun x hx => mem_wM (k:=Int.toNat (i : Int)) (by omega) (by simp [grpBlks]; exact .inr (.inr (by simpa using hx)))
      exact (((((((hX.trans hX11).trans hx1.of_nil).trans (hy1.mono m1)).trans hx2.of_nil).trans (hy2.mono m2)).trans hx3.of_nil).trans (hy3.mono m3)).trans hx4.of_nil
    · simp only [cntMw,cntM,ctrAt,List.getElem?_cons_zero,List.getElem?_cons_succ]; omega
  · have hge := of_decide_eq_false hge
    have : i = W.groups.length := by omega
    subst this
    exact fun w5 hx5 => ⟨rfl,hM.ext0 hx5,hX.trans hx5.of_nil⟩
set_option maxHeartbeats 1000000 in
theorem k_heldGroupS {gs gs0 : List Grp} {ms : Nat → MG} {o : Option Addr} {c : Nat} {k : Int} {bs : List Nat} (h : RdG bs w o gs ms) (hl : gs.length = gs0.length) (hln : gs0.length ≤ 1048576) (hm : ∀ i : Nat,i < gs0.length → gi gs (i : Int) = mkG (gi gs0 (i : Int)) (gK gs0 k i)) (hs : ∀ i : Int,0 ≤ i → i < (gs0.length : Int) → SmG (gi gs0 i)) (hk : 0 ≤ k) (hk2 : k ≤ 10000000000000000) :
    PureX bs Tryz.prog fn_laws_heldGroupS #[.slice o gs0.length c,.int .i64 k] w (.int .i64 (gK gs0 k gs0.length)) :=
  p_laws_heldGroupS o gs0.length c k fun wr hx => by
    have h := (h.ext hx).less (cs:=[]) (by simp)
    refine loop2 gs0.length 0 rfl (fun x i => i ≤ gs0.length ∧ x = gK gs0 k i) ⟨Nat.zero_le _,rfl⟩ fun x i ⟨hi,hx1⟩ => ⟨fun hlt => ?_,fun hge => ?_⟩
    · subst hx1
      have hlt := of_decide_eq_true hlt
      have hr := gK_range (k:=k) hs i hi
      have sm := hs (i : Int) (by omega) hlt
      have s1 := sm.lo
      have s2 := sm.dr
      have s3 := sm.sh
      have hg := hm i (by omega)
      have hc := h.cells (i : Int) (by omega) (by omega)
      have hix : Ix o gs0.length (i : Int) := by have := h.ix (i:=(i : Int)) (by omega) (by omega); rwa [hl] at this
      have hLo := h.locals (i : Int) (by omega) (by omega)
      have hDo := h.dry (i : Int) (by omega) (by omega)
      have hSo := h.shelves (i : Int) (by omega) (by omega)
      have e1 : (gi gs (i : Int)).band.locals = markI (gi gs0 (i : Int)).band.locals.length (gK gs0 k i + 1 + 1 + 1 + 1 + 1 + 1 + 1 + 1 + 1 + 1 + 1) := by rw [hg]; rfl
      have e2 : (gi gs (i : Int)).band.dry = markB (gi gs0 (i : Int)).band.dry.length (gK gs0 k i + 1 + 1 + 1 + 1 + 1 + 1 + 1 + 1 + 1 + 1 + 1 + 1 * ((gi gs0 (i : Int)).band.locals.length : Int)) := by rw [hg]; rfl
      have e3 : (gi gs (i : Int)).shelves = markS (gi gs0 (i : Int)).shelves.length (gK gs0 k i + 1 + 1 + 1 + 1 + 1 + 1 + 1 + 1 + 1 + 1 + 1 + 1 * ((gi gs0 (i : Int)).band.locals.length : Int) + 1 * ((gi gs0 (i : Int)).band.dry.length : Int)) := by rw [hg]; rfl
      have hI := k_heldIntS (c:=(ms (Int.toNat (i : Int))).lC) (e1 ▸ hLo) s1 (by omega) (by omega)
      have hB := k_heldBoolS (c:=(ms (Int.toNat (i : Int))).dC) (e2 ▸ hDo) s2 (by omega) (by omega)
      have hS := k_heldShelfS (c:=(ms (Int.toNat (i : Int))).sC) (e3 ▸ hSo) s3 (by omega) (by omega)
      have l1 : (gi gs (i : Int)).band.locals.length = (gi gs0 (i : Int)).band.locals.length := by rw [e1,markI_len]
      have l2 : (gi gs (i : Int)).band.dry.length = (gi gs0 (i : Int)).band.dry.length := by rw [e2,markB_len]
      have l3 : (gi gs (i : Int)).shelves.length = (gi gs0 (i : Int)).shelves.length := by rw [e3,markS_len]
      have c11 : CellsX [] wr o (Int.toNat (i : Int) * 14 + 11) [.slice (ms (Int.toNat (i : Int))).lO (gi gs0 (i : Int)).band.locals.length (ms (Int.toNat (i : Int))).lC] := by rw [← l1]; exact cellsX_one (hc.get 11 _ rfl)
      have c12 : CellsX [] wr o (Int.toNat (i : Int) * 14 + 12) [.slice (ms (Int.toNat (i : Int))).dO (gi gs0 (i : Int)).band.dry.length (ms (Int.toNat (i : Int))).dC] := by rw [← l2]; exact cellsX_one (hc.get 12 _ rfl)
      have c13 : CellsX [] wr o (Int.toNat (i : Int) * 14 + 13) [.slice (ms (Int.toNat (i : Int))).sO (gi gs0 (i : Int)).shelves.length (ms (Int.toNat (i : Int))).sC] := by rw [← l3]; exact cellsX_one (hc.get 13 _ rfl)
      have f0 : (gi gs (i : Int)).used = (Int.tmod (gK gs0 k i) 3 == 0) := by rw [hg]; rfl
      have f1 : (gi gs (i : Int)).parent = gK gs0 k i + 1 := by rw [hg]; rfl
      have f2 : (gi gs (i : Int)).name = mtx (gK gs0 k i + 1 + 1) := by rw [hg]; rfl
      have f3 : (gi gs (i : Int)).weight = gK gs0 k i + 1 + 1 + 1 := by rw [hg]; rfl
      have f4 : (gi gs (i : Int)).cpus = gK gs0 k i + 1 + 1 + 1 + 1 := by rw [hg]; rfl
      have f5 : (gi gs (i : Int)).period = gK gs0 k i + 1 + 1 + 1 + 1 + 1 := by rw [hg]; rfl
      have f6 : (gi gs (i : Int)).next = gK gs0 k i + 1 + 1 + 1 + 1 + 1 + 1 := by rw [hg]; rfl
      have f7 : (gi gs (i : Int)).sum = gK gs0 k i + 1 + 1 + 1 + 1 + 1 + 1 + 1 := by rw [hg]; rfl
      have f8 : (gi gs (i : Int)).band.quota = gK gs0 k i + 1 + 1 + 1 + 1 + 1 + 1 + 1 + 1 := by rw [hg]; rfl
      have f9 : (gi gs (i : Int)).band.pool = gK gs0 k i + 1 + 1 + 1 + 1 + 1 + 1 + 1 + 1 + 1 := by rw [hg]; rfl
      have f10 : (gi gs (i : Int)).band.spent = gK gs0 k i + 1 + 1 + 1 + 1 + 1 + 1 + 1 + 1 + 1 + 1 := by rw [hg]; rfl
      refine ⟨hix,_,cellsX_one (hc.get 0 _ rfl),by decide,fun hb => (by rw [f0] at hb; simp at hb),fun _ => ⟨⟨by omega,by omega⟩,hix,_,cellsX_one (hc.get 1 _ rfl),fun hb => (by rw [f1] at hb; simp at hb),fun _ => ⟨⟨by omega,by omega⟩,hix,_,cellsX_one (hc.get 2 _ rfl),_,k_markText (by omega),fun hb => (by rw [f2,strEq_iff.2 rfl] at hb; cases hb),fun _ => ⟨⟨by omega,by omega⟩,hix,_,cellsX_one (hc.get 3 _ rfl),fun hb => (by rw [f3] at hb; simp at hb),fun _ => ⟨⟨by omega,by omega⟩,hix,_,cellsX_one (hc.get 4 _ rfl),fun hb => (by rw [f4] at hb; simp at hb),fun _ => ⟨⟨by omega,by omega⟩,hix,_,cellsX_one (hc.get 5 _ rfl),fun hb => (by rw [f5] at hb; simp at hb),fun _ => ⟨⟨by omega,by omega⟩,hix,_,cellsX_one (hc.get 6 _ rfl),fun hb => (by rw [f6] at hb; simp at hb),fun _ => ⟨⟨by omega,by omega⟩,hix,_,cellsX_one (hc.get 7 _ rfl),fun hb => (by rw [f7] at hb; simp at hb),fun _ => ⟨⟨by omega,by omega⟩,hix,_,cellsX_one (hc.get 8 _ rfl),fun hb => (by rw [f8] at hb; simp at hb),fun _ => ⟨⟨by omega,by omega⟩,hix,_,cellsX_one (hc.get 9 _ rfl),fun hb => (by rw [f9] at hb; simp at hb),fun _ => ⟨⟨by omega,by omega⟩,hix,_,cellsX_one (hc.get 10 _ rfl),fun hb => (by rw [f10] at hb; simp at hb),fun _ => ⟨⟨by omega,by omega⟩,hix,_,_,_,c11,_,hI,fun hb => (by have := of_decide_eq_true hb; omega),fun _ => ⟨hix,_,_,_,c12,_,hB,fun hb => (by have := of_decide_eq_true hb; omega),fun _ => ⟨hix,_,_,_,c13,_,hS,fun hb => (by have := of_decide_eq_true hb; omega),fun _ => ⟨⟨by omega,by omega⟩,loop2_next (by omega) ⟨by omega,rfl⟩⟩⟩⟩⟩⟩⟩⟩⟩⟩⟩⟩⟩⟩⟩⟩
    · have hge := of_decide_eq_false hge
      have : i = gs0.length := by omega
      subst this
      rw [hx1]
end
end Go.Proofs.YtjjdgognjpmipaaGreatDoor
namespace Go.Proofs.YtjjdgognjpmipaaGreatDoor
open Go.RowKit
set_option linter.unusedVariables false
set_option linter.unusedSimpArgs false
set_option maxRecDepth 10000
def kC (W : Wld) : Int := 1 + 5 * (W.cpus.length : Int)
def kT (W : Wld) : Int := kC W + 9 * (W.tasks.length : Int)
def mK (W : Wld) : Int := gK W.groups (kT W) W.groups.length
def markW (W : Wld) : Wld := { W with cpus := markC W.cpus.length 1,tasks := markT W.tasks.length (kC W),groups := markG W.groups (kT W) W.groups.length }
section
variable {n base : Nat} {W : Wld} {m : MW} {w w' : World} {bs : List Nat}
theorem mK_pos (sm : SmW W) : 0 ≤ mK W := by
  have := gK_range (k:=kT W) sm.gs W.groups.length (Nat.le_refl _)
  unfold mK kT kC at *
  omega
theorem k_markWorld (h : MWd n base w W m) (sm : SmW W) :
    Calls Tryz.prog fn_laws_markWorld #[.agg (encW W m).toArray,.int .i64 1] w fun e w' => e = .returned (.int .i64 (mK W)) ∧ MWd n base w' (markW W) m ∧ ExtX (wBlks n m) w w' := by
  refine (e_laws_markWorld W.now m.cO W.cpus.length m.cC m.tO W.tasks.length m.tC m.gO W.groups.length m.gC 1 (R:=fun v w' => v = .int .i64 (mK W) ∧ MWd n base w' (markW W) m ∧ ExtX (wBlks n m) w w') ?_).mono fun e w' ⟨v,he,hv,h1⟩ => ⟨by rw [he,hv],h1⟩
  have s1 := sm.c
  have s2 := sm.t
  have s3 := sm.g
  intro b hb wr hx hs
  have hnb : ∀ y ∈ wBlks n m,y ∉ [b] := fun y hy hm => by
    have : y = b := by simpa using hm
    have := (h.lt y hy).2
    omega
  have hM0 := h.ext0 hx
  refine Calls.mono (k_markCpuS hM0.c s1 (by decide) (by decide)) ?_
  rintro e wv ⟨he,hC,hy⟩
  have hyW : ExtX (wBlks n m) wr wv := hy.mono fun y hy => mem_wC hy
  have hM1 : MWd n base wv { W with cpus := markC W.cpus.length 1 } m := ⟨hC,hM0.t.ext hy (hM0.t.ty_ne hM0.c (by decide)),hM0.g.foreign hM0.c (by decide) (by decide) (by decide) (by decide) hy,hM0.len⟩
  refine ⟨_,he,kept_sep hyW hs hnb,fun wr1 hx1 hs1 => ?_⟩
  have hM2 := hM1.ext hx1 hnb
  refine Calls.mono (k_markTaskS (k:=kC W) hM2.t s2 (by unfold kC; omega) (by unfold kC; omega)) ?_
  rintro e1 wv1 ⟨he1,hT,hy1⟩
  have hyW1 : ExtX (wBlks n m) wr1 wv1 := hy1.mono fun y hy => mem_wT hy
  have hM3 : MWd n base wv1 { W with cpus := markC W.cpus.length 1,tasks := markT W.tasks.length (kC W) } m := ⟨hM2.c.ext hy1 (hM2.c.ty_ne hM2.t (by decide)),hT,hM2.g.foreign hM2.t (by decide) (by decide) (by decide) (by decide) hy1,hM2.len⟩
  refine ⟨_,he1,kept_sep hyW1 hs1 hnb,fun wr2 hx2 hs2 => ?_⟩
  have hM4 := hM3.ext hx2 hnb
  refine Calls.mono (k_markGroupS (W:={ W with cpus := markC W.cpus.length 1,tasks := markT W.tasks.length (kC W) }) (k:=kT W) hM4 s3 sm.gs (by unfold kT kC; omega) (by unfold kT kC; omega)) ?_
  rintro e2 wv2 ⟨he2,hG,hy2⟩
  refine ⟨_,he2,kept_sep hy2 hs2 hnb,fun wr3 hx3 => ⟨rfl,hG.ext hx3 hnb,?_⟩⟩
  have hone : ∀ y ∈ [b],w.heap.size ≤ y := fun y hm => by
    have : y = b := by simpa using hm
    omega
  exact ((((((hx.of_nil.trans hyW).fresh hx1 fun y hm => .inl (hone y hm)).trans hyW1).fresh hx2 fun y hm => .inl (hone y hm)).trans hy2).fresh hx3 fun y hm => .inl (hone y hm))
theorem k_heldWorld (h : RdW bs w (markW W) m) (sm : SmW W) : PureX bs Tryz.prog fn_laws_heldWorld #[.agg (encW W m).toArray,.int .i64 1] w (.int .i64 (mK W)) :=
  p_laws_heldWorld W.now m.cO W.cpus.length m.cC m.tO W.tasks.length m.tC m.gO W.groups.length m.gC 1 fun wr hx => by
    have h := (h.ext hx).less (cs:=[]) (by simp)
    have s1 := sm.c
    have s2 := sm.t
    have s3 := sm.g
    have hp := mK_pos sm
    intro b hb
    refine ⟨_,k_heldCpuS (k:=1) h.c s1 (by decide) (by decide),fun g => ?_,fun _ => ⟨_,k_heldTaskS (k:=kC W) h.t s2 (by unfold kC; omega) (by unfold kC; omega),fun g => ?_,fun _ => ⟨mK W,k_heldGroupS (gs0:=W.groups) (k:=kT W) h.g (markG_len _ _ _) s3 (fun i hi => ?_) sm.gs (by unfold kT kC; omega) (by unfold kT kC; omega),fun g => ?_,fun _ => rfl⟩⟩⟩
    · have := of_decide_eq_true g; omega
    · have := of_decide_eq_true g; unfold kC at this; omega
    · have := markG_gi (gs:=W.groups) (k:=kT W) W.groups.length i (Nat.le_refl _)
      rw [if_pos hi] at this
      exact this
    · have := of_decide_eq_true g; omega
theorem k_toW {D : Wld} {M : MW} {w0 : World} (h : RdW [] w0 D M) (s : Sc w0 bs w) (hs : ∀ x ∈ bs,x < w.heap.size) (sm : SmW D) :
    Calls Tryz.prog fn_laws_toWorld #[.agg (encW D M).toArray] w fun e w' => ∃ m',e = .returned (.agg (encW D m').toArray) ∧ OW D.groups.length w.heap.size bs w' D m' ∧ ExtX [] w w' :=
  (k_toWorld (h.ext s.ext) sm).mono fun e w' ⟨m',he,hO,hx⟩ => ⟨m',he,OW.of (MWd.of hO rfl) hs,hx⟩
theorem eqWW {A : Wld} {ma mb : MW} (ha : RdW bs w A ma) (hb : RdW bs w A mb) (hs : SmW A) : PureX bs Tryz.prog fn_laws_eqWorld #[.agg (encW A ma).toArray,.agg (encW A mb).toArray] w (.bool true) := by
  have := k_eqWorld ha hb hs
  rwa [decide_eq_true rfl] at this
end
theorem sm_zero : SmW zeroW := ⟨by decide,by decide,by decide,fun i a b => by simp [zeroW] at b; omega⟩
theorem sm_of_WA {W : Wld} (ha : WA W) (hn : ∀ i : Int,0 ≤ i → i < 8 → (gi W.groups i).name.size ≤ 1048576) : SmW W := by
  have h1 := ha.c2
  have h2 := ha.t
  have h3 := ha.gl
  refine ⟨by omega,by omega,by omega,fun i a b => ?_⟩
  have := band_len ha a (by omega)
  exact ⟨hn i a (by omega),by omega,by omega,by omega⟩
theorem sm_fr {W W' : Wld} (sm : SmW W) (ha : WA W') (hf : TreeC W.groups W'.groups) : SmW W' := sm_of_WA ha fun i a b => by
  rw [hf.n]
  have hl := ha.gl
  rw [hf.len] at hl
  exact (sm.gs i a (by omega)).nm
theorem ans_sm {W W' : Wld} {bar : Int} (sm : SmW W) (h : worldB W = true → bar = 0 → SmW W') : SmW (ansD W bar W').1 := by
  unfold ansD
  split
  · exact sm_zero
  · rename_i hW
    split
    · exact sm
    · rename_i hb
      exact h (by simpa using hW) (by simpa using hb)
theorem sm_set {K : Int} {W W1 : Wld} (sm : SmW W) (hS : SW K W1) (hK : 0 ≤ K) (hf : TreeC W.groups W1.groups) : SmW (settleD W1) :=
  sm_fr sm (settleD_ok hS hK).1.a (hf.trans (settleD_ok hS hK).2.g)
end Go.Proofs.YtjjdgognjpmipaaGreatDoor
namespace Go.Proofs.YtjjdgognjpmipaaGreatDoor
open Go.RowKit
set_option linter.unusedVariables false
set_option linter.unusedSimpArgs false
set_option maxRecDepth 10000
def zTsk : Tsk := ⟨0,0,0,0,0,0,0,0,0⟩
def leaveW (W : Wld) (t : Int) : Wld := if (gi W.cpus (tkk W t).cpu).cur = t then endW W (tkk W t).cpu else W
noncomputable def exitB (W : Wld) (t : Int) : Int := if thereD W t = false then 2 else if roomB W = false then 10 else 0
theorem leave_sw {K : Int} {W : Wld} (h : SW K W) {t : Int} (t0 : 0 ≤ t) (t1 : t < 12) (n : (tkk W t).state ≠ 0) : SW K (leaveW W t) := by
  unfold leaveW
  split
  · exact h.endW (h.t t t0 t1 n).2.1 (h.t t t0 t1 n).2.2
  · exact h
theorem leave_gr (W : Wld) (t : Int) : (leaveW W t).groups = W.groups := by unfold leaveW; split <;> rfl
theorem exit_sw {W : Wld} {t : Int} (hW : worldB W = true) (hb : exitB W t = 0) : thereD W t = true ∧ roomB W = true ∧ SW halfT W ∧ SW halfT (setTk W t zTsk) ∧ SW halfT (setTk (leaveW W t) t zTsk) := by
  have wp := decB_t.1 hW
  unfold exitB at hb
  split at hb
  · cases hb
  · rename_i h1
    split at hb
    · cases hb
    · rename_i h3
      have h1 : thereD W t = true := by simpa using h1
      have h3 : roomB W = true := by simpa using h3
      have sw := sw_of wp (decB_t.1 h3)
      obtain ⟨t0,t1,n⟩ := thereD_t h1
      have hl := wp.a.t
      exact ⟨h1,h3,sw,sw.setTk t0 (by omega) (fun h => absurd rfl h) (by decide) (by decide),(leave_sw sw t0 (by omega) n).setTk t0 (by omega) (fun h => absurd rfl h) (by decide) (by decide)⟩
section
variable {W : Wld} {m : MW} {w : World} {bar : Int}
theorem k_impl_leave {base pb : Nat} {K : Int} {t : Int} (h : PW base pb w W m) (sw : SW K W) (t0 : 0 ≤ t) (t1 : t < 12) (n : (tkk W t).state ≠ 0) :
    Calls Tryz.prog fn_impl_World_leave #[.pointer (pA pb),.int .i64 t] w fun e w' => e = .returned (.tuple #[]) ∧ Mp base pb [] w m w' (leaveW W t) m := by
  refine (e_impl_World_leave (pA pb) t (R:=fun v w' => v = .tuple #[] ∧ Mp base pb [] w m w' (leaveW W t) m) ?_).mono fun e w' ⟨v,he,hv,h3⟩ => ⟨by rw [he,hv],h3⟩
  have hM := Mp.start h
  have hp := hM.wpt
  have hl := sw.a.t
  obtain ⟨_,c0,c1⟩ := sw.t t t0 t1 n
  have hc := hp.rd.c (tkk W t).cpu c0 c1
  refine ⟨hp.some,_,_,_,hp.tasks,hp.rd.t.ix encT_c t0 (by omega),_,hp.rd.t.f t0 (by omega) (j:=2) rfl,_,_,k_impl_lane,fun b hb => ⟨_,k_impl_cpu hp c0 c1,some_atW hc,_,cell_atW hc (j:=1) rfl,fun g wr hx hs => ?_,fun g wr hx => ?_⟩⟩
  · have g : (gi W.cpus (tkk W t).cpu).cur = t := by simpa using g
    have hE : leaveW W t = endW W (tkk W t).cpu := by unfold leaveW; rw [if_pos g]
    rw [hE]
    have hM1 := (hM.add hb).call0 hx
    refine Calls.mono (k_impl_endSliceW hM1.pw c0 c1) ?_
    rintro e wv ⟨he,hy⟩
    exact ⟨he,hM1.kept hy hs,fun wr1 hx1 => ⟨rfl,((hM1.call hy hs).step hx1).close⟩⟩
  · have g : ¬ (gi W.cpus (tkk W t).cpu).cur = t := by simpa using g
    have hE : leaveW W t = W := by unfold leaveW; rw [if_neg g]
    rw [hE]
    exact ⟨rfl,hM.call0 hx⟩
theorem cap_out {base pb b : Nat} {w w' : World} {W W' : Wld} {m m' : MW} {o : Obj} (h : PW base pb w W m) (hb : b < base) (hpb : base ≤ pb) (hc : w.heap[b]? = some o) (hM : Mp base pb [] w m w' W' m') : w'.heap[b]? = some o :=
  blk_ext hc hM.v.ext fun hm => by
    have := (h.own.lt b hm).1
    omega
end
end Go.Proofs.YtjjdgognjpmipaaGreatDoor
namespace Go.Proofs.YtjjdgognjpmipaaGreatDoor
open Go.RowKit
set_option linter.unusedVariables false
set_option linter.unusedSimpArgs false
set_option maxRecDepth 10000
abbrev niceV (W : Wld) (t n : Int) : Int := (shf W (tkk W t).group (tkk W t).cpu).floor + lagCut ((tkk W t).v - (shf W (tkk W t).group (tkk W t).cpu).floor) (weightOf n)
def niceT (W : Wld) (t n : Int) : Tsk := { tkk W t with nice := n,v := if (tkk W t).state = 1 then niceV W t n else (tkk W t).v }
noncomputable def niceB (W : Wld) (t n : Int) : Int := if weightOf n = 0 then 1 else exitB W t
def niceW (W : Wld) (t n : Int) : Wld := settleD (if (tkk W t).state = 1 then leaveW (setTk W t (niceT W t n)) t else setTk W t (niceT W t n))
theorem niceT_1 {W : Wld} {t n : Int} (h : (tkk W t).state = 1) : niceT W t n = { tkk W t with nice := n,v := niceV W t n } := by unfold niceT; rw [if_pos h]
theorem niceT_0 {W : Wld} {t n : Int} (h : ¬ (tkk W t).state = 1) : niceT W t n = { tkk W t with nice := n } := by unfold niceT; rw [if_neg h]
theorem tk_set {W : Wld} {t : Int} {x : Tsk} (t0 : 0 ≤ t) (t1 : t < (W.tasks.length : Int)) : tkk (setTk W t x) t = x := by
  show gi (W.tasks.set t.toNat x) t = x
  rw [gi_set _ _ t0 t1 t0,if_pos rfl]
theorem set_set {W : Wld} {t : Int} {x y : Tsk} : setTk (setTk W t x) t y = setTk W t y := by simp [setTk]
abbrev K1 : Int := halfT + lagB
structure NiceP (W : Wld) (t n : Int) : Prop where
  th : thereD W t = true
  room : roomB W = true
  sw : SW halfT W
  f : (tkk W t).state = 1 → 0 ≤ (shf W (tkk W t).group (tkk W t).cpu).floor ∧ (shf W (tkk W t).group (tkk W t).cpu).floor ≤ halfT ∧ 0 ≤ niceV W t n ∧ niceV W t n ≤ K1
  s1 : SW K1 (setTk W t (niceT W t n))
  s2 : SW K1 (leaveW (setTk W t (niceT W t n)) t)
theorem nice_sw {W : Wld} {t n : Int} (hW : worldB W = true) (hb : niceB W t n = 0) : NiceP W t n := by
  have hw : ¬ weightOf n = 0 := fun h => by unfold niceB at hb; rw [if_pos h] at hb; cases hb
  have hb : exitB W t = 0 := by unfold niceB at hb; rwa [if_neg hw] at hb
  obtain ⟨h1,h3,sw,_,_⟩ := exit_sw hW hb
  obtain ⟨t0,t1,tn⟩ := thereD_t h1
  have hl := sw.a.t
  have hg := sw.t t t0 (by omega) tn
  have hv := sw.tv t t0 (by omega)
  have hf := sw.s _ _ hg.1 hg.2.1 hg.2.2
  have lc := lagCut_range ((tkk W t).v - (shf W (tkk W t).group (tkk W t).cpu).floor) (weightOf n)
  have lm := lagMost_range (weightOf n)
  have f : 0 ≤ niceV W t n ∧ niceV W t n ≤ K1 := by unfold niceV; simp only [K1,lagB]; omega
  have f1 : 0 ≤ (niceT W t n).v ∧ (niceT W t n).v ≤ K1 := by
    unfold niceT
    dsimp only
    split
    · exact f
    · simp only [K1,lagB]; omega
  have s1 : SW K1 (setTk W t (niceT W t n)) := (sw.mono (by decide)).setTk t0 (by omega) (fun _ => hg) f1.1 f1.2
  exact ⟨h1,h3,sw,fun _ => ⟨hf.1,hf.2.1,f⟩,s1,leave_sw s1 t0 (by omega) (by rw [tk_set t0 t1]; exact tn)⟩
theorem sm_nice {W : Wld} {t n : Int} (sm : SmW W) (hW : worldB W = true) (hb : niceB W t n = 0) : SmW (niceW W t n) := by
  have h := nice_sw hW hb
  unfold niceW
  split
  · exact sm_set sm h.s2 (by decide) (by rw [leave_gr]; exact TreeC.refl _)
  · exact sm_set sm h.s1 (by decide) (TreeC.refl _)
section
variable {W : Wld} {m : MW} {w : World} {bar : Int}
theorem k_spec_l10Lag {bs : List Nat} {t : Int} (h : RdW bs w W m) (t0 : 0 ≤ t) (t1 : t < (W.tasks.length : Int)) (g0 : 0 ≤ (tkk W t).group) (g1 : (tkk W t).group < (W.groups.length : Int)) (c0 : 0 ≤ (tkk W t).cpu) (c1 : (tkk W t).cpu < ((gi W.groups (tkk W t).group).shelves.length : Int)) (hr : InR .i64 ((tkk W t).v - (shf W (tkk W t).group (tkk W t).cpu).floor)) :
    PureX bs Tryz.prog fn_spec_l10Lag #[.agg (encW W m).toArray,.int .i64 t] w (.int .i64 (lagCut ((tkk W t).v - (shf W (tkk W t).group (tkk W t).cpu).floor) (weightOf (tkk W t).nice))) :=
  p_spec_l10Lag W.now m.cO W.cpus.length m.cC m.tO W.tasks.length m.tC m.gO W.groups.length m.gC t fun wr hx => by
    have h := (h.ext hx).less (cs:=[]) (by simp)
    intro b hb
    exact ⟨h.t.ix encT_c t0 t1,_,_,_,_,_,_,_,_,_,h.t t t0 t1,fun b1 hb1 => ⟨h.g.ix g0 g1,_,_,_,h.g.shelf g0 g1,(h.g.shelves _ g0 g1).ix encS_c c0 c1,_,(h.g.shelves _ g0 g1).f c0 c1 (j:=0) rfl,hr,_,k_spec_WeightOf,_,k_spec_LagCut,rfl⟩⟩
set_option maxHeartbeats 1000000 in
theorem k_spec_TaskNice {t n : Int} (h : RdW [] w W m) (hl : LenW W) :
    Calls Tryz.prog fn_spec_TaskNice #[.agg (encW W m).toArray,.int .i64 t,.int .i64 n] w fun e w' => ∃ v,e = .returned v ∧ AnsW (ansD W (niceB W t n) (niceW W t n)) w v w' := by
  refine e_spec_TaskNice W.now m.cO W.cpus.length m.cC m.tO W.tasks.length m.tC m.gO W.groups.length m.gC t n (R:=fun v w' => AnsW (ansD W (niceB W t n) (niceW W t n)) w v w') ?_
  intro x hx x1 hx1 wr hx2 hs2
  refine Calls.mono (k_spec_l10Begin (h.ext hx2) hl) ?_
  rintro e wv (⟨hW,he,hy⟩ | ⟨hW,m',he,hM,hy⟩)
  · exact ⟨_,_,_,_,_,_,_,_,_,_,_,he,kept_of hy hs2,0,fun g => by simp at g,fun _ wr1 hx3 => AnsW.bad hW ((hx2.trans hy).fresh hx3 fun y hm => .inl (two_new hx hx1 y hm)),fun g => by simp at g⟩
  have hK := Wk.begin hx hx1 hx2 hs2 hM hy
  have hr := hK.rd
  have hc1 : ((if roomB W = true then 0 else 10 : Int) == 1) = false := by split <;> rfl
  refine ⟨_,_,_,_,_,_,_,_,_,_,_,he,kept_of hy hs2,_,fun _ => k_spec_WeightOf (n:=n),fun g wr1 hx3 => ?_,fun g0 => ⟨_,k_spec_l8Task hr hl.t,fun g wr2 hx3 => ?_,fun g => ?_⟩⟩
  · rw [hc1] at g
    have g : weightOf n = 0 := by simpa using g
    have hb : niceB W t n = 1 := by unfold niceB; rw [if_pos g]
    exact AnsW.no hW (by rw [hb]; decide) (hK.step hx3) hb
  · rw [hc1] at g0
    have g0 : ¬ weightOf n = 0 := by simpa using g0
    have g : thereD W t = false := by simpa using g
    have hb : niceB W t n = 2 := by unfold niceB exitB; rw [if_neg g0,if_pos g]
    exact AnsW.no hW (by rw [hb]; decide) (hK.step hx3) hb
  rw [hc1] at g0
  have gw : ¬ weightOf n = 0 := by simpa using g0
  have g : thereD W t = true := by simpa using g
  obtain ⟨t0,t1,tn⟩ := thereD_t g
  have hix := hr.t.ix encT_c t0 t1
  refine ⟨fun g3 wr4 hx3 => ?_,fun g3 => ?_⟩
  · have hr0 : ¬ roomB W = true := fun hr => by rw [if_pos hr] at g3; simp at g3
    have hb : niceB W t n = 10 := by unfold niceB exitB; rw [if_neg gw,if_neg (by rw [g]; decide),if_pos (by simpa using hr0)]
    rw [if_neg hr0]
    exact AnsW.no hW (by rw [hb]; decide) (hK.step hx3) hb
  have hr0 : roomB W = true := Decidable.byContradiction fun hr => by rw [if_neg hr] at g3; simp at g3
  have hb : niceB W t n = 0 := by unfold niceB exitB; rw [if_neg gw,if_neg (by rw [g]; decide),if_neg (by rw [hr0]; decide)]
  have hN := nice_sw hW hb
  have sw := hN.sw
  have htl := sw.a.t
  obtain ⟨hu,c0,c1⟩ := sw.t t t0 (by omega) tn
  obtain ⟨q0,q1,_⟩ := usedD_iff.1 hu
  have hsl := sw.a.sl hu
  have hK2 : Wk 8 [x,x1] w (sto wv m'.tO (Int.toNat t * 9) (encT { tkk W t with nice := n })) (setTk W t { tkk W t with nice := n }) m' := hK.sto (hK.own.stoT t0 t1 (j:=0) (vs:=encT { tkk W t with nice := n }) (x:={ tkk W t with nice := n }) rfl (by show 0 + 9 ≤ 9; decide)) subT
  have e5 : ∀ x mm,encW (setTk W t x) mm = encW W mm := fun x mm => by simp [encW,setTk]
  refine ⟨hix,_,_,_,_,_,_,_,_,_,hr.t t t0 t1,fun b2 hb2 => ⟨hix,wrT hK.own hK.nb t0 t1 (j:=0) (by decide),fun g4 => ?_,fun g4 wr9 hx9 hs9 => ?_⟩⟩
  · have g4 : (tkk W t).state = 1 := by simpa [tkk] using g4
    have hT := niceT_1 (n:=n) g4
    obtain ⟨f0,f1,v0,v1⟩ := hN.f g4
    have hv := sw.tv t t0 (by omega)
    have hh : halfT = 50000000000000000 := rfl
    have hk : K1 = 50000034686091440 := rfl
    have hr2 := hK2.rd
    have etk : tkk (setTk W t { tkk W t with nice := n }) t = { tkk W t with nice := n } := tk_set t0 t1
    have t1' : t < ((setTk W t { tkk W t with nice := n }).tasks.length : Int) := by simpa [setTk] using t1
    have hlag := k_spec_l10Lag (t:=t) hr2 t0 t1' (by rw [etk]; exact q0) (by rw [etk]; exact q1) (by rw [etk]; exact c0) (by rw [etk]; show (tkk W t).cpu < (((gi W.groups (tkk W t).group).shelves.length : Nat) : Int); omega) (by rw [etk]; exact ⟨by show _ ≤ (tkk W t).v - (shf W (tkk W t).group (tkk W t).cpu).floor; omega,by show (tkk W t).v - (shf W (tkk W t).group (tkk W t).cpu).floor ≤ _; omega⟩)
    rw [etk,e5] at hlag
    have lc := lagCut_range ((tkk W t).v - (shf W (tkk W t).group (tkk W t).cpu).floor) (weightOf n)
    have lm := lagMost_range (weightOf n)
    have hset : MWd 8 w.heap.size (sto (sto wv m'.tO (Int.toNat t * 9) (encT { tkk W t with nice := n })) m'.tO (Int.toNat t * 9) (encT { tkk W t with nice := n,v := niceV W t n })) (setTk (setTk W t { tkk W t with nice := n }) t { tkk W t with nice := n,v := niceV W t n }) m' := hK2.own.stoT t0 t1' (j:=0) (vs:=encT { tkk W t with nice := n,v := niceV W t n }) (x:={ tkk W t with nice := n,v := niceV W t n }) (by rw [show gi (setTk W t { tkk W t with nice := n }).tasks t = { tkk W t with nice := n } from etk]; rfl) (by show 0 + 9 ≤ 9; decide)
    rw [set_set,← hT] at hset
    have hK3 : Wk 8 ([x,x1] ++ [b2]) w _ (setTk W t (niceT W t n)) m' := (hK.add hb2).sto hset (subT.trans subT)
    have hst : ∀ vs0 vs : List Value,encT { tkk W t with nice := n } = vs0 → encT (niceT W t n) = vs → Wk 8 ([x,x1] ++ [b2]) w (sto (sto wv m'.tO (Int.toNat t * 9) vs0) m'.tO (Int.toNat t * 9) vs) (setTk W t (niceT W t n)) m' := fun vs0 vs h0 h1 => by
      subst h0
      subst h1
      rw [hT] at hK3 ⊢
      exact hK3
    have sub3 : ∀ y ∈ [x,x1],y ∈ [x,x1] ++ [b2] := fun y hy => List.mem_append_left _ hy
    have hK3' : Wk 8 [x,x1] w _ (setTk W t (niceT W t n)) m' := hK3.sub sub3
    have hflo : CellsX [x,x1] (sto wv m'.tO (Int.toNat t * 9) (encT { tkk W t with nice := n })) (m'.ms (tkk W t).group.toNat).sO (Int.toNat (tkk W t).cpu * 5 + 0) [.int .i64 (shf W (tkk W t).group (tkk W t).cpu).floor] := (hr2.g.shelves _ q0 q1).f c0 (by show (tkk W t).cpu < (((gi W.groups (tkk W t).group).shelves.length : Nat) : Int); omega) (j:=0) rfl
    have ecp : (tkk (setTk W t (niceT W t n)) t).cpu = (tkk W t).cpu := by rw [tk_set t0 t1]; rfl
    refine ⟨hr.g.ix q0 q1,_,_,_,hr2.g.shelf q0 q1,(hr2.g.shelves _ q0 q1).ix encS_c c0 (by show (tkk W t).cpu < (((gi W.groups (tkk W t).group).shelves.length : Nat) : Int); omega),(shf W (tkk W t).group (tkk W t).cpu).floor,hflo,lagCut ((tkk W t).v - (shf W (tkk W t).group (tkk W t).cpu).floor) (weightOf n),hlag,⟨?_,?_⟩,hix,wrT hK2.own hK2.nb t0 t1' (j:=0) (by decide),hr.c.ix encC_c c0 c1,(gi W.cpus (tkk W t).cpu).cur,?_,fun g5 wr4 hx4 hs4 => ?_,fun g5 wr7 hx7 hs7 => ?_⟩
    · show _ ≤ niceV W t n; omega
    · show niceV W t n ≤ _; omega
    · rw [hT] at hK3'
      exact hK3'.rd.c.f c0 c1 (j:=1) rfl
    · have g5 : (gi W.cpus (tkk W t).cpu).cur = t := by simpa using g5
      have hE : niceW W t n = settleD (endW (setTk W t (niceT W t n)) (tkk W t).cpu) := by unfold niceW leaveW; rw [if_pos g4,ecp,if_pos (show (gi (setTk W t (niceT W t n)).cpus (tkk W t).cpu).cur = t from g5)]
      rw [hE]
      have hK5 := (hst _ _ (by rfl) (by rw [hT]; rfl)).step (hx4.mono sub3)
      have hcall := k_spec_l8End hK5.own c0 c1
      rw [e5] at hcall
      refine Calls.mono hcall ?_
      rintro e1 wv1 ⟨he1,hy1⟩
      refine ⟨_,_,_,_,_,_,_,_,_,_,he1,hK5.kept hy1 hs4,fun wr6 hx6 hs6 => ?_⟩
      have hK6 := (hK5.deed hy1 hs4).step hx6
      refine Calls.mono (k_spec_l8Settle hK6.own (hN.s1.endW c0 c1) (by decide) (by decide) hK6.base) ?_
      rintro e2 wv2 ⟨m1,he2,hy2⟩
      exact ⟨_,_,_,_,_,_,_,_,_,_,he2,hK6.kept hy2 hs6,fun wr7 hx7 => AnsW.ok hW hb ((hK6.deed hy2 hs6).step hx7)⟩
    · have g5 : ¬ (gi W.cpus (tkk W t).cpu).cur = t := by simpa using g5
      have hE : niceW W t n = settleD (setTk W t (niceT W t n)) := by unfold niceW leaveW; rw [if_pos g4,ecp,if_neg (show ¬ (gi (setTk W t (niceT W t n)).cpus (tkk W t).cpu).cur = t from g5)]
      rw [hE]
      have hK5 := (hst _ _ (by rfl) (by rw [hT]; rfl)).step (hx7.mono sub3)
      have hcall := k_spec_l8Settle hK5.own hN.s1 (by decide) (by decide) hK5.base
      rw [e5] at hcall
      refine Calls.mono hcall ?_
      rintro e2 wv2 ⟨m1,he2,hy2⟩
      exact ⟨_,_,_,_,_,_,_,_,_,_,he2,hK5.kept hy2 hs7,fun wr7 hx7 => AnsW.ok hW hb ((hK5.deed hy2 hs7).step hx7)⟩
  · have g4 : ¬ (tkk W t).state = 1 := by simpa [tkk] using g4
    have hE : niceW W t n = settleD (setTk W t (niceT W t n)) := by unfold niceW; rw [if_neg g4]
    have hs1 := hN.s1
    rw [hE,niceT_0 g4]
    rw [niceT_0 g4] at hs1
    have hK3 : Wk 8 ([x,x1] ++ [b2]) w _ (setTk W t { tkk W t with nice := n }) m' := (hK.add hb2).sto hK2.own subT
    have hK5 := hK3.step (hx9.mono fun y hy => List.mem_append_left _ hy)
    have hcall := k_spec_l8Settle hK5.own hs1 (by decide) (by decide) hK5.base
    rw [e5] at hcall
    refine Calls.mono hcall ?_
    rintro e2 wv2 ⟨m1,he2,hy2⟩
    exact ⟨_,_,_,_,_,_,_,_,_,_,he2,hK5.kept hy2 hs9,fun wr7 hx7 => AnsW.ok hW hb ((hK5.deed hy2 hs9).step hx7)⟩
theorem k_impl_floor {bs : List Nat} {p : Option Addr} {t : Int} (h : WPt bs w p W m) (t0 : 0 ≤ t) (t1 : t < (W.tasks.length : Int)) (g0 : 0 ≤ (tkk W t).group) (g1 : (tkk W t).group < (W.groups.length : Int)) (c0 : 0 ≤ (tkk W t).cpu) (c1 : (tkk W t).cpu < ((gi W.groups (tkk W t).group).shelves.length : Int)) :
    PureX bs Tryz.prog fn_impl_World_floor #[.pointer p,.int .i64 t] w (.int .i64 (shf W (tkk W t).group (tkk W t).cpu).floor) :=
  p_impl_World_floor p t fun wr hx => by
    have h := (h.ext hx).less (cs:=[]) (by simp)
    exact ⟨h.some,_,_,_,h.tasks,h.rd.t.ix encT_c t0 t1,_,_,_,_,_,_,_,_,_,h.rd.t t t0 t1,fun b hb => ⟨_,_,k_impl_lane,_,k_impl_shelf h g0 g1 c0 c1,(h.sh g0 g1 c0 c1).1,_,(h.sh g0 g1 c0 c1).2 (j:=0) rfl,rfl⟩⟩
set_option maxHeartbeats 1000000 in
theorem k_TaskNice_1 {base pb : Nat} {cap cap1 : Option Addr} {t n : Int} (h : PW base pb w W m) (hW : worldB W = true) (hn : CellsX [] w cap 0 [.int .i64 n]) (hcw : ∀ w' W',Mp base pb [] w m w' W' m → CellsX [] w' cap1 0 [.int .i64 t]) :
    Calls Tryz.prog fn_impl_TaskNice_1 #[.pointer (pA pb),.pointer cap,.pointer cap1] w fun e w2 => (niceB W t n ≠ 0 ∧ e = .returned (.iface ty_impl_refusal (.agg #[.int .i64 (niceB W t n)])) ∧ ExtX [] w w2) ∨ (niceB W t n = 0 ∧ e = .returned .nilIface ∧ ∃ m2,Done base pb [] w m w2 (niceW W t n) m2) := by
  have wp := decB_t.1 hW
  have hM := Mp.start h
  have hp := hM.wpt
  have hc := hcw _ _ hM
  refine (e_impl_TaskNice_1 (pA pb) cap cap1 (R:=fun v w2 => (niceB W t n ≠ 0 ∧ v = .iface ty_impl_refusal (.agg #[.int .i64 (niceB W t n)]) ∧ ExtX [] w w2) ∨ (niceB W t n = 0 ∧ v = .nilIface ∧ ∃ m2,Done base pb [] w m w2 (niceW W t n) m2)) ?_).mono fun e w' ⟨v,he,h3⟩ => by
    rw [he]
    rcases h3 with ⟨a,b,c⟩ | ⟨a,b,c⟩
    · exact .inl ⟨a,by rw [b],c⟩
    · exact .inr ⟨a,by rw [b],c⟩
  refine ⟨n,hn,_,k_impl_niceOk,fun g wr hx => .inl ?_,fun gn => ⟨t,hc,_,k_impl_taskThere hp (by have := wp.a.t; have := maxLen_big; omega),fun g wr hx => .inl ?_,fun g => ⟨_,k_impl_roomW hp wp.a,fun g3 wr hx => .inl ?_,fun g3 => ?_⟩⟩⟩
  · have g : weightOf n = 0 := Decidable.byContradiction fun hw => by rw [nice_w.2 hw] at g; cases g
    have hb : niceB W t n = 1 := by unfold niceB; rw [if_pos g]
    rw [hb]
    exact ⟨by decide,rfl,hx⟩
  · have gw : ¬ weightOf n = 0 := nice_w.1 (by simpa using gn)
    have g : thereD W t = false := by unfold thereD; simpa only [Bool.not_eq_true'] using g
    have hb : niceB W t n = 2 := by unfold niceB exitB; rw [if_neg gw,if_pos g]
    rw [hb]
    exact ⟨by decide,rfl,hx⟩
  · have gw : ¬ weightOf n = 0 := nice_w.1 (by simpa using gn)
    have g : thereD W t = true := by unfold thereD; simpa only [Bool.not_eq_false'] using g
    have g3 : roomB W = false := by simpa using g3
    have hb : niceB W t n = 10 := by unfold niceB exitB; rw [if_neg gw,if_neg (by rw [g]; decide),if_pos g3]
    rw [hb]
    exact ⟨by decide,rfl,hx⟩
  have gw : ¬ weightOf n = 0 := nice_w.1 (by simpa using gn)
  have g : thereD W t = true := by unfold thereD; simpa only [Bool.not_eq_false'] using g
  have g3 : roomB W = true := by simpa using g3
  have hb : niceB W t n = 0 := by unfold niceB exitB; rw [if_neg gw,if_neg (by rw [g]; decide),if_neg (by rw [g3]; decide)]
  obtain ⟨t0,t1,tn⟩ := thereD_t g
  have hN := nice_sw hW hb
  have sw := hN.sw
  have htl := sw.a.t
  obtain ⟨hu,c0,c1⟩ := sw.t t t0 (by omega) tn
  obtain ⟨q0,q1,_⟩ := usedD_iff.1 hu
  have hsl := sw.a.sl hu
  have hset : MWd 8 base (sto w m.tO (Int.toNat t * 9 + 3) [.int .i64 n]) (setTk W t { tkk W t with nice := n }) m := h.own.stoT t0 t1 (j:=3) (vs:=[.int .i64 n]) (x:={ tkk W t with nice := n }) rfl (by simp)
  have hM2 : Mp base pb [] w m _ (setTk W t { tkk W t with nice := n }) m := hM.deed hset subT (by simp [encW,setTk])
  have hp2 := hM2.wpt
  have etk : tkk (setTk W t { tkk W t with nice := n }) t = { tkk W t with nice := n } := tk_set t0 t1
  have t1' : t < ((setTk W t { tkk W t with nice := n }).tasks.length : Int) := by simpa [setTk] using t1
  have hst := hp2.rd.t.f t0 t1' (j:=0) rfl
  have hsv := hp2.rd.t.f t0 t1' (j:=5) rfl
  have etg : gi (setTk W t { tkk W t with nice := n }).tasks t = { tkk W t with nice := n } := etk
  rw [etg] at hst hsv
  refine ⟨hp.some,_,_,_,hp.tasks,t,hc,hp.rd.t.ix encT_c t0 t1,n,hn,wrT h.own (by simp) t0 t1 (by decide),_,hst,fun g4 => ?_,fun g4 wr3 hx3 _ => ?_⟩
  · have g4 : (tkk W t).state = 1 := by simpa [tkk] using g4
    have hT := niceT_1 (n:=n) g4
    obtain ⟨f0,f1,v0,v1⟩ := hN.f g4
    have hv := sw.tv t t0 (by omega)
    have hh : halfT = 50000000000000000 := rfl
    have hk : K1 = 50000034686091440 := rfl
    have hfl := k_impl_floor (t:=t) hp2 t0 t1' (by rw [etk]; exact q0) (by rw [etk]; exact q1) (by rw [etk]; exact c0) (by rw [etk]; show (tkk W t).cpu < (((gi W.groups (tkk W t).group).shelves.length : Nat) : Int); omega)
    have hwt := k_impl_weight (t:=t) hp2 t0 t1'
    rw [etk] at hfl hwt
    have hset2 : MWd 8 base (sto (sto w m.tO (Int.toNat t * 9 + 3) [.int .i64 n]) m.tO (Int.toNat t * 9 + 5) [.int .i64 (niceV W t n)]) (setTk (setTk W t { tkk W t with nice := n }) t { tkk W t with nice := n,v := niceV W t n }) m := hset.stoT t0 t1' (j:=5) (vs:=[.int .i64 (niceV W t n)]) (x:={ tkk W t with nice := n,v := niceV W t n }) (by rw [etg]; rfl) (by simp)
    have hM3 : Mp base pb [] w m _ (setTk (setTk W t { tkk W t with nice := n }) t { tkk W t with nice := n,v := niceV W t n }) m := hM2.deed hset2 subT (by simp [encW,setTk])
    rw [set_set,← hT] at hM3
    refine ⟨t,hcw _ _ hM2,_,hfl,_,hsv,⟨by show _ ≤ (tkk W t).v - (shf W (tkk W t).group (tkk W t).cpu).floor; omega,by show (tkk W t).v - (shf W (tkk W t).group (tkk W t).cpu).floor ≤ _; omega⟩,t,hcw _ _ hM2,_,hwt,_,k_impl_LagCut,⟨by show _ ≤ niceV W t n; omega,by show niceV W t n ≤ _; omega⟩,wrT hset (by simp) t0 t1' (by decide),t,hcw _ _ hM3,fun wr3 hx3 _ => ?_⟩
    have hM4 := hM3.nil hx3
    refine Calls.mono (k_impl_leave hM4.pw hN.s1 t0 (by omega) (by rw [tk_set t0 t1]; exact tn)) ?_
    rintro e wv1 ⟨he,hy⟩
    refine ⟨he,kept_nil,fun wr4 hx4 _ => ?_⟩
    have hM5 := (hM4.call hy (by simp)).nil hx4
    have hE : niceW W t n = settleD (leaveW (setTk W t (niceT W t n)) t) := by unfold niceW; rw [if_pos g4]
    rw [hE]
    refine Calls.mono (k_impl_settle hM5.pw hN.s2 (by decide) (by decide)) ?_
    rintro e1 wv2 ⟨he1,hy1⟩
    exact ⟨he1,kept_nil,fun wr5 hx5 => .inr ⟨hb,rfl,m,((hM5.call hy1 (by simp)).nil hx5).done⟩⟩
  · have g4 : ¬ (tkk W t).state = 1 := by simpa [tkk] using g4
    have hE : niceW W t n = settleD (setTk W t (niceT W t n)) := by unfold niceW; rw [if_neg g4]
    have hs1 := hN.s1
    rw [hE,niceT_0 g4]
    rw [niceT_0 g4] at hs1
    have hM4 := hM2.nil hx3
    refine Calls.mono (k_impl_settle hM4.pw hs1 (by decide) (by decide)) ?_
    rintro e1 wv2 ⟨he1,hy1⟩
    exact ⟨he1,kept_nil,fun wr5 hx5 => .inr ⟨hb,rfl,m,((hM4.call hy1 (by simp)).nil hx5).done⟩⟩
theorem k_impl_TaskNice {t n : Int} (h : RdW [] w W m) (hl : LenW W) (hg : GlobE w) :
    Calls Tryz.prog fn_impl_TaskNice #[.agg (encW W m).toArray,.int .i64 t,.int .i64 n] w fun e w' => ∃ v,e = .returned v ∧ AnsW (ansD W (niceB W t n) (niceW W t n)) w v w' := by
  refine e_impl_TaskNice W.now m.cO W.cpus.length m.cC m.tO W.tasks.length m.tC m.gO W.groups.length m.gC t n (R:=fun v w' => AnsW (ansD W (niceB W t n) (niceW W t n)) w v w') ?_
  intro x hx b1 wb hx1 hb1 hc hn b2 wb1 hxb hb2 hc2 hn2 b3 hb3 wr hx2 hs
  have hX0 : ExtX [] w wb1 := hx1.fresh hxb fun y hy => .inl (le_mem1 hy hx)
  have hX : ExtX [] w wr := hX0.fresh hx2 fun y hy => .inl (le_mem1 hy hx)
  have c1 := blk_ext (blk_ext hc hxb hn) hx2 hn
  have c2 := blk_ext hc2 hx2 hn2
  refine Calls.mono (k_attempt (bar:=niceB W t n) (W' := niceW W t n) (h.ext hX) hl (hg.ext hX) fun w1 pb m1 hW hx3 hpb hP => .inl ⟨fn_impl_TaskNice_1,_,rfl,k_TaskNice_1 hP hW (cellX_blk (blk_ext c2 hx3 (by simp)) (by simp) (k0:=0) rfl) fun w9 W9 hM9 => cellX_blk (cap_out hP (blk_lt c1) hpb (blk_ext c1 hx3 (by simp)) hM9) (by simp) (k0:=0) rfl⟩) ?_
  rintro e wv ⟨v,he,n',m',hv,hM,hy⟩
  subst hv
  refine ⟨_,_,_,_,_,_,_,_,_,_,_,he,kept_of hy hs,fun wr1 hx4 => ⟨n',m',rfl,(hM.ext hx4 fun y hy hm => ?_).mono hX.size,(hX.trans hy).fresh hx4 fun y hm => ?_⟩⟩
  · have := (hM.lt y hy).1
    have := hs y hm
    omega
  · simp only [List.mem_cons,List.not_mem_nil,or_false] at hm
    rcases hm with rfl | rfl
    · exact .inl hx
    · exact .inl (Nat.le_trans hX0.size hb3)
end
end Go.Proofs.YtjjdgognjpmipaaGreatDoor
namespace Go.Proofs.YtjjdgognjpmipaaGreatDoor
open Go.RowKit
set_option linter.unusedVariables false
set_option linter.unusedSimpArgs false
set_option maxRecDepth 10000
set_option maxHeartbeats 1000000 in
theorem k_FnExactTaskNice {D : Wld} {M : MW} {t n : Int} {w : World} (ft : FitW w D M) (_ : InR .i64 t) (_ : InR .i64 n) (hg : GlobE w) :
    Calls Tryz.prog fn_laws_FnExactTaskNice #[.agg (encW D M).toArray,.int .i64 t,.int .i64 n] w fun e w' => e = .returned (.bool true) ∧ ExtX [] w w' := by
  refine (e_laws_FnExactTaskNice D.now M.cO D.cpus.length M.cC M.tO D.tasks.length M.tC M.gO D.groups.length M.gC t n (R:=fun v w' => v = .bool true ∧ ExtX [] w w') ?_).mono fun e w' ⟨v,he,hv,h3⟩ => ⟨by rw [he,hv],h3⟩
  have hl : LenW D := ⟨ft.lc,ft.lt,ft.lg,ft.ft⟩
  have hrd := ft.rd
  intro b hb
  refine ⟨_,k_szWorld ft (by decide) (by decide),fun _ w1 hx1 => ⟨rfl,hx1⟩,fun hs => ?_⟩
  have hs := of_decide_eq_false hs
  have sm := (szWd_nn (W:=D) (left:=1048576) (by decide) (by omega)).1
  have smr : SmW (ansD D (niceB D t n) (niceW D t n)).1 := ans_sm sm fun hW hb => sm_nice sm hW hb
  have hmD := mK_pos sm
  generalize hr : ansD D (niceB D t n) (niceW D t n) = r at smr
  have hmR := mK_pos smr
  intro wr1 hx1 hs1
  have s1 : Sc w [b] wr1 := ((Sc.start w).add hb).call0 hx1
  refine Calls.mono (k_toW hrd s1 hs1 sm) ?_
  rintro e wv ⟨mA,he,hA,hy⟩
  refine ⟨_,_,_,_,_,_,_,_,_,_,he,kept_of hy hs1,fun wr2 hx2 hs2 => ?_⟩
  have s2 := (s1.call0 hy).step hx2
  have hA2 := hA.step hx2
  refine Calls.mono (k_spec_TaskNice (t:=t) (n:=n) hA2.rd0 hl) ?_
  rintro e1 wv1 ⟨v,he1,nW,mW,hv,hW0,hy1⟩
  subst hv
  rw [hr] at he1 hW0
  have s3 := s2.call0 hy1
  have hW1 := (OW.of hW0 hs2).mono s2.ext.size
  refine ⟨_,_,_,_,_,_,_,_,_,_,_,he1,kept_of hy1 hs2,fun b1 hb1 wr3 hx3 hs3 => ?_⟩
  have s4 := s3.put hx3 hb1
  have hW2 := hW1.put hx3 hb1
  refine Calls.mono (k_toW hrd s4 hs3 sm) ?_
  rintro e2 wv2 ⟨mX,he2,hX0,hy2⟩
  have n0 := sepW hW2.own hX0.own (Nat.le_refl _)
  have s5 := s4.call0 hy2
  have hW3 := hW2.call0 hy2
  have hX1 := hX0.mono s4.ext.size
  refine ⟨_,_,_,_,_,_,_,_,_,_,he2,kept_of hy2 hs3,fun b2 hb2 wr4 hx4 hs4 => ?_⟩
  have s6 := s5.put hx4 hb2
  have hW4 := hW3.put hx4 hb2
  have hX2 := hX1.put hx4 hb2
  refine Calls.mono (k_impl_TaskNice (t:=t) (n:=n) hX2.rd0 hl (hg.ext s6.ext)) ?_
  rintro e3 wv3 ⟨v,he3,nG,mG,hv,hG0,hy3⟩
  subst hv
  rw [hr] at he3 hG0
  have n1 := sepW hX2.own hG0 (Nat.le_refl _)
  have n2 := sepW hW4.own hG0 (Nat.le_refl _)
  have s7 := s6.call0 hy3
  have hW5 := hW4.call0 hy3
  have hX3 := hX2.call0 hy3
  have hG1 := (OW.of hG0 hs4).mono s6.ext.size
  refine ⟨_,_,_,_,_,_,_,_,_,_,_,he3,kept_of hy3 hs4,fun b3 hb3 => ⟨true,eqWW hG1.rd hW5.rd smr,fun hbad => (by simp at hbad),fun _ wr6 hx6 hs6 => ?_⟩⟩
  have s8 := s7.put hx6 hb3
  have hW6 := hW5.put hx6 hb3
  have hX4 := hX3.put hx6 hb3
  have hG2 := hG1.put hx6 hb3
  refine Calls.mono (k_toW hrd s8 hs6 sm) ?_
  rintro e4 wv4 ⟨mY,he4,hY,hy4⟩
  refine ⟨_,_,_,_,_,_,_,_,_,_,he4,kept_of hy4 hs6,rfl,true,eqWW (hX4.call0 hy4).rd hY.rd sm,fun hbad => (by simp at hbad),fun _ wr8 hx8 hs8 => ?_⟩
  have s9 := (s8.call0 hy4).step hx8
  have hW7 := (hW6.call0 hy4).step hx8
  have hX5 := (hX4.call0 hy4).step hx8
  have hG3 := (hG2.call0 hy4).step hx8
  refine Calls.mono (k_markWorld hX5.own sm) ?_
  rintro e5 wv5 ⟨he5,_,hy5⟩
  have s10 := s9.call hy5 fun x hx => (hX5.own.lt x hx).1
  have hW8 := hW7.call hy5 n0.1
  have hG4 := hG3.call hy5 n1.2
  refine ⟨_,he5,kept_sep hy5 hs8 hX5.nb,true,fun _ => eqWW hG4.rd hW8.rd smr,fun hbad => ?_,fun _ wr10 hx10 hs10 => ?_⟩
  · rw [decide_eq_false (by omega)] at hbad
    simp at hbad
  have s11 := s10.step hx10
  have hW9 := hW8.step hx10
  have hG5 := hG4.step hx10
  refine Calls.mono (k_markWorld hG5.own smr) ?_
  rintro e6 wv6 ⟨he6,hGm,hy6⟩
  have s12 := s11.call hy6 fun x hx => (hG5.own.lt x hx).1
  have hW10 := hW9.call hy6 n2.1
  have hH : OW nG w.heap.size _ wv6 (markW r.1) mG := ⟨hGm,hG5.nb⟩
  refine ⟨_,he6,kept_sep hy6 hs10 hG5.nb,_,k_heldWorld hH.rd smr,fun hbad => ?_,fun _ => ⟨fun hbad => (by simp at hbad),fun _ wr13 hx13 hs13 => ?_⟩⟩
  · have := of_decide_eq_true hbad
    omega
  have s13 := s12.step hx13
  have hW11 := hW10.step hx13
  have hH2 := hH.step hx13
  refine Calls.mono (k_toW hrd s13 hs13 sm) ?_
  rintro e7 wv7 ⟨mZ,he7,hZ,hy7⟩
  refine ⟨_,_,_,_,_,_,_,_,_,_,he7,kept_of hy7 hs13,fun wr14 hx14 hs14 => ?_⟩
  have s14 := (s13.call0 hy7).step hx14
  have hW12 := (hW11.call0 hy7).step hx14
  have hH3 := (hH2.call0 hy7).step hx14
  refine Calls.mono (k_impl_TaskNice (t:=t) (n:=n) (hZ.step hx14).rd0 hl (hg.ext s14.ext)) ?_
  rintro e8 wv8 ⟨v,he8,nI,mI,hv,hI0,hy8⟩
  subst hv
  rw [hr] at he8 hI0
  have s15 := s14.call0 hy8
  have hW13 := hW12.call0 hy8
  have hH4 := hH3.call0 hy8
  have hI := OW.of hI0 hs14
  refine ⟨_,_,_,_,_,_,_,_,_,_,_,he8,kept_of hy8 hs14,fun b4 hb4 => ⟨true,eqWW hI.rd hW13.rd smr,fun hbad => (by simp at hbad),fun _ => ⟨_,k_heldWorld hH4.rd smr,fun hbad => ?_,fun _ => ⟨fun hbad => (by simp at hbad),fun _ wr18 hx18 => ⟨rfl,(s15.step hx18).ext⟩⟩⟩⟩⟩
  have := of_decide_eq_true hbad
  omega
end Go.Proofs.YtjjdgognjpmipaaGreatDoor
