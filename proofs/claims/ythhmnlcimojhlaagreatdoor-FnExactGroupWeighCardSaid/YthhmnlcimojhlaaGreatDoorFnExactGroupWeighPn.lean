/- Part 14 of what the law FnExactGroupWeigh needs: the engine, the functions' propositions, the contracts. -/
import Derived.Test.YthhmnlcimojhlaaGreatDoorFnExactGroupWeighPm
import Derived.Laws.BytesArg
namespace Go.Proofs.YthhmnlcimojhlaaGreatDoor
open Go.RowKit
set_option linter.unusedVariables false
set_option linter.unusedSimpArgs false
set_option maxRecDepth 10000
theorem tdiv10 {k:Int} (h:0<k):0≤Int.tdiv k 10∧Int.tdiv k 10<k:=by
 rw [Int.tdiv_eq_ediv_of_nonneg (by omega)]
 omega
theorem tmod10 {k:Int} (h:0<k):0≤Int.tmod k 10∧Int.tmod k 10≤9:=by
 rw [Int.tmod_eq_emod_of_nonneg (by omega)]
 omega
def digs (k:Int) (out:ByteArray):ByteArray:=if h:0<k then digs (Int.tdiv k 10) (strOfNums [48+Int.tmod k 10]++out) else out
termination_by k.toNat
decreasing_by
 have:=tdiv10 h
 omega
def mtx (k:Int):ByteArray:=if k≤0 then ⟨[109,48].toArray⟩ else ⟨[109].toArray⟩++digs k ⟨[].toArray⟩
theorem u_sl_u8:Tryz.prog.underlying ty_sl_uint8=some (.slice ty_uint8):=by kernel_rfl
theorem u_u8:Tryz.prog.underlying ty_uint8=some (.int .u8):=by kernel_rfl
theorem u_str0:Tryz.prog.underlying ty_string=some .string:=by kernel_rfl
theorem k_markText {k:Int} (hk:k≤1000000000000000000) {w:World} {bs:List Nat}:PureX bs Tryz.prog fn_laws_markText #[.int .i64 k] w (.string (mtx k)) :=
 pureX_of fun wr _=>e_laws_markText k (R:=fun v w'=>v = .string (mtx k)∧ExtX [] wr w') (by
  refine ⟨fun g w1 hx=>⟨by unfold mtx; rw [if_pos (of_decide_eq_true g)],hx⟩,fun g => ?_⟩
  have g:=of_decide_eq_false g
  have hmt:mtx k=⟨[109].toArray⟩++digs k ⟨[].toArray⟩:=by unfold mtx; rw [if_neg g]
  refine ⟨fun vs w1=>∃(k1:Int) (out:ByteArray),vs=[.int .i64 k1,.string out]∧0≤k1∧(out.size:Int)+k1≤k∧digs k1 out=digs k ⟨[].toArray⟩∧ExtX [] wr w1,fun vs _=>(ctrAt 0 vs).toNat,fun w1 hx _=>⟨k,_,rfl,by omega,by simp [ByteArray.size],rfl,hx⟩,?_⟩
  rintro k1 out wv _ ⟨k1',out',he,h0,hs,hd,hX⟩
  simp only [List.cons.injEq,Value.int.injEq,Value.string.injEq,true_and,and_true] at he
  obtain ⟨rfl,rfl⟩:=he
  refine ⟨fun gk => ?_,fun gk => ?_⟩
  ·have gk:0<k1:=of_decide_eq_true gk
   have hm:=tmod10 gk
   have hd10:=tdiv10 gk
   refine ⟨by decide,⟨by omega,by omega⟩,⟨by show (0:Int)≤_; omega,by show _≤(255:Int); omega⟩,fun b wb hxb hb hcell _ wr2 hx2 _ => ?_⟩
   have hc:=blk_ext hcell hx2 (by simp)
   have hrun:=run_convert_bytes_arg (P:=Tryz.prog) wr2 ty_sl_uint8 ty_uint8 u_sl_u8 u_u8 b 0 1 1 [48+Int.tmod k1 10] rfl (fun i hi=>by
    have:i=0:=by omega
    subst this
    rw [Nat.add_zero,cell_blk hc]
    rfl) ty_string u_str0
   have hsz:(strOfNums [48+Int.tmod k1 10]++out).size=1+out.size:=by rw [ByteArray.size_append,strOfNums_size]; rfl
   refine ⟨_,wr2,hrun,kept_nil,?_,⟨by decide,⟨by omega,by omega⟩⟩,fun wr3 hx3 _=>⟨⟨Int.tdiv k1 10,_,rfl,hd10.1,?_,?_,((hX.trans hxb).trans hx2).trans hx3⟩,?_⟩⟩
   ·rw [strOfNums_size,List.length_singleton]; omega
   ·rw [hsz]; omega
   ·rw [←hd]
    conv=>rhs; rw [digs]
    rw [dif_pos gk]
   ·show (Int.tdiv k1 10).toNat<k1.toNat
    omega
  ·have gk:¬0<k1:=of_decide_eq_false gk
   refine ⟨by rw [show (ByteArray.mk [109].toArray).size=1 from rfl]; omega,fun wr4 hx4=>⟨?_,hX.trans hx4⟩⟩
   rw [hmt,←hd,digs,dif_neg gk])
theorem set_self0 {α:Type} [Inhabited α] {l:List α} {i:Int} (h0:0≤i) (h1:i<(l.length:Int)):l.set i.toNat (gi l i)=l:=by
 obtain ⟨k,rfl⟩:=Int.eq_ofNat_of_zero_le h0
 rw [gi_lt (by omega),Int.toNat_natCast,List.set_getElem_self]
def mkG (G:Grp) (K:Int):Grp:=⟨(Int.tmod (K) 3==0),K+1,mtx (K+1+1),K+1+1+1,K+1+1+1+1,K+1+1+1+1+1,K+1+1+1+1+1+1,K+1+1+1+1+1+1+1,⟨K+1+1+1+1+1+1+1+1,K+1+1+1+1+1+1+1+1+1,K+1+1+1+1+1+1+1+1+1+1,markI G.band.locals.length (K+1+1+1+1+1+1+1+1+1+1+1),markB G.band.dry.length (K+1+1+1+1+1+1+1+1+1+1+1+1*(G.band.locals.length:Int))⟩,markS G.shelves.length (K+1+1+1+1+1+1+1+1+1+1+1+1*(G.band.locals.length:Int)+1*(G.band.dry.length:Int))⟩
def nxK (G:Grp) (K:Int):Int:=K+1+1+1+1+1+1+1+1+1+1+1+1*(G.band.locals.length:Int)+1*(G.band.dry.length:Int)+5*(G.shelves.length:Int)
def gK (gs:List Grp) (k:Int):Nat→Int
 | 0=>k
 | i+1=>nxK (gi gs (i:Int)) (gK gs k i)
def markG (gs:List Grp) (k:Int):Nat→List Grp
 | 0=>gs
 | i+1=>(markG gs k i).set i (mkG (gi gs (i:Int)) (gK gs k i))
theorem markG_len (gs:List Grp) (k:Int):∀i,(markG gs k i).length=gs.length
 | 0=>rfl
 | i+1=>by simp only [markG]; rw [List.length_set,markG_len gs k i]
theorem markG_gi {gs:List Grp} {k:Int}:∀(i:Nat) (j:Nat),i≤gs.length→gi (markG gs k i) (j:Int)=if j<i then mkG (gi gs (j:Int)) (gK gs k j) else gi gs (j:Int)
 | 0,j,_=>by rw [if_neg (by omega)]; rfl
 | i+1,j,h=>by
  simp only [markG]
  have:=gi_set (markG gs k i) (mkG (gi gs (i:Int)) (gK gs k i)) (i:=(i:Int)) (by omega) (by rw [markG_len]; omega) (j:=(j:Int)) (by omega)
  rw [Int.toNat_natCast] at this
  rw [this,markG_gi i j (by omega)]
  by_cases e:i=j
  ·subst e; rw [if_pos rfl,if_pos (by omega)]
  ·rw [if_neg (by omega)]
   by_cases h2:j<i
   ·rw [if_pos h2,if_pos (by omega)]
   ·rw [if_neg h2,if_neg (by omega)]
theorem gK_range {gs:List Grp} {k:Int} (hs:∀i:Int,0≤i→i<(gs.length:Int)→SmG (gi gs i)):∀i:Nat,i≤gs.length→k≤gK gs k i∧gK gs k i≤k+(i:Int)*8000000
 | 0,_=>by simp only [gK]; omega
 | i+1,h=>by
  have ih:=gK_range (k:=k) hs i (by omega)
  have s:=hs (i:Int) (by omega) (by omega)
  have h1:=s.lo
  have h2:=s.dr
  have h3:=s.sh
  simp only [gK,nxK]
  omega
section
variable {n base:Nat} {W:Wld} {m:MW} {w w':World} {G G':Grp} {i:Int}
theorem MWd.grRd (h:MWd n base w (setGr W i G) m) (i0:0≤i) (i1:i<(W.groups.length:Int)):CellsX [] w m.gO (Int.toNat i*14) (encG G (m.ms i.toNat)):=by
 have:=(h.rd (bs:=[]) (by simp)).g.cells i i0 (by show i<(((W.groups.set i.toNat G).length:Nat):Int); rw [List.length_set]; exact i1)
 rwa [set_gi i0 i1 i0,if_pos rfl] at this
theorem MWd.grOwn (h:MWd n base w (setGr W i G) m) (i0:0≤i) (i1:i<(n:Int)) (hl:W.groups.length=n):OwnM base w (G,m.ms i.toNat):=by
 have:=h.each i0 i1
 rwa [set_gi i0 (by omega) i0,if_pos rfl] at this
theorem MWd.grSto (h:MWd n base w (setGr W i G) m) (i0:0≤i) (i1:i<(n:Int)) (hl:W.groups.length=n) (e1:G'.band.locals=G.band.locals) (e2:G'.band.dry=G.band.dry) (e3:G'.shelves=G.shelves) {j:Nat} {vs:List Value}
  (he:encG G' (m.ms i.toNat)=(encG G (m.ms i.toNat)).take j++vs++(encG G (m.ms i.toNat)).drop (j+vs.length)) (hj:j+vs.length≤14):MWd n base (sto w m.gO (Int.toNat i*14+j) vs) (setGr W i G') m:=by
 have hg:gi (setGr W i G).groups i=G:=by rw [set_gi i0 (by omega) i0,if_pos rfl]
 have this:MWd n base _ (setGr (setGr W i G) i G') m:=h.stoG0 i0 i1 (g:=G') (by rw [hg]; exact e1) (by rw [hg]; exact e2) (by rw [hg]; exact e3) (by rw [hg]; exact he) hj
 rwa [show setGr (setGr W i G) i G'=setGr W i G' by unfold setGr; rw [List.set_set]] at this
theorem MWd.grIn {bs:List Nat} (h:MWd n base w (setGr W i G) m) (i0:0≤i) (i1:i<(n:Int)) (hl:W.groups.length=n) (hx:ExtX bs w w') (hb:∀x∈bs,x∈grpBlks (m.ms i.toNat)) (hp:OwnM base w' (G',m.ms i.toNat)) (he:encG G' (m.ms i.toNat)=encG G (m.ms i.toNat)):MWd n base w' (setGr W i G') m:=by
 have hg:gi (setGr W i G).groups i=G:=by rw [set_gi i0 (by omega) i0,if_pos rfl]
 have this:MWd n base _ (setGr (setGr W i G) i G') m:=h.in i0 i1 hx hb hp (by rw [hg]; exact he)
 rwa [show setGr (setGr W i G) i G'=setGr W i G' by unfold setGr; rw [List.set_set]] at this
set_option maxHeartbeats 1000000 in
theorem k_markGroupS {k:Int} (h:MWd n base w W m) (hln:W.groups.length≤1048576) (hs:∀i:Int,0≤i→i<(W.groups.length:Int)→SmG (gi W.groups i)) (hk:0≤k) (hk2:k≤10000000000000000) :
  Calls Tryz.prog fn_laws_markGroupS #[.slice m.gO W.groups.length m.gC,.int .i64 k] w fun e w'=>e = .returned (.int .i64 (gK W.groups k W.groups.length))∧MWd n base w' { W with groups:=markG W.groups k W.groups.length } m∧ExtX (wBlks n m) w w':=by
 refine (e_laws_markGroupS m.gO W.groups.length m.gC k (R:=fun v w'=>v = .int .i64 (gK W.groups k W.groups.length)∧MWd n base w' { W with groups:=markG W.groups k W.groups.length } m∧ExtX (wBlks n m) w w') ?_).mono fun e w' ⟨v,he,hv,h1⟩=>⟨by rw [he,hv],h1⟩
 have hnl:=h.len
 refine ⟨fun vs w1=>∃(i:Nat),vs=[.int .i64 (gK W.groups k i),.int .i64 (i:Int)]∧i≤W.groups.length∧MWd n base w1 { W with groups:=markG W.groups k i } m∧ExtX (wBlks n m) w w1,cntMw W.groups.length 1,fun w1 hx _=>⟨0,rfl,Nat.zero_le _,h.ext0 hx,hx.of_nil⟩,?_⟩
 rintro k1 i1 wv _ ⟨i,he,hi,hM,hX⟩
 simp only [List.cons.injEq,Value.int.injEq,true_and,and_true] at he
 obtain ⟨rfl,rfl⟩:=he
 have hr:=gK_range (k:=k) hs i hi
 refine ⟨fun hlt => ?_,fun hge => ?_⟩
 ·have hlt:=of_decide_eq_true hlt
  have sm:=hs (i:Int) (by omega) hlt
  have s1:=sm.lo
  have s2:=sm.dr
  have s3:=sm.sh
  have hG0:=markG_gi (gs:=W.groups) (k:=k) i i hi
  rw [if_neg (by omega)] at hG0
  have hlen:(markG W.groups k i).length=n:=by rw [markG_len,hnl]
  have hM0:MWd n base wv (setGr { W with groups:=markG W.groups k i } (i:Int) (gi W.groups (i:Int))) m:=by
   have e:setGr { W with groups:=markG W.groups k i } (i:Int) (gi W.groups (i:Int))={ W with groups:=markG W.groups k i }:=by
    unfold setGr
    dsimp only
    rw [←hG0,set_self0 (by omega) (by rw [markG_len]; exact hlt)]
   rw [e]; exact hM
  have hdef:({ W with groups:=markG W.groups k (i+1) }:Wld)=setGr { W with groups:=markG W.groups k i } (i:Int) (mkG (gi W.groups (i:Int)) (gK W.groups k i)):=by
   unfold setGr
   simp only [markG,Int.toNat_natCast]
  have hnx:gK W.groups k (i+1)=nxK (gi W.groups (i:Int)) (gK W.groups k i):=rfl
  have hKr:gK W.groups k i≤50000000000000000:=by omega
  have hK0:0≤gK W.groups k i:=by omega
  have i0:(0:Int)≤(i:Int):=by omega
  have i1:(i:Int)<(n:Int):=by omega
  generalize ({ W with groups:=markG W.groups k i }:Wld)=W1 at hM hM0 hdef
  have hl1:W1.groups.length=n:=hM.len
  clear hG0 hlen hM
  generalize gi W.groups (i:Int)=G at hM0 hdef hnx s1 s2 s3
  generalize gK W.groups k i=K at hKr hK0 hnx hdef ⊢
  have hix:Ix m.gO W.groups.length (i:Int):=by
   have:=(hM0.rd (bs:=[]) (by simp)).g.ix (i:=(i:Int)) i0 (by show (i:Int)<(((W1.groups.set (Int.toNat (i:Int)) G).length:Nat):Int); rw [List.length_set]; omega)
   rw [show (setGr W1 (i:Int) G).groups.length=W.groups.length by show (W1.groups.set (Int.toNat (i:Int)) G).length=_; rw [List.length_set]; omega] at this
   exact this
  have hM1:=hM0.grSto i0 i1 hl1 (G':={ G with used:=(Int.tmod (K) 3==0) }) rfl rfl rfl (j:=0) (vs:=[.bool (Int.tmod K 3==0)]) rfl (by simp)
  have hM2:=hM1.grSto i0 i1 hl1 (G':={ G with used:=(Int.tmod (K) 3==0),parent:=K+1 }) rfl rfl rfl (j:=1) (vs:=[.int .i64 (K+1)]) rfl (by simp)
  have hM3:=hM2.grSto i0 i1 hl1 (G':={ G with used:=(Int.tmod (K) 3==0),parent:=K+1,name:=mtx (K+1+1) }) rfl rfl rfl (j:=2) (vs:=[.string (mtx (K+1+1))]) rfl (by simp)
  have hM4:=hM3.grSto i0 i1 hl1 (G':={ G with used:=(Int.tmod (K) 3==0),parent:=K+1,name:=mtx (K+1+1),weight:=K+1+1+1 }) rfl rfl rfl (j:=3) (vs:=[.int .i64 (K+1+1+1)]) rfl (by simp)
  have hM5:=hM4.grSto i0 i1 hl1 (G':={ G with used:=(Int.tmod (K) 3==0),parent:=K+1,name:=mtx (K+1+1),weight:=K+1+1+1,cpus:=K+1+1+1+1 }) rfl rfl rfl (j:=4) (vs:=[.int .i64 (K+1+1+1+1)]) rfl (by simp)
  have hM6:=hM5.grSto i0 i1 hl1 (G':={ G with used:=(Int.tmod (K) 3==0),parent:=K+1,name:=mtx (K+1+1),weight:=K+1+1+1,cpus:=K+1+1+1+1,period:=K+1+1+1+1+1 }) rfl rfl rfl (j:=5) (vs:=[.int .i64 (K+1+1+1+1+1)]) rfl (by simp)
  have hM7:=hM6.grSto i0 i1 hl1 (G':={ G with used:=(Int.tmod (K) 3==0),parent:=K+1,name:=mtx (K+1+1),weight:=K+1+1+1,cpus:=K+1+1+1+1,period:=K+1+1+1+1+1,next:=K+1+1+1+1+1+1 }) rfl rfl rfl (j:=6) (vs:=[.int .i64 (K+1+1+1+1+1+1)]) rfl (by simp)
  have hM8:=hM7.grSto i0 i1 hl1 (G':={ G with used:=(Int.tmod (K) 3==0),parent:=K+1,name:=mtx (K+1+1),weight:=K+1+1+1,cpus:=K+1+1+1+1,period:=K+1+1+1+1+1,next:=K+1+1+1+1+1+1,sum:=K+1+1+1+1+1+1+1 }) rfl rfl rfl (j:=7) (vs:=[.int .i64 (K+1+1+1+1+1+1+1)]) rfl (by simp)
  have hM9:=hM8.grSto i0 i1 hl1 (G':={ G with used:=(Int.tmod (K) 3==0),parent:=K+1,name:=mtx (K+1+1),weight:=K+1+1+1,cpus:=K+1+1+1+1,period:=K+1+1+1+1+1,next:=K+1+1+1+1+1+1,sum:=K+1+1+1+1+1+1+1,band:={ G.band with quota:=K+1+1+1+1+1+1+1+1 } }) rfl rfl rfl (j:=8) (vs:=[.int .i64 (K+1+1+1+1+1+1+1+1)]) rfl (by simp)
  have hM10:=hM9.grSto i0 i1 hl1 (G':={ G with used:=(Int.tmod (K) 3==0),parent:=K+1,name:=mtx (K+1+1),weight:=K+1+1+1,cpus:=K+1+1+1+1,period:=K+1+1+1+1+1,next:=K+1+1+1+1+1+1,sum:=K+1+1+1+1+1+1+1,band:={ G.band with quota:=K+1+1+1+1+1+1+1+1,pool:=K+1+1+1+1+1+1+1+1+1 } }) rfl rfl rfl (j:=9) (vs:=[.int .i64 (K+1+1+1+1+1+1+1+1+1)]) rfl (by simp)
  have hM11:=hM10.grSto i0 i1 hl1 (G':={ G with used:=(Int.tmod (K) 3==0),parent:=K+1,name:=mtx (K+1+1),weight:=K+1+1+1,cpus:=K+1+1+1+1,period:=K+1+1+1+1+1,next:=K+1+1+1+1+1+1,sum:=K+1+1+1+1+1+1+1,band:={ G.band with quota:=K+1+1+1+1+1+1+1+1,pool:=K+1+1+1+1+1+1+1+1+1,spent:=K+1+1+1+1+1+1+1+1+1+1 } }) rfl rfl rfl (j:=10) (vs:=[.int .i64 (K+1+1+1+1+1+1+1+1+1+1)]) rfl (by simp)
  have hc11:=hM11.grRd i0 (by omega)
  have hX11:ExtX (wBlks n m) wv _:=((((((((((subG (n:=n) (m:=m) (w:=wv) (k:=Int.toNat (i:Int)*14+0) (vs:=[.bool (Int.tmod K 3==0)])).trans (subG (n:=n) (m:=m) (k:=Int.toNat (i:Int)*14+1) (vs:=[.int .i64 (K+1)]))).trans (subG (n:=n) (m:=m) (k:=Int.toNat (i:Int)*14+2) (vs:=[.string (mtx (K+1+1))]))).trans (subG (n:=n) (m:=m) (k:=Int.toNat (i:Int)*14+3) (vs:=[.int .i64 (K+1+1+1)]))).trans (subG (n:=n) (m:=m) (k:=Int.toNat (i:Int)*14+4) (vs:=[.int .i64 (K+1+1+1+1)]))).trans (subG (n:=n) (m:=m) (k:=Int.toNat (i:Int)*14+5) (vs:=[.int .i64 (K+1+1+1+1+1)]))).trans (subG (n:=n) (m:=m) (k:=Int.toNat (i:Int)*14+6) (vs:=[.int .i64 (K+1+1+1+1+1+1)]))).trans (subG (n:=n) (m:=m) (k:=Int.toNat (i:Int)*14+7) (vs:=[.int .i64 (K+1+1+1+1+1+1+1)]))).trans (subG (n:=n) (m:=m) (k:=Int.toNat (i:Int)*14+8) (vs:=[.int .i64 (K+1+1+1+1+1+1+1+1)]))).trans (subG (n:=n) (m:=m) (k:=Int.toNat (i:Int)*14+9) (vs:=[.int .i64 (K+1+1+1+1+1+1+1+1+1)]))).trans (subG (n:=n) (m:=m) (k:=Int.toNat (i:Int)*14+10) (vs:=[.int .i64 (K+1+1+1+1+1+1+1+1+1+1)]))
  refine ⟨by decide,hix,wrG hM0 (bs:=[]) (by simp) i0 i1 (j:=0) (k:=1) (by decide),⟨by omega,by omega⟩,hix,wrG hM1 (bs:=[]) (by simp) i0 i1 (j:=1) (k:=1) (by decide),⟨by omega,by omega⟩,_,k_markText (by omega),hix,wrG hM2 (bs:=[]) (by simp) i0 i1 (j:=2) (k:=1) (by decide),⟨by omega,by omega⟩,hix,wrG hM3 (bs:=[]) (by simp) i0 i1 (j:=3) (k:=1) (by decide),⟨by omega,by omega⟩,hix,wrG hM4 (bs:=[]) (by simp) i0 i1 (j:=4) (k:=1) (by decide),⟨by omega,by omega⟩,hix,wrG hM5 (bs:=[]) (by simp) i0 i1 (j:=5) (k:=1) (by decide),⟨by omega,by omega⟩,hix,wrG hM6 (bs:=[]) (by simp) i0 i1 (j:=6) (k:=1) (by decide),⟨by omega,by omega⟩,hix,wrG hM7 (bs:=[]) (by simp) i0 i1 (j:=7) (k:=1) (by decide),⟨by omega,by omega⟩,hix,wrG hM8 (bs:=[]) (by simp) i0 i1 (j:=8) (k:=1) (by decide),⟨by omega,by omega⟩,hix,wrG hM9 (bs:=[]) (by simp) i0 i1 (j:=9) (k:=1) (by decide),⟨by omega,by omega⟩,hix,wrG hM10 (bs:=[]) (by simp) i0 i1 (j:=10) (k:=1) (by decide),⟨by omega,by omega⟩,hix,_,_,_,cellsX_one (hc11.get 11 _ rfl),fun wr1 hx1 _ => ?_⟩
  have hN1:=hM11.ext0 hx1
  have hO1:=hN1.grOwn i0 i1 hl1
  refine Calls.mono (k_markIntS (k:=K+1+1+1+1+1+1+1+1+1+1+1) hO1.loc s1 (by omega) (by omega)) ?_
  rintro e wv1 ⟨he1,hL1,hy1⟩
  have hN2:=hN1.grIn (G':={ { G with used:=(Int.tmod (K) 3==0),parent:=K+1,name:=mtx (K+1+1),weight:=K+1+1+1,cpus:=K+1+1+1+1,period:=K+1+1+1+1+1,next:=K+1+1+1+1+1+1,sum:=K+1+1+1+1+1+1+1,band:={ G.band with quota:=K+1+1+1+1+1+1+1+1,pool:=K+1+1+1+1+1+1+1+1+1,spent:=K+1+1+1+1+1+1+1+1+1+1 } } with band:={ ({ G with used:=(Int.tmod (K) 3==0),parent:=K+1,name:=mtx (K+1+1),weight:=K+1+1+1,cpus:=K+1+1+1+1,period:=K+1+1+1+1+1,next:=K+1+1+1+1+1+1,sum:=K+1+1+1+1+1+1+1,band:={ G.band with quota:=K+1+1+1+1+1+1+1+1,pool:=K+1+1+1+1+1+1+1+1+1,spent:=K+1+1+1+1+1+1+1+1+1+1 } }:Grp).band with locals:=markI G.band.locals.length (K+1+1+1+1+1+1+1+1+1+1+1) } }) i0 i1 hl1 hy1 (fun x hx=>by simp [grpBlks]; exact .inl hx) ⟨hL1,hO1.dry.ext hy1 (hO1.dry.ty_ne hO1.loc (by decide)),hO1.shl.ext hy1 (hO1.shl.ty_ne hO1.loc (by decide))⟩ (by simp [encG,markI_len])
  have hc2:=hN2.grRd i0 (by omega)
  refine ⟨_,he1,kept_nil,hix,_,_,_,cellsX_one (hc2.get 12 _ rfl),fun wr2 hx2 _ => ?_⟩
  have hN3:=hN2.ext0 hx2
  have hO3:=hN3.grOwn i0 i1 hl1
  refine Calls.mono (k_markBoolS (k:=K+1+1+1+1+1+1+1+1+1+1+1+1*(G.band.locals.length:Int)) hO3.dry s2 (by omega) (by omega)) ?_
  rintro e wv2 ⟨he2,hD1,hy2⟩
  have hN4:=hN3.grIn (G':={ mkG G K with shelves:=G.shelves }) i0 i1 hl1 hy2 (fun x hx=>by simp [grpBlks]; exact .inr (.inl hx)) ⟨hO3.loc.ext hy2 (hO3.loc.ty_ne hO3.dry (by decide)),hD1,hO3.shl.ext hy2 (hO3.shl.ty_ne hO3.dry (by decide))⟩ (by simp [encG,mkG,markI_len,markB_len])
  have hc4:=hN4.grRd i0 (by omega)
  refine ⟨_,he2,kept_nil,hix,_,_,_,cellsX_one (hc4.get 13 _ rfl),fun wr3 hx3 _ => ?_⟩
  have hN5:=hN4.ext0 hx3
  have hO5:=hN5.grOwn i0 i1 hl1
  refine Calls.mono (k_markShelfS (k:=K+1+1+1+1+1+1+1+1+1+1+1+1*(G.band.locals.length:Int)+1*(G.band.dry.length:Int)) hO5.shl s3 (by omega) (by omega)) ?_
  rintro e wv3 ⟨he3,hS1,hy3⟩
  have hN6:=hN5.grIn (G':=mkG G K) i0 i1 hl1 hy3 (fun x hx=>by simp [grpBlks]; exact .inr (.inr hx)) ⟨hO5.loc.ext hy3 (hO5.loc.ty_ne hO5.shl (by decide)),hO5.dry.ext hy3 (hO5.dry.ty_ne hO5.shl (by decide)),hS1⟩ (by simp [encG,mkG,markS_len])
  refine ⟨_,he3,kept_nil,⟨by omega,by omega⟩,fun w4 hx4 _=>⟨⟨i+1,?_,by omega,?_,?_⟩,?_⟩⟩
  ·rw [hnx]; rfl
  ·rw [hdef]; exact hN6.ext0 hx4
  ·have m1:∀x∈blkOf (m.ms (Int.toNat (i:Int))).lO,x∈wBlks n m:=fun x hx=>mem_wM (k:=Int.toNat (i:Int)) (by omega) (by simp [grpBlks]; exact .inl (by simpa using hx))
   have m2:∀x∈blkOf (m.ms (Int.toNat (i:Int))).dO,x∈wBlks n m:=fun x hx=>mem_wM (k:=Int.toNat (i:Int)) (by omega) (by simp [grpBlks]; exact .inr (.inl (by simpa using hx)))
   have m3:∀x∈blkOf (m.ms (Int.toNat (i:Int))).sO,x∈wBlks n m:=fun x hx=>mem_wM (k:=Int.toNat (i:Int)) (by omega) (by simp [grpBlks]; exact .inr (.inr (by simpa using hx)))
   exact (((((((hX.trans hX11).trans hx1.of_nil).trans (hy1.mono m1)).trans hx2.of_nil).trans (hy2.mono m2)).trans hx3.of_nil).trans (hy3.mono m3)).trans hx4.of_nil
  ·simp only [cntMw,cntM,ctrAt,List.getElem?_cons_zero,List.getElem?_cons_succ]; omega
 ·have hge:=of_decide_eq_false hge
  have:i=W.groups.length:=by omega
  subst this
  exact fun w5 hx5=>⟨rfl,hM.ext0 hx5,hX.trans hx5.of_nil⟩
set_option maxHeartbeats 1000000 in
theorem k_heldGroupS {gs gs0:List Grp} {ms:Nat→MG} {o:Option Addr} {c:Nat} {k:Int} {bs:List Nat} (h:RdG bs w o gs ms) (hl:gs.length=gs0.length) (hln:gs0.length≤1048576) (hm:∀i:Nat,i<gs0.length→gi gs (i:Int)=mkG (gi gs0 (i:Int)) (gK gs0 k i)) (hs:∀i:Int,0≤i→i<(gs0.length:Int)→SmG (gi gs0 i)) (hk:0≤k) (hk2:k≤10000000000000000) :
  PureX bs Tryz.prog fn_laws_heldGroupS #[.slice o gs0.length c,.int .i64 k] w (.int .i64 (gK gs0 k gs0.length)) :=
 p_laws_heldGroupS o gs0.length c k fun wr hx=>by
  have h:=(h.ext hx).less (cs:=[]) (by simp)
  refine loop2 gs0.length 0 rfl (fun x i=>i≤gs0.length∧x=gK gs0 k i) ⟨Nat.zero_le _,rfl⟩ fun x i ⟨hi,hx1⟩=>⟨fun hlt => ?_,fun hge => ?_⟩
  ·subst hx1
   have hlt:=of_decide_eq_true hlt
   have hr:=gK_range (k:=k) hs i hi
   have sm:=hs (i:Int) (by omega) hlt
   have s1:=sm.lo
   have s2:=sm.dr
   have s3:=sm.sh
   have hg:=hm i (by omega)
   have hc:=h.cells (i:Int) (by omega) (by omega)
   have hix:Ix o gs0.length (i:Int):=by have:=h.ix (i:=(i:Int)) (by omega) (by omega); rwa [hl] at this
   have hLo:=h.locals (i:Int) (by omega) (by omega)
   have hDo:=h.dry (i:Int) (by omega) (by omega)
   have hSo:=h.shelves (i:Int) (by omega) (by omega)
   have e1:(gi gs (i:Int)).band.locals=markI (gi gs0 (i:Int)).band.locals.length (gK gs0 k i+1+1+1+1+1+1+1+1+1+1+1):=by rw [hg]; rfl
   have e2:(gi gs (i:Int)).band.dry=markB (gi gs0 (i:Int)).band.dry.length (gK gs0 k i+1+1+1+1+1+1+1+1+1+1+1+1*((gi gs0 (i:Int)).band.locals.length:Int)):=by rw [hg]; rfl
   have e3:(gi gs (i:Int)).shelves=markS (gi gs0 (i:Int)).shelves.length (gK gs0 k i+1+1+1+1+1+1+1+1+1+1+1+1*((gi gs0 (i:Int)).band.locals.length:Int)+1*((gi gs0 (i:Int)).band.dry.length:Int)):=by rw [hg]; rfl
   have hI:=k_heldIntS (c:=(ms (Int.toNat (i:Int))).lC) (e1▸hLo) s1 (by omega) (by omega)
   have hB:=k_heldBoolS (c:=(ms (Int.toNat (i:Int))).dC) (e2▸hDo) s2 (by omega) (by omega)
   have hS:=k_heldShelfS (c:=(ms (Int.toNat (i:Int))).sC) (e3▸hSo) s3 (by omega) (by omega)
   have l1:(gi gs (i:Int)).band.locals.length=(gi gs0 (i:Int)).band.locals.length:=by rw [e1,markI_len]
   have l2:(gi gs (i:Int)).band.dry.length=(gi gs0 (i:Int)).band.dry.length:=by rw [e2,markB_len]
   have l3:(gi gs (i:Int)).shelves.length=(gi gs0 (i:Int)).shelves.length:=by rw [e3,markS_len]
   have c11:CellsX [] wr o (Int.toNat (i:Int)*14+11) [.slice (ms (Int.toNat (i:Int))).lO (gi gs0 (i:Int)).band.locals.length (ms (Int.toNat (i:Int))).lC]:=by rw [←l1]; exact cellsX_one (hc.get 11 _ rfl)
   have c12:CellsX [] wr o (Int.toNat (i:Int)*14+12) [.slice (ms (Int.toNat (i:Int))).dO (gi gs0 (i:Int)).band.dry.length (ms (Int.toNat (i:Int))).dC]:=by rw [←l2]; exact cellsX_one (hc.get 12 _ rfl)
   have c13:CellsX [] wr o (Int.toNat (i:Int)*14+13) [.slice (ms (Int.toNat (i:Int))).sO (gi gs0 (i:Int)).shelves.length (ms (Int.toNat (i:Int))).sC]:=by rw [←l3]; exact cellsX_one (hc.get 13 _ rfl)
   have f0:(gi gs (i:Int)).used=(Int.tmod (gK gs0 k i) 3==0):=by rw [hg]; rfl
   have f1:(gi gs (i:Int)).parent=gK gs0 k i+1:=by rw [hg]; rfl
   have f2:(gi gs (i:Int)).name=mtx (gK gs0 k i+1+1):=by rw [hg]; rfl
   have f3:(gi gs (i:Int)).weight=gK gs0 k i+1+1+1:=by rw [hg]; rfl
   have f4:(gi gs (i:Int)).cpus=gK gs0 k i+1+1+1+1:=by rw [hg]; rfl
   have f5:(gi gs (i:Int)).period=gK gs0 k i+1+1+1+1+1:=by rw [hg]; rfl
   have f6:(gi gs (i:Int)).next=gK gs0 k i+1+1+1+1+1+1:=by rw [hg]; rfl
   have f7:(gi gs (i:Int)).sum=gK gs0 k i+1+1+1+1+1+1+1:=by rw [hg]; rfl
   have f8:(gi gs (i:Int)).band.quota=gK gs0 k i+1+1+1+1+1+1+1+1:=by rw [hg]; rfl
   have f9:(gi gs (i:Int)).band.pool=gK gs0 k i+1+1+1+1+1+1+1+1+1:=by rw [hg]; rfl
   have f10:(gi gs (i:Int)).band.spent=gK gs0 k i+1+1+1+1+1+1+1+1+1+1:=by rw [hg]; rfl
   refine ⟨hix,_,cellsX_one (hc.get 0 _ rfl),by decide,fun hb=>(by rw [f0] at hb; simp at hb),fun _=>⟨⟨by omega,by omega⟩,hix,_,cellsX_one (hc.get 1 _ rfl),fun hb=>(by rw [f1] at hb; simp at hb),fun _=>⟨⟨by omega,by omega⟩,hix,_,cellsX_one (hc.get 2 _ rfl),_,k_markText (by omega),fun hb=>(by rw [f2,strEq_iff.2 rfl] at hb; cases hb),fun _=>⟨⟨by omega,by omega⟩,hix,_,cellsX_one (hc.get 3 _ rfl),fun hb=>(by rw [f3] at hb; simp at hb),fun _=>⟨⟨by omega,by omega⟩,hix,_,cellsX_one (hc.get 4 _ rfl),fun hb=>(by rw [f4] at hb; simp at hb),fun _=>⟨⟨by omega,by omega⟩,hix,_,cellsX_one (hc.get 5 _ rfl),fun hb=>(by rw [f5] at hb; simp at hb),fun _=>⟨⟨by omega,by omega⟩,hix,_,cellsX_one (hc.get 6 _ rfl),fun hb=>(by rw [f6] at hb; simp at hb),fun _=>⟨⟨by omega,by omega⟩,hix,_,cellsX_one (hc.get 7 _ rfl),fun hb=>(by rw [f7] at hb; simp at hb),fun _=>⟨⟨by omega,by omega⟩,hix,_,cellsX_one (hc.get 8 _ rfl),fun hb=>(by rw [f8] at hb; simp at hb),fun _=>⟨⟨by omega,by omega⟩,hix,_,cellsX_one (hc.get 9 _ rfl),fun hb=>(by rw [f9] at hb; simp at hb),fun _=>⟨⟨by omega,by omega⟩,hix,_,cellsX_one (hc.get 10 _ rfl),fun hb=>(by rw [f10] at hb; simp at hb),fun _=>⟨⟨by omega,by omega⟩,hix,_,_,_,c11,_,hI,fun hb=>(by have:=of_decide_eq_true hb; omega),fun _=>⟨hix,_,_,_,c12,_,hB,fun hb=>(by have:=of_decide_eq_true hb; omega),fun _=>⟨hix,_,_,_,c13,_,hS,fun hb=>(by have:=of_decide_eq_true hb; omega),fun _=>⟨⟨by omega,by omega⟩,loop2_next (by omega) ⟨by omega,rfl⟩⟩⟩⟩⟩⟩⟩⟩⟩⟩⟩⟩⟩⟩⟩⟩
  ·have hge:=of_decide_eq_false hge
   have:i=gs0.length:=by omega
   subst this
   rw [hx1]
end
end Go.Proofs.YthhmnlcimojhlaaGreatDoor
namespace Go.Proofs.YthhmnlcimojhlaaGreatDoor
open Go.RowKit
set_option linter.unusedVariables false
set_option linter.unusedSimpArgs false
set_option maxRecDepth 10000
def kC (W:Wld):Int:=1+5*(W.cpus.length:Int)
def kT (W:Wld):Int:=kC W+9*(W.tasks.length:Int)
def mK (W:Wld):Int:=gK W.groups (kT W) W.groups.length
def markW (W:Wld):Wld:={ W with cpus:=markC W.cpus.length 1,tasks:=markT W.tasks.length (kC W),groups:=markG W.groups (kT W) W.groups.length }
section
variable {n base:Nat} {W:Wld} {m:MW} {w w':World} {bs:List Nat}
theorem mK_pos (sm:SmW W):0≤mK W:=by
 have:=gK_range (k:=kT W) sm.gs W.groups.length (Nat.le_refl _)
 unfold mK kT kC at *
 omega
theorem k_markWorld (h:MWd n base w W m) (sm:SmW W) :
  Calls Tryz.prog fn_laws_markWorld #[.agg (encW W m).toArray,.int .i64 1] w fun e w'=>e = .returned (.int .i64 (mK W))∧MWd n base w' (markW W) m∧ExtX (wBlks n m) w w':=by
 refine (e_laws_markWorld W.now m.cO W.cpus.length m.cC m.tO W.tasks.length m.tC m.gO W.groups.length m.gC 1 (R:=fun v w'=>v = .int .i64 (mK W)∧MWd n base w' (markW W) m∧ExtX (wBlks n m) w w') ?_).mono fun e w' ⟨v,he,hv,h1⟩=>⟨by rw [he,hv],h1⟩
 have s1:=sm.c
 have s2:=sm.t
 have s3:=sm.g
 intro b hb wr hx hs
 have hnb:∀y∈wBlks n m,y∉[b]:=fun y hy hm=>by
  have:y=b:=by simpa using hm
  have:=(h.lt y hy).2
  omega
 have hM0:=h.ext0 hx
 refine Calls.mono (k_markCpuS hM0.c s1 (by decide) (by decide)) ?_
 rintro e wv ⟨he,hC,hy⟩
 have hyW:ExtX (wBlks n m) wr wv:=hy.mono fun y hy=>mem_wC hy
 have hM1:MWd n base wv { W with cpus:=markC W.cpus.length 1 } m:=⟨hC,hM0.t.ext hy (hM0.t.ty_ne hM0.c (by decide)),hM0.g.foreign hM0.c (by decide) (by decide) (by decide) (by decide) hy,hM0.len⟩
 refine ⟨_,he,kept_sep hyW hs hnb,fun wr1 hx1 hs1 => ?_⟩
 have hM2:=hM1.ext hx1 hnb
 refine Calls.mono (k_markTaskS (k:=kC W) hM2.t s2 (by unfold kC; omega) (by unfold kC; omega)) ?_
 rintro e1 wv1 ⟨he1,hT,hy1⟩
 have hyW1:ExtX (wBlks n m) wr1 wv1:=hy1.mono fun y hy=>mem_wT hy
 have hM3:MWd n base wv1 { W with cpus:=markC W.cpus.length 1,tasks:=markT W.tasks.length (kC W) } m:=⟨hM2.c.ext hy1 (hM2.c.ty_ne hM2.t (by decide)),hT,hM2.g.foreign hM2.t (by decide) (by decide) (by decide) (by decide) hy1,hM2.len⟩
 refine ⟨_,he1,kept_sep hyW1 hs1 hnb,fun wr2 hx2 hs2 => ?_⟩
 have hM4:=hM3.ext hx2 hnb
 refine Calls.mono (k_markGroupS (W:={ W with cpus:=markC W.cpus.length 1,tasks:=markT W.tasks.length (kC W) }) (k:=kT W) hM4 s3 sm.gs (by unfold kT kC; omega) (by unfold kT kC; omega)) ?_
 rintro e2 wv2 ⟨he2,hG,hy2⟩
 refine ⟨_,he2,kept_sep hy2 hs2 hnb,fun wr3 hx3=>⟨rfl,hG.ext hx3 hnb,?_⟩⟩
 have hone:∀y∈[b],w.heap.size≤y:=fun y hm=>by
  have:y=b:=by simpa using hm
  omega
 exact ((((((hx.of_nil.trans hyW).fresh hx1 fun y hm=>.inl (hone y hm)).trans hyW1).fresh hx2 fun y hm=>.inl (hone y hm)).trans hy2).fresh hx3 fun y hm=>.inl (hone y hm))
theorem k_heldWorld (h:RdW bs w (markW W) m) (sm:SmW W):PureX bs Tryz.prog fn_laws_heldWorld #[.agg (encW W m).toArray,.int .i64 1] w (.int .i64 (mK W)) :=
 p_laws_heldWorld W.now m.cO W.cpus.length m.cC m.tO W.tasks.length m.tC m.gO W.groups.length m.gC 1 fun wr hx=>by
  have h:=(h.ext hx).less (cs:=[]) (by simp)
  have s1:=sm.c
  have s2:=sm.t
  have s3:=sm.g
  have hp:=mK_pos sm
  intro b hb
  refine ⟨_,k_heldCpuS (k:=1) h.c s1 (by decide) (by decide),fun g => ?_,fun _=>⟨_,k_heldTaskS (k:=kC W) h.t s2 (by unfold kC; omega) (by unfold kC; omega),fun g => ?_,fun _=>⟨mK W,k_heldGroupS (gs0:=W.groups) (k:=kT W) h.g (markG_len _ _ _) s3 (fun i hi => ?_) sm.gs (by unfold kT kC; omega) (by unfold kT kC; omega),fun g => ?_,fun _=>rfl⟩⟩⟩
  ·have:=of_decide_eq_true g; omega
  ·have:=of_decide_eq_true g; unfold kC at this; omega
  ·have:=markG_gi (gs:=W.groups) (k:=kT W) W.groups.length i (Nat.le_refl _)
   rw [if_pos hi] at this
   exact this
  ·have:=of_decide_eq_true g; omega
theorem k_toW {D:Wld} {M:MW} {w0:World} (h:RdW [] w0 D M) (s:Sc w0 bs w) (hs:∀x∈bs,x<w.heap.size) (sm:SmW D) :
  Calls Tryz.prog fn_laws_toWorld #[.agg (encW D M).toArray] w fun e w'=>∃m',e = .returned (.agg (encW D m').toArray)∧OW D.groups.length w.heap.size bs w' D m'∧ExtX [] w w' :=
 (k_toWorld (h.ext s.ext) sm).mono fun e w' ⟨m',he,hO,hx⟩=>⟨m',he,OW.of (MWd.of hO rfl) hs,hx⟩
theorem eqWW {A:Wld} {ma mb:MW} (ha:RdW bs w A ma) (hb:RdW bs w A mb) (hs:SmW A):PureX bs Tryz.prog fn_laws_eqWorld #[.agg (encW A ma).toArray,.agg (encW A mb).toArray] w (.bool true):=by
 have:=k_eqWorld ha hb hs
 rwa [decide_eq_true rfl] at this
end
theorem sm_zero:SmW zeroW:=⟨by decide,by decide,by decide,fun i a b=>by simp [zeroW] at b; omega⟩
theorem sm_of_WA {W:Wld} (ha:WA W) (hn:∀i:Int,0≤i→i<8→(gi W.groups i).name.size≤1048576):SmW W:=by
 have h1:=ha.c2
 have h2:=ha.t
 have h3:=ha.gl
 refine ⟨by omega,by omega,by omega,fun i a b => ?_⟩
 have:=band_len ha a (by omega)
 exact ⟨hn i a (by omega),by omega,by omega,by omega⟩
theorem sm_fr {W W':Wld} (sm:SmW W) (ha:WA W') (hf:TreeC W.groups W'.groups):SmW W':=sm_of_WA ha fun i a b=>by
 rw [hf.n]
 have hl:=ha.gl
 rw [hf.len] at hl
 exact (sm.gs i a (by omega)).nm
theorem ans_sm {W W':Wld} {bar:Int} (sm:SmW W) (h:worldB W=true→bar=0→SmW W'):SmW (ansD W bar W').1:=by
 unfold ansD
 split
 ·exact sm_zero
 ·rename_i hW
  split
  ·exact sm
  ·rename_i hb
   exact h (by simpa using hW) (by simpa using hb)
theorem sm_set {K:Int} {W W1:Wld} (sm:SmW W) (hS:SW K W1) (hK:0≤K) (hf:TreeC W.groups W1.groups):SmW (settleD W1) :=
 sm_fr sm (settleD_ok hS hK).1.a (hf.trans (settleD_ok hS hK).2.g)
end Go.Proofs.YthhmnlcimojhlaaGreatDoor
namespace Go.Proofs.YthhmnlcimojhlaaGreatDoor
open Go.RowKit
set_option linter.unusedVariables false
set_option linter.unusedSimpArgs false
set_option maxRecDepth 10000
section
variable {W:Wld} {m:MW} {w:World} {bar:Int}
set_option maxHeartbeats 1000000 in
theorem cap_out {base pb b:Nat} {w w':World} {W W':Wld} {m m':MW} {o:Obj} (h:PW base pb w W m) (hb:b<base) (hpb:base≤pb) (hc:w.heap[b]? = some o) (hM:Mp base pb [] w m w' W' m'):w'.heap[b]? = some o :=
 blk_ext hc hM.v.ext fun hm=>by
  have:=(h.own.lt b hm).1
  omega
end
end Go.Proofs.YthhmnlcimojhlaaGreatDoor
namespace Go.Proofs.YthhmnlcimojhlaaGreatDoor
open Go.RowKit
set_option linter.unusedVariables false
set_option linter.unusedSimpArgs false
set_option maxRecDepth 10000
noncomputable def grpB (W:Wld) (g:Int) (ok:Bool):Int:=if ok=false∨g=0 then 1 else if usedD W.groups g=false then 2 else if roomB W=false then 10 else 0
theorem grpB_ok {W:Wld} {g:Int} {ok:Bool} (h:grpB W g ok=0):ok=true∧g≠0∧usedD W.groups g=true∧roomB W=true:=by
 unfold grpB at h
 split at h
 ·cases h
 ·rename_i h1
  split at h
  ·cases h
  ·rename_i h2
   split at h
   ·cases h
   ·rename_i h3
    exact ⟨by cases ok <;> simp_all,fun e=>h1 (.inr e),by simpa using h2,by simpa using h3⟩
theorem SW.setGr {K:Int} {W:Wld} (h:SW K W) {g:Int} {x:Grp} (hu:usedD W.groups g=true) (u:x.used=(gi W.groups g).used) (p:x.parent=(gi W.groups g).parent) (n:x.name=(gi W.groups g).name) (s:x.shelves=(gi W.groups g).shelves) (hx:GrpU W g x):SW K (setGr W g x):=by
 obtain ⟨u0,u1,ut⟩:=usedD_iff.1 hu
 have hl:=h.a.gl
 have hT:=treeC_set (x:=x) u0 u1 u p n
 have es:∀k c:Int,0≤k→shf (Go.Proofs.YthhmnlcimojhlaaGreatDoor.setGr W g x) k c=shf W k c:=fun k c k0=>by
  unfold shf
  rw [set_gi u0 u1 k0]
  split
  ·rename_i e; subst e; rw [s]
  ·rfl
 refine ⟨h.a.set u0 (by omega) u p n (fun hn=>by rw [u,ut] at hn; cases hn) fun _=>hx,fun t a b n=>by rw [hT.usd]; exact h.t t a b n,h.tv,fun k c uk a b => ?_,h.cu⟩
 rw [hT.usd] at uk
 rw [es k c (usedD_iff.1 uk).1]
 exact h.s k c uk a b
section
variable {W W':Wld} {m:MW} {w:World} {bar:Int}
theorem k_spec_l11Begin {g:Int} {ok:Bool} (h:RdW [] w W m) (hl:LenW W) :
  Calls Tryz.prog fn_spec_l11Begin #[.agg (encW W m).toArray,.int .i64 g,.bool ok] w fun e w'=>(worldB W=false∧e = .returned (.tuple #[.agg (encW zeroW noM).toArray,.int .i64 1])∧ExtX [] w w')∨(worldB W=true∧∃m',e = .returned (.tuple #[.agg (encW W m').toArray,.int .i64 (grpB W g ok)])∧MWd 8 w.heap.size w' W m'∧ExtX [] w w'):=by
 refine (e_spec_l11Begin W.now m.cO W.cpus.length m.cC m.tO W.tasks.length m.tC m.gO W.groups.length m.gC g ok (R:=fun v w'=>(worldB W=false∧v = .tuple #[.agg (encW zeroW noM).toArray,.int .i64 1]∧ExtX [] w w')∨(worldB W=true∧∃m',v = .tuple #[.agg (encW W m').toArray,.int .i64 (grpB W g ok)]∧MWd 8 w.heap.size w' W m'∧ExtX [] w w')) ?_).mono fun e w' ⟨v,he,h3⟩=>by
  rw [he]
  rcases h3 with ⟨a,b,c⟩ | ⟨a,m',b,c⟩
  ·exact .inl ⟨a,by rw [b],c⟩
  ·exact .inr ⟨a,m',by rw [b],c⟩
 intro x hx x1 hx1 wr hx2 hs2
 refine Calls.mono (k_spec_l10Begin (h.ext hx2) hl) ?_
 rintro e wv (⟨hW,he,hy⟩ | ⟨hW,m',he,hM,hy⟩)
 ·exact ⟨_,_,_,_,_,_,_,_,_,_,_,he,kept_of hy hs2,fun _ wr1 hx3=>.inl ⟨hW,rfl,(hx2.trans hy).fresh hx3 fun y hm=>.inl (two_new hx hx1 y hm)⟩,fun g=>by simp at g⟩
 have hK:=Wk.begin hx hx1 hx2 hs2 hM hy
 have hc1:((if roomB W=true then 0 else 10:Int)==1)=false:=by split <;> rfl
 refine ⟨_,_,_,_,_,_,_,_,_,_,_,he,kept_of hy hs2,fun g1 wr1 hx3=>.inr ⟨hW,m',?_,(hK.step hx3).fin⟩,fun g1=>⟨_,k_spec_l6Used hK.rd.g,fun g2 wr2 hx3=>.inr ⟨hW,m',?_,(hK.step hx3).fin⟩,fun g2 wr3 hx3=>.inr ⟨hW,m',?_,(hK.step hx3).fin⟩⟩⟩
 ·have hb:grpB W g ok=1:=by
   unfold grpB
   rw [if_pos]
   rw [hc1] at g1
   simpa using g1
  rw [hb]; rfl
 ·rw [hc1] at g1
  have g1:¬(ok=false∨g=0):=by simpa using g1
  have hb:grpB W g ok=2:=by unfold grpB; rw [if_neg g1,if_pos (by simpa using g2)]
  rw [hb]; rfl
 ·rw [hc1] at g1
  have g1:¬(ok=false∨g=0):=by simpa using g1
  have hb:grpB W g ok=if roomB W=true then 0 else 10:=by
   unfold grpB; rw [if_neg g1,if_neg (by simpa using g2)]
   cases roomB W <;> rfl
  rw [hb]; rfl
theorem Done.pre {base pb:Nat} {ex:List Nat} {w0 w w':World} {W':Wld} {m m':MW} (hx:ExtX [] w0 w) (h:Done base pb ex w m w' W' m'):Done base pb ex w0 m w' W' m' :=
 ⟨h.own,h.pt,hx.of_nil.trans h.ext,fun x hy=>(h.sub x hy).imp id fun hz=>Nat.le_trans hx.size hz⟩
theorem Done.post {base pb:Nat} {ex:List Nat} {w w' w1:World} {W':Wld} {m m':MW} (h:Done base pb ex w m w' W' m') (hx:ExtX [] w' w1):Done base pb ex w m w1 W' m' :=
 ⟨h.own.ext0 hx,blk_ext h.pt hx (by simp),h.ext.trans hx.of_nil,h.sub⟩
def GrpA (base pb:Nat) (W W':Wld) (m:MW) (w:World) (e:Ending) (w2:World):Prop :=
 (roomB W=false∧e = .returned (.iface ty_impl_refusal (.agg #[.int .i64 10]))∧ExtX [] w w2)∨(roomB W=true∧e = .returned .nilIface∧∃m2,Done base pb [] w m w2 W' m2)
theorem k_attemptGroup_1 {base pb:Nat} {cap cap1 cap2:Option Addr} {g:Int} {ok:Bool} {cf:Fn} {ca ck:Array Value} (h:PW base pb w W m) (hW:worldB W=true) (hc:CellsX [] w cap 0 [.int .i64 g]) (hc1:CellsX [] w cap1 0 [.bool ok]) (hc2:CellsX [] w cap2 0 [.func cf ca ck])
  (hcall:ok=true→g≠0→usedD W.groups g=true→∀w1,ExtX [] w w1→CallF Tryz.prog (.func cf ca ck) [.pointer (pA pb)] w1 fun e w2=>GrpA base pb W W' m w1 e w2) :
  Calls Tryz.prog fn_impl_attemptGroup_1 #[.pointer (pA pb),.pointer cap,.pointer cap1,.pointer cap2] w fun e w2=>(grpB W g ok≠0∧e = .returned (.iface ty_impl_refusal (.agg #[.int .i64 (grpB W g ok)]))∧ExtX [] w w2)∨(grpB W g ok=0∧e = .returned .nilIface∧∃m2,Done base pb [] w m w2 W' m2):=by
 have wp:=decB_t.1 hW
 have hp:=(Mp.start h).wpt
 refine (e_impl_attemptGroup_1 (pA pb) cap cap1 cap2 (R:=fun v w2=>(grpB W g ok≠0∧v = .iface ty_impl_refusal (.agg #[.int .i64 (grpB W g ok)])∧ExtX [] w w2)∨(grpB W g ok=0∧v = .nilIface∧∃m2,Done base pb [] w m w2 W' m2)) ?_).mono fun e w' ⟨v,he,h3⟩=>by
  rw [he]
  rcases h3 with ⟨a,b,c⟩ | ⟨a,b,c⟩
  ·exact .inl ⟨a,by rw [b],c⟩
  ·exact .inr ⟨a,by rw [b],c⟩
 refine ⟨g,hc,ok,fun _=>hc1,fun g1 wr hx=>.inl ?_,fun g1=>⟨hp.some,_,_,_,hp.groups,g,hc,_,k_impl_groupUsed hp.rd.g (by have:=wp.a.gl; have:=maxLen_big; omega),fun g2 wr hx=>.inl ?_,fun g2=>⟨cf,ca,ck,hc2,fun wr hx _ => ?_⟩⟩⟩
 ·have hb:grpB W g ok=1:=by unfold grpB; rw [if_pos (by simpa [or_comm] using g1)]
  rw [hb]
  exact ⟨by decide,rfl,hx⟩
 ·have g1:¬(ok=false∨g=0):=by simpa [or_comm,and_comm] using g1
  have hb:grpB W g ok=2:=by unfold grpB; rw [if_neg g1,if_pos (by simpa using g2)]
  rw [hb]
  exact ⟨by decide,rfl,hx⟩
 ·have g1:¬(ok=false∨g=0):=by simpa [or_comm,and_comm] using g1
  have g2:usedD W.groups g=true:=by simpa using g2
  have hok:ok=true:=by cases ok <;> simp_all
  refine (hcall hok (fun e=>g1 (.inr e)) g2 wr hx).mono fun e w2 hA => ?_
  rcases hA with ⟨a1,a2,a3⟩ | ⟨a1,a2,m2,a3⟩
  ·have hb:grpB W g ok=10:=by unfold grpB; rw [if_neg g1,if_neg (by rw [g2]; decide),if_pos a1]
   refine ⟨_,a2,kept_nil,fun wr3 hx3=>.inl ?_⟩
   rw [hb]
   exact ⟨by decide,rfl,(hx.trans a3).trans hx3⟩
  ·have hb:grpB W g ok=0:=by unfold grpB; rw [if_neg g1,if_neg (by rw [g2]; decide),if_neg (by rw [a1]; decide)]
   exact ⟨_,a2,kept_nil,fun wr3 hx3=>.inr ⟨hb,rfl,m2,(a3.pre hx).post hx3⟩⟩
theorem k_attemptGroup {g:Int} {ok:Bool} {cf:Fn} {ca ck:Array Value} (h:RdW [] w W m) (hl:LenW W) (hg:GlobE w)
  (hcall:∀(base pb:Nat) (w1:World) (m1:MW),worldB W=true→ok=true→g≠0→usedD W.groups g=true→ExtX [] w w1→w.heap.size≤base→base≤pb→PW base pb w1 W m1 →
   CallF Tryz.prog (.func cf ca ck) [.pointer (pA pb)] w1 fun e w2=>GrpA base pb W W' m1 w1 e w2) :
  Calls Tryz.prog fn_impl_attemptGroup #[.agg (encW W m).toArray,.int .i64 g,.bool ok,.func cf ca ck] w fun e w'=>∃v,e = .returned v∧AnsW (ansD W (grpB W g ok) W') w v w':=by
 refine e_impl_attemptGroup W.now m.cO W.cpus.length m.cC m.tO W.tasks.length m.tC m.gO W.groups.length m.gC g ok cf ca ck (R:=fun v w'=>AnsW (ansD W (grpB W g ok) W') w v w') ?_
 intro x hx b1 wb hx1 hb1 hc hn b2 wb1 hxb hb2 hc2 hn2 b3 wb2 hxb2 hb3 hc3 hn3 b4 hb4 wr hx2 hs
 have hX0:ExtX [] w wb1:=hx1.fresh hxb fun y hy=>.inl (le_mem1 hy hx)
 have hX1:ExtX [] w wb2:=hX0.fresh hxb2 fun y hy=>.inl (le_mem1 hy hx)
 have hX:ExtX [] w wr:=hX1.fresh hx2 fun y hy=>.inl (le_mem1 hy hx)
 have c1:=blk_ext (blk_ext (blk_ext hc hxb hn) hxb2 hn) hx2 hn
 have c2:=blk_ext (blk_ext hc2 hxb2 hn2) hx2 hn2
 have c3:=blk_ext hc3 hx2 hn3
 have cell:∀{b:Nat} {v:Value} {t:TypeId} {w1:World},wr.heap[b]? = some (Obj.cells ([v]:List Value).toArray t (0,0))→ExtX [] wr w1→CellsX [] w1 (some ⟨b,0,none⟩) 0 [v]:=fun hb hx=>cellX_blk (blk_ext hb hx (by simp)) (by simp) (k0:=0) rfl
 refine Calls.mono (k_attempt (bar:=grpB W g ok) (W':=W') (h.ext hX) hl (hg.ext hX) fun w1 pb m1 hW hx3 hpb hP=>.inl ⟨fn_impl_attemptGroup_1,_,rfl,k_attemptGroup_1 hP hW (cell c1 hx3) (cell c2 hx3) (cell c3 hx3) fun o1 o2 o3 w9 hx9=>hcall _ pb w9 m1 hW o1 o2 o3 ((hX.trans hx3).trans hx9) hX.size hpb (hP.ext0 hx9)⟩) ?_
 rintro e wv ⟨v,he,n',m',hv,hM,hy⟩
 subst hv
 refine ⟨_,_,_,_,_,_,_,_,_,_,_,he,kept_of hy hs,fun wr1 hx4=>⟨n',m',rfl,(hM.ext hx4 fun y hy hm => ?_).mono hX.size,(hX.trans hy).fresh hx4 fun y hm => ?_⟩⟩
 ·have:=(hM.lt y hy).1
  have:=hs y hm
  omega
 ·simp only [List.mem_cons,List.not_mem_nil,or_false] at hm
  rcases hm with rfl | rfl
  ·exact .inl hx
  ·exact .inl (Nat.le_trans hX1.size hb4)
theorem Mp.grf {base pb:Nat} {bs:List Nat} {w0:World} {m0:MW} (h:Mp base pb bs w0 m0 w W m) {g:Int} (u0:0≤g) (u1:g<8) {G:Grp} (e1:G.band.locals=(gi W.groups g).band.locals) (e2:G.band.dry=(gi W.groups g).band.dry) (e3:G.shelves=(gi W.groups g).shelves) {j:Nat} {vs:List Value}
  (he:encG G (m.ms g.toNat)=(encG (gi W.groups g) (m.ms g.toNat)).take j++vs++(encG (gi W.groups g) (m.ms g.toNat)).drop (j+vs.length)) (hj:j+vs.length≤14) :
  Mp base pb bs w0 m0 (Go.Proofs.YthhmnlcimojhlaaGreatDoor.sto w m.gO (Int.toNat g*14+j) vs) (setGr W g G) m :=
 h.deed (h.own.stoG0 u0 u1 e1 e2 e3 he hj) subG (by simp [encW,setGr])
end
end Go.Proofs.YthhmnlcimojhlaaGreatDoor
namespace Go.Proofs.YthhmnlcimojhlaaGreatDoor
open Go.RowKit
set_option linter.unusedVariables false
set_option linter.unusedSimpArgs false
set_option maxRecDepth 10000
theorem SF.endW {F K:Int} {W:Wld} (h:SF F K W) {c:Int} (c0:0≤c) (c1:c<(W.cpus.length:Int)):SF F K (endW W c) :=
 ⟨h.w.endW c0 c1,fun k d u a b=>h.f k d u a (by
  have b:d<(((W.cpus.set c.toNat (endC (gi W.cpus c))).length:Nat):Int):=b
  rwa [List.length_set] at b)⟩
structure RelF (W W':Wld):Prop where
 n:W'.now=W.now
 c:W'.cpus.length=W.cpus.length
 t:W'.tasks.length=W.tasks.length
 g:W'.groups=W.groups
theorem RelF.trans {A B C:Wld} (h:RelF A B) (k:RelF B C):RelF A C:=⟨k.n.trans h.n,k.c.trans h.c,k.t.trans h.t,k.g.trans h.g⟩
end Go.Proofs.YthhmnlcimojhlaaGreatDoor
namespace Go.Proofs.YthhmnlcimojhlaaGreatDoor
open Go.RowKit
set_option linter.unusedVariables false
set_option linter.unusedSimpArgs false
set_option maxRecDepth 10000
section
variable {W W':Wld} {m:MW} {w:World} {bar:Int}
structure Mn (base pb:Nat) (w0:World) (m0:MW) (w:World) (W:Wld) (m:MW):Prop where
 own:MWd 8 base w W m
 pt:w.heap[pb]? = some (.cells (encW W m).toArray ty_impl_World (0,0))
 pn:pb∉wBlks 8 m
 ext:ExtX (pb::wBlks 8 m0) w0 w
 sub:∀x∈wBlks 8 m,x∈wBlks 8 m0∨w0.heap.size≤x
section
variable {base pb:Nat} {w0 w':World} {m0 m':MW}
theorem Mn.start (h:PW base pb w W m):Mn base pb w m w W m:=⟨h.own,h.pt,h.pn,ExtX.refl _ _,fun _ hx=>.inl hx⟩
end
end
end Go.Proofs.YthhmnlcimojhlaaGreatDoor
namespace Go.Proofs.YthhmnlcimojhlaaGreatDoor
open Go.RowKit
set_option linter.unusedVariables false
set_option linter.unusedSimpArgs false
set_option maxRecDepth 10000
def weiS (W:Wld) (g c x:Int):Shf:={ shf W g c with v:=if (shf W g c).on=true then (shf W (gi W.groups g).parent c).floor+lagCut ((shf W g c).v - (shf W (gi W.groups g).parent c).floor) x else (shf W g c).v,w:=x }
def weiE (W:Wld) (g c:Int):Bool:=decide ((gi W.cpus c).cur≥0)&&insD 3 W.groups g (tkk W (gi W.cpus c).cur).group
def weiV (W:Wld) (g c x:Int):Wld:=setSh W g c (weiS W g c x)
def weiW (W:Wld) (g c x:Int):Wld:=if (shf W g c).w=x then W else if weiE (weiV W g c x) g c=true then endW (weiV W g c x) c else weiV W g c x
def CurU (W:Wld):Prop:=∀c:Int,0≤c→c<(W.cpus.length:Int)→(gi W.cpus c).cur≥0→usedD W.groups (tkk W (gi W.cpus c).cur).group=true
theorem curU_of {W:Wld} (wp:WldP W):CurU W:=fun c c0 c1 h=>by
 have hc:=wp.c c c0 c1
 have hy:=hc.yes h
 have hl:=hy.2.2.2.2.1
 have c2:=hc.c2
 have ht:=wp.a.t
 unfold lineD at hl
 simp only [Bool.and_eq_true,beq_iff_eq] at hl
 rcases wp.t (gi W.cpus c).cur h (by omega) with h1 | h1
 ·rw [h1.1] at hl; exact absurd hl.1 (by decide)
 ·exact h1.2.g
theorem CurU.setSh {W:Wld} (h:CurU W) {g c:Int} {s:Shf} (u0:0≤g) (u1:g<(W.groups.length:Int)):CurU (setSh W g c s):=fun d d0 d1 hc=>by
 rw [(treeC_setSh u0 u1).usd]
 exact h d d0 d1 hc
theorem CurU.endW {W:Wld} (h:CurU W) {c:Int} (c0:0≤c) (c1:c<(W.cpus.length:Int)):CurU (endW W c):=fun d d0 d1 hc=>by
 have d1:d<(((W.cpus.set c.toNat (endC (gi W.cpus c))).length:Nat):Int):=d1
 rw [List.length_set] at d1
 have hg:gi (Go.Proofs.YthhmnlcimojhlaaGreatDoor.endW W c).cpus d=if c=d then endC (gi W.cpus c) else gi W.cpus d:=gi_set _ _ c0 c1 d0
 rw [hg] at hc ⊢
 split at hc
 ·exact absurd hc (by show ¬(-1:Int)≥0; decide)
 ·rename_i hn
  rw [if_neg hn]
  exact h d d0 d1 hc
theorem weiV_ok {F K:Int} {W:Wld} (h:SF F K W) (hk:F+lagB≤K) {g c x:Int} (hu:usedD W.groups g=true) (hz:g≠0) (c0:0≤c) (c1:c<(W.cpus.length:Int)) (x1:1≤x) (x2:x≤20):SF F K (weiV W g c x):=by
 have hp:=h.w.a.up hu hz
 have s1:=h.w.s g c hu c0 c1
 have s2:=h.w.s _ c hp c0 c1
 have f1:=h.f g c hu c0 c1
 have f2:=h.f _ c hp c0 c1
 have lc:=lagCut_range ((shf W g c).v - (shf W (gi W.groups g).parent c).floor) x
 have lm:=lagMost_range x
 refine h.setSh hu c0 c1 s1.1 f1 (by show (shf W g c).floor≤K; omega) ?_ ?_ x1 x2
 ·simp only [weiS]; split <;> omega
 ·simp only [weiS]; simp only [lagB] at hk; split <;> omega
theorem weiW_ok {F K:Int} {W:Wld} (h:SF F K W) (hk:F+lagB≤K) (hc:CurU W) {g c x:Int} (hu:usedD W.groups g=true) (hz:g≠0) (c0:0≤c) (c1:c<(W.cpus.length:Int)) (x1:1≤x) (x2:x≤20):SF F K (weiW W g c x)∧Fr W (weiW W g c x)∧CurU (weiW W g c x):=by
 obtain ⟨u0,u1,_⟩:=usedD_iff.1 hu
 have hv:=weiV_ok h hk hu hz c0 c1 x1 x2
 have hf:Fr W (weiV W g c x):=(onlyS_set u0 u1).fr
 have hc2:CurU (weiV W g c x):=hc.setSh u0 u1
 unfold weiW
 split
 ·exact ⟨h,Fr.refl _,hc⟩
 ·split
  ·exact ⟨hv.endW c0 c1,hf.trans (fr_end _ _),hc2.endW c0 c1⟩
  ·exact ⟨hv,hf,hc2⟩
def weiN (W:Wld) (g x:Int):Nat→Wld
 | 0=>W
 | c+1=>weiW (weiN W g x c) g (c:Int) x
theorem weiN_ok {F K:Int} {W:Wld} (h:SF F K W) (hk:F+lagB≤K) (hc:CurU W) {g x:Int} (hu:usedD W.groups g=true) (hz:g≠0) (x1:1≤x) (x2:x≤20):∀c:Nat,c≤W.cpus.length→SF F K (weiN W g x c)∧Fr W (weiN W g x c)∧CurU (weiN W g x c)
 | 0,_=>⟨h,Fr.refl _,hc⟩
 | c+1,hn=>by
  obtain ⟨a,b,d⟩:=weiN_ok h hk hc hu hz x1 x2 c (by omega)
  obtain ⟨a2,b2,d2⟩:=weiW_ok a hk d (g:=g) (c:=(c:Int)) (x:=x) (by rw [b.g.usd]; exact hu) hz (by omega) (by rw [b.c]; omega) x1 x2
  exact ⟨a2,b.trans b2,d2⟩
def wghG (W:Wld) (g x:Int):Grp:={ gi W.groups g with weight:=x }
noncomputable def wghB (W:Wld) (g x:Int):Int:=grpB W g (inB x 1 20)
def wghW (W:Wld) (g x:Int):Wld:=settleD (weiN (setGr W g (wghG W g x)) g x W.cpus.length)
theorem wgh_sw {W:Wld} {g x:Int} (hW:worldB W=true) (hb:wghB W g x=0):inB x 1 20=true∧g≠0∧usedD W.groups g=true∧roomB W=true∧SF halfT (halfT+lagB) W∧SF halfT (halfT+lagB) (setGr W g (wghG W g x))∧CurU (setGr W g (wghG W g x))∧TreeC W.groups (setGr W g (wghG W g x)).groups:=by
 obtain ⟨h1,h2,h3,h4⟩:=grpB_ok hb
 have wp:=decB_t.1 hW
 have sw:=sw_of wp (decB_t.1 h4)
 obtain ⟨u0,u1,hg⟩:=wp.a.u h3
 have hx:=inB_t.1 h1
 have hl:=wp.a.gl
 have s1:=sw.setGr (x:=wghG W g x) h3 rfl rfl rfl rfl ⟨hx.1,hx.2,hg.m,hg.m0,hg.s,hg.len,fun h=>absurd h h2,hg.none,hg.band⟩
 have hT:TreeC W.groups (setGr W g (wghG W g x)).groups:=treeC_set u0 (by omega) rfl rfl rfl
 refine ⟨h1,h2,h3,h4,sw.sf.mono (Int.le_refl _) (by simp only [lagB]; decide),s1.sf.mono (Int.le_refl _) (by simp only [lagB]; decide),fun d d0 d1 hc => ?_,hT⟩
 rw [hT.usd]
 exact curU_of wp d d0 d1 hc
theorem sm_wgh {W:Wld} {g x:Int} (sm:SmW W) (hW:worldB W=true) (hb:wghB W g x=0):SmW (wghW W g x):=by
 obtain ⟨h1,h2,h3,_,_,h5,h6,h7⟩:=wgh_sw hW hb
 have hx:=inB_t.1 h1
 obtain ⟨a,b,_⟩:=weiN_ok h5 (Int.le_refl _) h6 (g:=g) (x:=x) (by rw [h7.usd]; exact h3) h2 hx.1 hx.2 W.cpus.length (Nat.le_refl _)
 exact sm_set sm a.w (by simp only [lagB]; decide) (h7.trans b.g)
theorem under_eq {gs:List Grp} (ht:TreeP gs) {g h:Int} (u1:usedD gs g=true) (u2:usedD gs h=true):underB gs g h=insD 3 gs g h:=by
 unfold underB
 rw [u1,u2,show treeB gs=true from @decide_eq_true _ (Classical.propDecidable _) ht]
 rfl
section
variable {base:Nat} {W W':Wld} {m:MW} {w:World} {bar:Int}
set_option maxHeartbeats 1000000 in
theorem k_spec_l11Weight {F K:Int} (h:MWd 8 base w W m) (hsw:SF F K W) (hk:F+lagB≤K) (hK:K≤1000000000000000000) (hcu:CurU W) {g c x:Int} (hu:usedD W.groups g=true) (hz:g≠0) (c0:0≤c) (c1:c<(W.cpus.length:Int)) :
  Calls Tryz.prog fn_spec_l11Weight #[.agg (encW W m).toArray,.int .i64 g,.int .i64 c,.int .i64 x] w fun e w'=>e = .returned (.agg (encW W m).toArray)∧Mv 8 base [] w m w' (weiW W g c x) m:=by
 refine (e_spec_l11Weight W.now m.cO W.cpus.length m.cC m.tO W.tasks.length m.tC m.gO W.groups.length m.gC g c x (R:=fun v w'=>v = .agg (encW W m).toArray∧Mv 8 base [] w m w' (weiW W g c x) m) ?_).mono fun e w' ⟨v,he,hv,h3⟩=>⟨by rw [he,hv],h3⟩
 intro y hy y1 hy1
 obtain ⟨u0,u1,_⟩:=usedD_iff.1 hu
 have hgl:=hsw.w.a.gl
 have htl:=hsw.w.a.t
 have hsl:=hsw.w.a.sl hu
 have hp:=hsw.w.a.up hu hz
 obtain ⟨p0,p1,_⟩:=usedD_iff.1 hp
 have hpl:=hsw.w.a.sl hp
 have s1:=hsw.w.s g c hu c0 c1
 have s2:=hsw.w.s _ c hp c0 c1
 have lc:=lagCut_range ((shf W g c).v - (shf W (gi W.groups g).parent c).floor) x
 have lm:=lagMost_range x
 have hM:=Mv.two h hy hy1
 have hr:=(Mv.start h).rd
 have hix:=hr.g.ix (i:=g) u0 u1
 have hixS:=(hr.g.shelves g u0 u1).ix encS_c c0 (by omega)
 have hcx:=hr.c.ix encC_c c0 c1
 have hwr:=wrS h (by simp) (i:=g) (bs:=[]) u0 (by omega) c0 (by omega) (j:=0) (k:=5) (by decide)
 have hcr:=hsw.w.cu c c0 c1
 have cur1:decide ((gi W.cpus c).cur≥0)=true→(gi W.cpus c).cur<(W.tasks.length:Int):=fun _=>by omega
 have hT:TreeC W.groups (weiV W g c x).groups:=treeC_setSh u0 u1
 have hE:(decide ((gi W.cpus c).cur≥0)&&underB (weiV W g c x).groups g (gi W.tasks (gi W.cpus c).cur).group)=weiE (weiV W g c x) g c:=by
  unfold weiE
  show _=(decide ((gi W.cpus c).cur≥0)&&insD 3 (weiV W g c x).groups g (tkk W (gi W.cpus c).cur).group)
  by_cases hc:(gi W.cpus c).cur≥0
  ·rw [under_eq (hT.tree hsw.w.a.tree) (by rw [hT.usd]; exact hu) (by rw [hT.usd]; exact hcu c c0 c1 hc)]; rfl
  ·rw [decide_eq_false hc]; rfl
 have hlen:(weiV W g c x).groups.length=W.groups.length:=hT.len
 have hfr:Fr W (weiV W g c x):=(onlyS_set u0 u1).fr
 have eW:encW (weiV W g c x) m=encW W m:=encW_fr hfr
 have eE:encW (endW (weiV W g c x) c) m=encW W m:=encW_fr (hfr.trans (fr_end _ _))
 refine ⟨hix,_,_,_,hr.g.shelf u0 u1,hixS,_,_,_,_,_,(hr.g.shelves g u0 u1) c c0 (by omega),fun b2 hb2=>⟨fun g1 wr hx=>⟨rfl,?_⟩,fun g1=>⟨fun g2 => ?_,fun g2 => ?_⟩⟩⟩
 ·have g1:(shf W g c).w=x:=eq_of_beq g1
  unfold weiW
  rw [if_pos g1]
  exact (Mv.start h).call0 hx
 ·have hss:weiS W g c x=⟨(shf W g c).floor,(shf W g c).on,(shf W (gi W.groups g).parent c).floor+lagCut ((shf W g c).v - (shf W (gi W.groups g).parent c).floor) x,x,(shf W g c).sum⟩:=by
   unfold weiS
   rw [if_pos (show (shf W g c).on=true from g2)]
  have hset:=line_set hsw h hk hu rfl c0 c1 (weiS W g c x)
  rw [hss] at hset
  have hM2:=((hM.add hb2).deed hset (subS (by omega)))
  have hV:setSh W g c ⟨(shf W g c).floor,(shf W g c).on,(shf W (gi W.groups g).parent c).floor+lagCut ((shf W g c).v - (shf W (gi W.groups g).parent c).floor) x,x,(shf W g c).sum⟩=weiV W g c x:=by unfold weiV; rw [hss]
  rw [hV] at hM2
  have hr2:=hM2.rd
  have hM2':=hM2.close
  have hr0:=hM2'.rd
  refine ⟨hix,_,hr.g.parent u0 u1,hr.g.ix p0 p1,_,_,_,hr.g.shelf p0 p1,(hr.g.shelves _ p0 p1).ix encS_c c0 (by omega),_,RdS.f (hr.g.shelves _ p0 p1) c0 (by omega) (j:=0) rfl,⟨by show _≤(shf W g c).v - (shf W (gi W.groups g).parent c).floor; omega,by show (shf W g c).v - (shf W (gi W.groups g).parent c).floor≤_; omega⟩,_,k_spec_LagCut,⟨by show _≤(shf W (gi W.groups g).parent c).floor+lagCut ((shf W g c).v - (shf W (gi W.groups g).parent c).floor) x; omega,by show (shf W (gi W.groups g).parent c).floor+lagCut ((shf W g c).v - (shf W (gi W.groups g).parent c).floor) x≤_; omega⟩,hix,_,_,_,hr.g.shelf u0 u1,hixS,hwr,hcx,(gi W.cpus c).cur,?_⟩
  refine ⟨RdC.f hr0.c c0 c1 (j:=1) rfl,fun gc=>hr0.t.ix encT_c (of_decide_eq_true gc) (cur1 gc),_,fun gc=>RdT.f hr0.t (of_decide_eq_true gc) (cur1 gc) (j:=1) rfl,_,fun gc=>by rw [←hlen]; exact k_spec_TreeUnder hr0.g (by have:=maxLen_big; omega),fun gc wr1 hx3 hs3 => ?_,fun gc wr3 hx3 => ?_⟩
  ·have he:weiE (weiV W g c x) g c=true:=by rw [←hE]; exact gc
   have hM3:=hM2.step (hx3.of_nil)
   have hcall:=k_spec_l8End hM3.own c0 c1
   rw [eW,eE] at hcall
   refine Calls.mono hcall ?_
   rintro e wv ⟨he1,hy2⟩
   refine ⟨_,_,_,_,_,_,_,_,_,_,he1,hM3.kept hy2 hs3,fun wr2 hx4=>⟨rfl,?_⟩⟩
   unfold weiW
   rw [if_neg (show ¬(shf W g c).w=x from ne_of_beq_false g1),if_pos he]
   exact ((hM3.call hy2 hs3).step hx4).close
  ·have he:weiE (weiV W g c x) g c=false:=by rw [←hE]; exact gc
   refine ⟨rfl,?_⟩
   unfold weiW
   rw [if_neg (show ¬(shf W g c).w=x from ne_of_beq_false g1),if_neg (by rw [he]; decide)]
   exact (hM2.step hx3.of_nil).close
 ·have hss:weiS W g c x=⟨(shf W g c).floor,(shf W g c).on,(shf W g c).v,x,(shf W g c).sum⟩:=by
   unfold weiS
   rw [if_neg (by rw [show (shf W g c).on=false from g2]; decide)]
  have hset:=line_set hsw h hk hu rfl c0 c1 (weiS W g c x)
  rw [hss] at hset
  have hM2:=((hM.add hb2).deed hset (subS (by omega)))
  have hV:setSh W g c ⟨(shf W g c).floor,(shf W g c).on,(shf W g c).v,x,(shf W g c).sum⟩=weiV W g c x:=by unfold weiV; rw [hss]
  rw [hV] at hM2
  have hr2:=hM2.rd
  have hM2':=hM2.close
  have hr0:=hM2'.rd
  refine ⟨hix,_,_,_,hr.g.shelf u0 u1,hixS,hwr,hcx,(gi W.cpus c).cur,?_⟩
  refine ⟨RdC.f hr0.c c0 c1 (j:=1) rfl,fun gc=>hr0.t.ix encT_c (of_decide_eq_true gc) (cur1 gc),_,fun gc=>RdT.f hr0.t (of_decide_eq_true gc) (cur1 gc) (j:=1) rfl,_,fun gc=>by rw [←hlen]; exact k_spec_TreeUnder hr0.g (by have:=maxLen_big; omega),fun gc wr1 hx3 hs3 => ?_,fun gc wr3 hx3 => ?_⟩
  ·have he:weiE (weiV W g c x) g c=true:=by rw [←hE]; exact gc
   have hM3:=hM2.step (hx3.of_nil)
   have hcall:=k_spec_l8End hM3.own c0 c1
   rw [eW,eE] at hcall
   refine Calls.mono hcall ?_
   rintro e wv ⟨he1,hy2⟩
   refine ⟨_,_,_,_,_,_,_,_,_,_,he1,hM3.kept hy2 hs3,fun wr2 hx4=>⟨rfl,?_⟩⟩
   unfold weiW
   rw [if_neg (show ¬(shf W g c).w=x from ne_of_beq_false g1),if_pos he]
   exact ((hM3.call hy2 hs3).step hx4).close
  ·have he:weiE (weiV W g c x) g c=false:=by rw [←hE]; exact gc
   refine ⟨rfl,?_⟩
   unfold weiW
   rw [if_neg (show ¬(shf W g c).w=x from ne_of_beq_false g1),if_neg (by rw [he]; decide)]
   exact (hM2.step hx3.of_nil).close
theorem k_spec_GroupWeigh {g x:Int} (h:RdW [] w W m) (hl:LenW W) :
  Calls Tryz.prog fn_spec_GroupWeigh #[.agg (encW W m).toArray,.int .i64 g,.int .i64 x] w fun e w'=>∃v,e = .returned v∧AnsW (ansD W (wghB W g x) (wghW W g x)) w v w':=by
 refine e_spec_GroupWeigh W.now m.cO W.cpus.length m.cC m.tO W.tasks.length m.tC m.gO W.groups.length m.gC g x (R:=fun v w'=>AnsW (ansD W (wghB W g x) (wghW W g x)) w v w') ?_
 intro y hy y1 hy1
 refine ⟨_,k_spec_l1Weight,fun wr hx2 hs2 => ?_⟩
 refine Calls.mono (k_spec_l11Begin (g:=g) (ok:=inB x 1 20) (h.ext hx2) hl) ?_
 rintro e wv (⟨hW,he,hy2⟩ | ⟨hW,m',he,hM,hy2⟩)
 ·exact ⟨_,_,_,_,_,_,_,_,_,_,_,he,kept_of hy2 hs2,fun _ wr1 hx3=>AnsW.bad hW ((hx2.trans hy2).fresh hx3 fun z hm=>.inl (two_new hy hy1 z hm)),fun g=>by simp at g⟩
 have hK:=Wk.begin hy hy1 hx2 hs2 hM hy2
 refine ⟨_,_,_,_,_,_,_,_,_,_,_,he,kept_of hy2 hs2,fun g1 wr1 hx3=>AnsW.no hW (by simpa [wghB] using g1) (hK.step hx3) rfl,fun g1 => ?_⟩
 have hb:wghB W g x=0:=by simpa [wghB] using g1
 have hr:=hK.rd
 obtain ⟨hix1,hz,hu,hroom,_,sf,hcu,hT⟩:=wgh_sw hW hb
 have hxr:=inB_t.1 hix1
 obtain ⟨u0,u1,_⟩:=usedD_iff.1 hu
 have hgl:W.groups.length=8:=by have:=sf.w.a.gl; rwa [hT.len] at this
 have hix:=hr.g.ix (i:=g) u0 u1
 have hset:Wk 8 [y,y1] w (sto wv m'.gO (Int.toNat g*14+3) [.int .i64 x]) (setGr W g (wghG W g x)) m':=hK.sto (hK.own.stoG0 u0 (by omega) (g:=wghG W g x) rfl rfl rfl (j:=3) (vs:=[.int .i64 x]) rfl (by simp)) subG
 have hwr:=wrG hK.own hK.nb (i:=g) u0 (by omega) (j:=3) (k:=1) (by decide)
 have e0:encW (setGr W g (wghG W g x)) m'=encW W m':=by simp [encW,setGr]
 have huV:usedD (setGr W g (wghG W g x)).groups g=true:=by rw [hT.usd]; exact hu
 have hcl:(setGr W g (wghG W g x)).cpus.length=W.cpus.length:=rfl
 have hE:wghW W g x=settleD (weiN (setGr W g (wghG W g x)) g x W.cpus.length):=rfl
 rw [hE]
 have hc4:=sf.w.a.c2
 generalize setGr W g (wghG W g x)=V at hset sf hcu hT e0 huV hcl hc4
 refine ⟨hix,hwr,fun vs w1=>∃(k:Nat),vs = .int .i64 (k:Int)::encW W m'∧k≤W.cpus.length∧Wk 8 [y,y1] w w1 (weiN V g x k) m',cntMw W.cpus.length 0,fun w1 hx0 _=>⟨0,rfl,Nat.zero_le _,hset.step hx0⟩,?_⟩
 rintro c1 l l1O l1L l1C l2O l2L l2C l3O l3L l3C wv2 hs3 ⟨k,he2,hk,hK2⟩
 obtain ⟨hS,hf,hc2⟩:=weiN_ok sf (Int.le_refl _) hcu huV hz hxr.1 hxr.2 k (by omega)
 have hdef:weiN V g x (k+1)=weiW (weiN V g x k) g (k:Int) x:=rfl
 have hend:k=W.cpus.length→weiN V g x W.cpus.length=weiN V g x k:=fun e=>by rw [e]
 have eU:encW (weiN V g x k) m'=encW W m':=(encW_fr hf).trans e0
 have hcU:=hf.c
 have huU:usedD (weiN V g x k).groups g=true:=by rw [hf.g.usd]; exact huV
 simp only [encW,List.cons.injEq,Value.int.injEq,Value.slice.injEq,true_and,and_true] at he2
 obtain ⟨rfl,rfl,⟨rfl,rfl,rfl⟩,⟨rfl,rfl,rfl⟩,rfl,rfl,rfl⟩:=he2
 generalize weiN V g x k=U at hK2 hS hf hc2 hdef hend eU hcU huU
 refine ⟨fun hlt wr3 hx3 hs4 => ?_,fun hge wr5 hx5 hs5 => ?_⟩
 ·have hlt:=of_decide_eq_true hlt
  have hK3:=hK2.step hx3
  have hcall:=k_spec_l11Weight hK3.own hS (Int.le_refl _) (by simp only [lagB]; decide) hc2 (g:=g) (c:=(k:Int)) (x:=x) huU hz (by omega) (by omega)
  rw [eU] at hcall
  refine Calls.mono hcall ?_
  rintro e wv3 ⟨he3,hy3⟩
  refine ⟨_,_,_,_,_,_,_,_,_,_,he3,hK3.kept hy3 hs4,⟨by omega,by omega⟩,fun wr4 hx4 _=>⟨⟨k+1,rfl,by omega,?_⟩,?_⟩⟩
  ·rw [hdef]
   exact (hK3.deed hy3 hs4).step hx4
  ·simp only [cntMw,cntM,ctrAt,List.getElem?_cons_zero]; omega
 ·have hge:=of_decide_eq_false hge
  rw [hend (by omega)]
  have hK5:=hK2.step hx5
  have hcall:=k_spec_l8Settle hK5.own hS.w (by simp only [lagB]; decide) (by simp only [lagB]; decide) hK5.base
  rw [eU] at hcall
  refine Calls.mono hcall ?_
  rintro e2 wv2 ⟨m2,he2,hy2⟩
  exact ⟨_,_,_,_,_,_,_,_,_,_,he2,hK5.kept hy2 hs5,fun wr4 hx5=>AnsW.ok hW hb ((hK5.deed hy2 hs5).step hx5)⟩
section
variable {pb:Nat}
theorem k_impl_weighs {F K:Int} (h:PW base pb w W m) (hsw:SF F K W) (hk:F+lagB≤K) (hK:K≤1000000000000000000) (hcu:CurU W) {g c x:Int} (hu:usedD W.groups g=true) (hz:g≠0) (c0:0≤c) (c1:c<(W.cpus.length:Int)) :
  Calls Tryz.prog fn_impl_lane_weighs #[.agg #[.pointer (pA pb),.int .i64 c],.int .i64 g,.int .i64 x] w fun e w'=>e = .returned (.tuple #[])∧Mp base pb [] w m w' (weiW W g c x) m:=by
 refine (e_impl_lane_weighs (pA pb) c g x (R:=fun v w'=>v = .tuple #[]∧Mp base pb [] w m w' (weiW W g c x) m) ?_).mono fun e w' ⟨v,he,hv,h3⟩=>⟨by rw [he,hv],h3⟩
 intro b hb
 obtain ⟨u0,u1,_⟩:=usedD_iff.1 hu
 have hgl:=hsw.w.a.gl
 have htl:=hsw.w.a.t
 have hsl:=hsw.w.a.sl hu
 have hp:=hsw.w.a.up hu hz
 obtain ⟨p0,p1,_⟩:=usedD_iff.1 hp
 have hpl:=hsw.w.a.sl hp
 have s1:=hsw.w.s g c hu c0 c1
 have s2:=hsw.w.s _ c hp c0 c1
 have lc:=lagCut_range ((shf W g c).v - (shf W (gi W.groups g).parent c).floor) x
 have lm:=lagMost_range x
 have hM:=Mp.start h
 have hpt:=hM.wpt
 have hcr:=hsw.w.cu c c0 c1
 have hsome:=(hpt.sh u0 u1 c0 (c:=c) (by omega)).1
 have hcell:=fun {j:Nat} {v:Value} hj=>(hpt.sh u0 u1 c0 (c:=c) (by omega)).2 (j:=j) (v:=v) hj
 have hfr:Fr W (setSh W g c { shf W g c with w:=x }):=(onlyS_set u0 u1).fr
 have hset1:=hM.own.shSto (k:=g) (c:=c) u0 (by omega) c0 (by omega) (j:=3) (vs:=[.int .i64 x]) (s:={ shf W g c with w:=x }) rfl (by simp)
 have hM1:=hM.deed hset1 (subSh u0 (by omega)) (encW_fr hfr)
 have hT1:TreeC W.groups (setSh W g c { shf W g c with w:=x }).groups:=treeC_setSh u0 u1
 refine ⟨_,k_impl_shelf hpt u0 u1 c0 (by omega),hsome,_,hcell (j:=3) rfl,fun g1 wr hx=>⟨rfl,?_⟩,fun g1=>⟨hsome,hM.own.shWr (by simp) u0 (by omega) c0 (by omega) (by decide),hsome,?_⟩⟩
 ·have g1:(shf W g c).w=x:=eq_of_beq g1
  unfold weiW
  rw [if_pos g1]
  exact hM.nil hx
 have hp1:=hM1.wpt
 have hM1b:=(hM.add hb).deed hset1 (subSh u0 (by omega)) (encW_fr hfr)
 have hl1:(setSh W g c { shf W g c with w:=x }).groups.length=W.groups.length:=hT1.len
 have e1:shf (setSh W g c { shf W g c with w:=x }) g c={ shf W g c with w:=x }:=by rw [shf_setSh u0 u1 c0 (by omega) u0 c0,if_pos ⟨rfl,rfl⟩]
 have hs1:(gi (setSh W g c { shf W g c with w:=x }).groups g).shelves.length=(gi W.groups g).shelves.length:=shl_setSh u0 u1 u0
 have hcell1:=fun {j:Nat} {v:Value} hj=>(hp1.sh u0 (by omega) c0 (c:=c) (by omega)).2 (j:=j) (v:=v) hj
 rw [e1] at hcell1
 refine ⟨_,hcell1 (j:=1) rfl,fun g2 => ?_,fun g2 => ?_⟩
 ·have hss:weiS W g c x={ shf W g c with v:=(shf W (gi W.groups g).parent c).floor+lagCut ((shf W g c).v - (shf W (gi W.groups g).parent c).floor) x,w:=x }:=by
   unfold weiS
   rw [if_pos (show (shf W g c).on=true from g2)]
  have ep:(gi (setSh W g c { shf W g c with w:=x }).groups g).parent=(gi W.groups g).parent:=hT1.p g
  have hsp:(gi (setSh W g c { shf W g c with w:=x }).groups (gi W.groups g).parent).shelves.length=(gi W.groups (gi W.groups g).parent).shelves.length:=shl_setSh u0 u1 p0
  have e2:(shf (setSh W g c { shf W g c with w:=x }) (gi W.groups g).parent c).floor=(shf W (gi W.groups g).parent c).floor:=by
   rw [shf_setSh u0 u1 c0 (by omega) p0 c0]
   split
   ·rename_i h
    rw [←h.1]
   ·rfl
  have hpc:=hp1.rd.g.parent (i:=g) u0 (by omega)
  rw [ep] at hpc
  have hsp2:=hp1.sh (g:=(gi W.groups g).parent) (c:=c) p0 (by omega) c0 (by omega)
  have hfl:=hsp2.2 (j:=0) rfl
  rw [e2] at hfl
  have hset2:=hM1.own.shSto (k:=g) (c:=c) u0 (by omega) c0 (by omega) (j:=2) (vs:=[.int .i64 ((shf W (gi W.groups g).parent c).floor+lagCut ((shf W g c).v - (shf W (gi W.groups g).parent c).floor) x)]) (s:=weiS W g c x) (by rw [e1,hss]; rfl) (by simp)
  have hfr2:Fr (setSh W g c { shf W g c with w:=x }) (setSh (setSh W g c { shf W g c with w:=x }) g c (weiS W g c x)):=(onlyS_set u0 (by omega)).fr
  have hM2:=hM1.deed hset2 (subSh u0 (by omega)) (encW_fr hfr2)
  have hM2b:=hM1b.deed hset2 (subSh u0 (by omega)) (encW_fr hfr2)
  rw [setSh_set u0 u1] at hM2 hM2b
  refine ⟨hpt.some,_,_,_,hp1.groups,hp1.rd.g.ix u0 (by omega),_,hpc,_,k_impl_shelf hp1 p0 (by omega) c0 (by omega),hsp2.1,_,hfl,hsome,_,hcell1 (j:=2) rfl,⟨by show _≤(shf W g c).v - (shf W (gi W.groups g).parent c).floor; omega,by show (shf W g c).v - (shf W (gi W.groups g).parent c).floor≤_; omega⟩,_,k_impl_LagCut,⟨by show _≤(shf W (gi W.groups g).parent c).floor+lagCut ((shf W g c).v - (shf W (gi W.groups g).parent c).floor) x; omega,by show (shf W (gi W.groups g).parent c).floor+lagCut ((shf W g c).v - (shf W (gi W.groups g).parent c).floor) x≤_; omega⟩,hsome,hM1.own.shWr (by simp) u0 (by omega) c0 (by omega) (by decide),?_⟩
  have hM2:Mp base pb [] w m _ (weiV W g c x) m:=hM2
  have hM2b:Mp base pb ([]++[b]) w m _ (weiV W g c x) m:=hM2b
  have hp2:=hM2.wpt
  have hT2:TreeC W.groups (weiV W g c x).groups:=treeC_setSh u0 u1
  have hc2:=hp2.rd.c c c0 c1
  have hEq:((gi W.cpus c).cur != -1&&insD 3 (weiV W g c x).groups g (gi W.tasks (gi W.cpus c).cur).group)=weiE (weiV W g c x) g c:=by
   unfold weiE
   show _=(decide ((gi W.cpus c).cur≥0)&&insD 3 (weiV W g c x).groups g (tkk W (gi W.cpus c).cur).group)
   rw [show ((gi W.cpus c).cur != -1)=decide ((gi W.cpus c).cur≥0) by rw [Bool.eq_iff_iff]; simp; omega]
   rfl
  have c0':((gi W.cpus c).cur != -1)=true→0≤(gi W.cpus c).cur∧(gi W.cpus c).cur<(W.tasks.length:Int):=fun gc=>by
   have:(gi W.cpus c).cur≠-1:=by simpa using gc
   omega
  refine ⟨_,k_impl_cpu hp2 c0 c1,some_atW hc2,_,cell_atW hc2 (j:=1) rfl,fun _=>hp2.some,_,_,_,fun _=>hp2.groups,fun _=>hp2.some,_,_,_,fun _=>hp2.tasks,fun gc=>hp2.rd.t.ix encT_c (c0' gc).1 (c0' gc).2,_,fun gc=>RdT.f hp2.rd.t (c0' gc).1 (c0' gc).2 (j:=1) rfl,_,fun gc=>k_impl_inside hp2.rd.g (hT2.tree hsw.w.a.tree) (by rw [hT2.usd]; exact hcu c c0 c1 (c0' gc).1),fun gc wr1 hx1 hs1 => ?_,fun gc wr3 hx3=>⟨rfl,?_⟩⟩
  ·have he:weiE (weiV W g c x) g c=true:=by rw [←hEq]; exact gc
   have hM3:=hM2b.call0 hx1
   refine Calls.mono (k_impl_endSliceW hM3.pw c0 c1) ?_
   rintro e wv ⟨he1,hy⟩
   refine ⟨he1,hM3.kept hy hs1,fun wr2 hx2=>⟨rfl,?_⟩⟩
   unfold weiW
   rw [if_neg (show ¬(shf W g c).w=x from ne_of_beq_false g1),if_pos he]
   exact ((hM3.call hy hs1).step hx2).close
  ·have he:weiE (weiV W g c x) g c=false:=by rw [←hEq]; exact gc
   unfold weiW
   rw [if_neg (show ¬(shf W g c).w=x from ne_of_beq_false g1),if_neg (by rw [he]; decide)]
   exact hM2.nil hx3
 ·have hss:weiS W g c x={ shf W g c with w:=x }:=by
   unfold weiS
   rw [if_neg (by rw [show (shf W g c).on=false from g2]; decide)]
  have hM2:Mp base pb [] w m (sto w (shO m g c) (0+3) [.int .i64 x]) (weiV W g c x) m:=by unfold weiV; rw [hss]; exact hM1
  have hM2b:Mp base pb ([]++[b]) w m (sto w (shO m g c) (0+3) [.int .i64 x]) (weiV W g c x) m:=by unfold weiV; rw [hss]; exact hM1b
  have hp2:=hM2.wpt
  have hT2:TreeC W.groups (weiV W g c x).groups:=treeC_setSh u0 u1
  have hc2:=hp2.rd.c c c0 c1
  have hEq:((gi W.cpus c).cur != -1&&insD 3 (weiV W g c x).groups g (gi W.tasks (gi W.cpus c).cur).group)=weiE (weiV W g c x) g c:=by
   unfold weiE
   show _=(decide ((gi W.cpus c).cur≥0)&&insD 3 (weiV W g c x).groups g (tkk W (gi W.cpus c).cur).group)
   rw [show ((gi W.cpus c).cur != -1)=decide ((gi W.cpus c).cur≥0) by rw [Bool.eq_iff_iff]; simp; omega]
   rfl
  have c0':((gi W.cpus c).cur != -1)=true→0≤(gi W.cpus c).cur∧(gi W.cpus c).cur<(W.tasks.length:Int):=fun gc=>by
   have:(gi W.cpus c).cur≠-1:=by simpa using gc
   omega
  refine ⟨_,k_impl_cpu hp2 c0 c1,some_atW hc2,_,cell_atW hc2 (j:=1) rfl,fun _=>hp2.some,_,_,_,fun _=>hp2.groups,fun _=>hp2.some,_,_,_,fun _=>hp2.tasks,fun gc=>hp2.rd.t.ix encT_c (c0' gc).1 (c0' gc).2,_,fun gc=>RdT.f hp2.rd.t (c0' gc).1 (c0' gc).2 (j:=1) rfl,_,fun gc=>k_impl_inside hp2.rd.g (hT2.tree hsw.w.a.tree) (by rw [hT2.usd]; exact hcu c c0 c1 (c0' gc).1),fun gc wr1 hx1 hs1 => ?_,fun gc wr3 hx3=>⟨rfl,?_⟩⟩
  ·have he:weiE (weiV W g c x) g c=true:=by rw [←hEq]; exact gc
   have hM3:=hM2b.call0 hx1
   refine Calls.mono (k_impl_endSliceW hM3.pw c0 c1) ?_
   rintro e wv ⟨he1,hy⟩
   refine ⟨he1,hM3.kept hy hs1,fun wr2 hx2=>⟨rfl,?_⟩⟩
   unfold weiW
   rw [if_neg (show ¬(shf W g c).w=x from ne_of_beq_false g1),if_pos he]
   exact ((hM3.call hy hs1).step hx2).close
  ·have he:weiE (weiV W g c x) g c=false:=by rw [←hEq]; exact gc
   unfold weiW
   rw [if_neg (show ¬(shf W g c).w=x from ne_of_beq_false g1),if_neg (by rw [he]; decide)]
   exact hM2.nil hx3
theorem k_GroupWeigh_1 {cap cap1:Option Addr} {g x:Int} (h:PW base pb w W m) (hW:worldB W=true) (hok:inB x 1 20=true) (hz:g≠0) (hu:usedD W.groups g=true)
  (hcw:∀w' W' m',Mp base pb [] w m w' W' m'→CellsX [] w' cap 0 [.int .i64 x]∧CellsX [] w' cap1 0 [.int .i64 g]) :
  Calls Tryz.prog fn_impl_GroupWeigh_1 #[.pointer (pA pb),.pointer cap,.pointer cap1] w fun e w2=>GrpA base pb W (wghW W g x) m w e w2:=by
 have wp:=decB_t.1 hW
 have hM:=Mp.start h
 have hp:=hM.wpt
 obtain ⟨c0,c1⟩:=hcw _ _ _ hM
 refine (e_impl_GroupWeigh_1 (pA pb) cap cap1 (R:=fun v w2=>(roomB W=false∧v = .iface ty_impl_refusal (.agg #[.int .i64 10])∧ExtX [] w w2)∨(roomB W=true∧v = .nilIface∧∃m2,Done base pb [] w m w2 (wghW W g x) m2)) ?_).mono fun e w' ⟨v,he,h3⟩=>by
  rw [he]
  rcases h3 with ⟨a,b,c⟩ | ⟨a,b,c⟩
  ·exact .inl ⟨a,by rw [b],c⟩
  ·exact .inr ⟨a,by rw [b],c⟩
 refine ⟨_,k_impl_roomW hp wp.a,fun g3 wr hx=>.inl ⟨by simpa using g3,rfl,hx⟩,fun g3 => ?_⟩
 have g3:roomB W=true:=by simpa using g3
 have hb:wghB W g x=0:=by unfold wghB grpB; rw [if_neg (by rintro (e | e); (rw [hok] at e; cases e); exact hz e),if_neg (by rw [hu]; decide),if_neg (by rw [g3]; decide)]
 obtain ⟨_,_,_,_,_,sf,hcu,hT⟩:=wgh_sw hW hb
 have hxr:=inB_t.1 hok
 obtain ⟨u0,u1,_⟩:=usedD_iff.1 hu
 have hgl:W.groups.length=8:=by have:=sf.w.a.gl; rwa [hT.len] at this
 have hM1:=hM.grf u0 (by omega) (G:=wghG W g x) (j:=3) (vs:=[.int .i64 x]) rfl rfl rfl rfl (by simp)
 have hp1:=hM1.wpt
 have huV:usedD (setGr W g (wghG W g x)).groups g=true:=by rw [hT.usd]; exact hu
 have hcl:(setGr W g (wghG W g x)).cpus.length=W.cpus.length:=rfl
 have hE:wghW W g x=settleD (weiN (setGr W g (wghG W g x)) g x W.cpus.length):=rfl
 rw [hE]
 have hc4:=sf.w.a.c2
 refine ⟨hp.some,_,_,_,hp.groups,g,c1,x,c0,hp.rd.g.ix u0 u1,wrG hM.own hM.nb u0 (by omega) (j:=3) (by decide),hp.some,_,_,_,hp1.cpus,?_⟩
 generalize setGr W g (wghG W g x)=V at hM1 sf hcu hT huV hcl hc4 hp1
 rw [hcl]
 refine loop1w W.cpus.length 0 rfl (fun k w2=>k≤W.cpus.length∧Mp base pb [] w m w2 (weiN V g x k) m) (fun w2 hx2 _=>⟨Nat.zero_le _,hM1.nil hx2⟩) fun k w2 hs2 ⟨hk,hM2⟩ => ?_
 obtain ⟨hS,hf,hc2⟩:=weiN_ok sf (Int.le_refl _) hcu huV hz hxr.1 hxr.2 k (by omega)
 have hdef:weiN V g x (k+1)=weiW (weiN V g x k) g (k:Int) x:=rfl
 have hend:k=W.cpus.length→weiN V g x W.cpus.length=weiN V g x k:=fun e=>by rw [e]
 have hcU:=hf.c
 have huU:usedD (weiN V g x k).groups g=true:=by rw [hf.g.usd]; exact huV
 generalize weiN V g x k=U at hM2 hS hf hc2 hdef hend hcU huU
 obtain ⟨d0,d1⟩:=hcw _ _ _ hM2
 refine ⟨fun hlt=>⟨_,_,k_impl_lane,g,d1,x,d0,fun wr2 hx2 _ => ?_⟩,fun hge wr4 hx4 _ => ?_⟩
 ·have hlt:=of_decide_eq_true hlt
  have hM3:=hM2.nil hx2
  refine Calls.mono (k_impl_weighs hM3.pw hS (Int.le_refl _) (by simp only [lagB]; decide) hc2 (g:=g) (c:=(k:Int)) (x:=x) huU hz (by omega) (by omega)) ?_
  rintro e wv ⟨he,hy⟩
  refine ⟨he,kept_nil,⟨by omega,by omega⟩,fun wr3 hx3 _=>loop1w_next (by omega) ⟨by omega,?_⟩⟩
  rw [hdef]
  exact (hM3.call hy (by simp)).nil hx3
 ·have hge:=of_decide_eq_false hge
  rw [hend (by omega)]
  have hM4:=hM2.nil hx4
  refine Calls.mono (k_impl_settle hM4.pw hS.w (by simp only [lagB]; decide) (by simp only [lagB]; decide)) ?_
  rintro e1 wv2 ⟨he1,hy1⟩
  exact ⟨he1,kept_nil,fun wr5 hx5=>.inr ⟨g3,rfl,_,((hM4.call hy1 (by simp)).nil hx5).done⟩⟩
theorem k_impl_GroupWeigh {g x:Int} (h:RdW [] w W m) (hl:LenW W) (hg:GlobE w) :
  Calls Tryz.prog fn_impl_GroupWeigh #[.agg (encW W m).toArray,.int .i64 g,.int .i64 x] w fun e w'=>∃v,e = .returned v∧AnsW (ansD W (wghB W g x) (wghW W g x)) w v w':=by
 refine e_impl_GroupWeigh W.now m.cO W.cpus.length m.cC m.tO W.tasks.length m.tC m.gO W.groups.length m.gC g x (R:=fun v w'=>AnsW (ansD W (wghB W g x) (wghW W g x)) w v w') ?_
 intro y hy b1 wb hx1 hb1 hc hn b2 wb1 hxb hb2 hc2 hn2 b3 hb3
 have hX0:ExtX [] w wb1:=hx1.fresh hxb fun z hz=>.inl (le_mem1 hz hy)
 have c1:=blk_ext hc hxb hn
 have two:∀z∈[y,b3],w.heap.size≤z:=fun z hm=>by
  simp only [List.mem_cons,List.not_mem_nil,or_false] at hm
  rcases hm with rfl | rfl
  ·exact hy
  ·exact Nat.le_trans hX0.size hb3
 refine ⟨g,cellX_blk c1 hn (k0:=0) rfl,x,cellX_blk hc2 hn2 (k0:=0) rfl,_,k_impl_weightOk,fun wr hx2 hs => ?_⟩
 have f1:=blk_ext c1 hx2 hn
 have f2:=blk_ext hc2 hx2 hn2
 have hX:=hX0.fresh hx2 fun z hz=>.inl (le_mem1 hz hy)
 have cell:∀{b base pb:Nat} {v:Value} {t:TypeId} {w1 w9:World} {W9:Wld} {m1 m9:MW},wr.heap[b]? = some (Obj.cells ([v]:List Value).toArray t (0,0))→ExtX [] wr w1→wr.heap.size≤base→base≤pb→PW base pb w1 W m1→Mp base pb [] w1 m1 w9 W9 m9→CellsX [] w9 (some ⟨b,0,none⟩) 0 [v]:=fun hb hx h1 h2 hP hM9=>cellX_blk (cap_out hP (Nat.lt_of_lt_of_le (blk_lt hb) h1) h2 (blk_ext hb hx (by simp)) hM9) (by simp) (k0:=0) rfl
 refine Calls.mono (k_attemptGroup (W':=wghW W g x) (g:=g) (ok:=inB x 1 20) (h.ext hX) hl (hg.ext hX) fun base pb w1 m1 hW hok hz hu hx3 hbs hpb hP=>.inl ⟨fn_impl_GroupWeigh_1,_,rfl,k_GroupWeigh_1 hP hW hok hz hu fun w9 W9 m9 hM9=>⟨cell f2 hx3 hbs hpb hP hM9,cell f1 hx3 hbs hpb hP hM9⟩⟩) ?_
 rintro e wv ⟨v,he,n',m',hv,hM,hy2⟩
 subst hv
 exact ⟨_,_,_,_,_,_,_,_,_,_,_,he,kept_of hy2 hs,fun wr1 hx4=>⟨n',m',rfl,(hM.ext hx4 fun z hz hm=>by
  have:=(hM.lt z hz).1
  have:=hs z hm
  omega).mono hX.size,(hX.trans hy2).fresh hx4 fun z hm=>.inl (two z hm)⟩⟩
end
end
end Go.Proofs.YthhmnlcimojhlaaGreatDoor
namespace Go.Proofs.YthhmnlcimojhlaaGreatDoor
open Go.RowKit
set_option linter.unusedVariables false
set_option linter.unusedSimpArgs false
set_option maxRecDepth 10000
set_option maxHeartbeats 1000000 in
theorem k_FnExactGroupWeigh {D:Wld} {M:MW} {g x:Int} {w:World} (ft:FitW w D M) (_:InR .i64 g) (_:InR .i64 x) (hg:GlobE w) :
  Calls Tryz.prog fn_laws_FnExactGroupWeigh #[.agg (encW D M).toArray,.int .i64 g,.int .i64 x] w fun e w'=>e = .returned (.bool true)∧ExtX [] w w':=by
 refine (e_laws_FnExactGroupWeigh D.now M.cO D.cpus.length M.cC M.tO D.tasks.length M.tC M.gO D.groups.length M.gC g x (R:=fun v w'=>v = .bool true∧ExtX [] w w') ?_).mono fun e w' ⟨v,he,hv,h3⟩=>⟨by rw [he,hv],h3⟩
 have hl:LenW D:=⟨ft.lc,ft.lt,ft.lg,ft.ft⟩
 have hrd:=ft.rd
 intro b hb
 refine ⟨_,k_szWorld ft (by decide) (by decide),fun _ w1 hx1=>⟨rfl,hx1⟩,fun hs => ?_⟩
 have hs:=of_decide_eq_false hs
 have sm:=(szWd_nn (W:=D) (left:=1048576) (by decide) (by omega)).1
 have smr:SmW (ansD D (wghB D g x) (wghW D g x)).1:=ans_sm sm fun hW hb=>sm_wgh sm hW hb
 have hmD:=mK_pos sm
 generalize hr:ansD D (wghB D g x) (wghW D g x)=r at smr
 have hmR:=mK_pos smr
 intro wr1 hx1 hs1
 have s1:Sc w [b] wr1:=((Sc.start w).add hb).call0 hx1
 refine Calls.mono (k_toW hrd s1 hs1 sm) ?_
 rintro e wv ⟨mA,he,hA,hy⟩
 refine ⟨_,_,_,_,_,_,_,_,_,_,he,kept_of hy hs1,fun wr2 hx2 hs2 => ?_⟩
 have s2:=(s1.call0 hy).step hx2
 have hA2:=hA.step hx2
 refine Calls.mono (k_spec_GroupWeigh (g:=g) (x:=x) hA2.rd0 hl) ?_
 rintro e1 wv1 ⟨v,he1,nW,mW,hv,hW0,hy1⟩
 subst hv
 rw [hr] at he1 hW0
 have s3:=s2.call0 hy1
 have hW1:=(OW.of hW0 hs2).mono s2.ext.size
 refine ⟨_,_,_,_,_,_,_,_,_,_,_,he1,kept_of hy1 hs2,fun b1 hb1 wr3 hx3 hs3 => ?_⟩
 have s4:=s3.put hx3 hb1
 have hW2:=hW1.put hx3 hb1
 refine Calls.mono (k_toW hrd s4 hs3 sm) ?_
 rintro e2 wv2 ⟨mX,he2,hX0,hy2⟩
 have n0:=sepW hW2.own hX0.own (Nat.le_refl _)
 have s5:=s4.call0 hy2
 have hW3:=hW2.call0 hy2
 have hX1:=hX0.mono s4.ext.size
 refine ⟨_,_,_,_,_,_,_,_,_,_,he2,kept_of hy2 hs3,fun b2 hb2 wr4 hx4 hs4 => ?_⟩
 have s6:=s5.put hx4 hb2
 have hW4:=hW3.put hx4 hb2
 have hX2:=hX1.put hx4 hb2
 refine Calls.mono (k_impl_GroupWeigh (g:=g) (x:=x) hX2.rd0 hl (hg.ext s6.ext)) ?_
 rintro e3 wv3 ⟨v,he3,nG,mG,hv,hG0,hy3⟩
 subst hv
 rw [hr] at he3 hG0
 have n1:=sepW hX2.own hG0 (Nat.le_refl _)
 have n2:=sepW hW4.own hG0 (Nat.le_refl _)
 have s7:=s6.call0 hy3
 have hW5:=hW4.call0 hy3
 have hX3:=hX2.call0 hy3
 have hG1:=(OW.of hG0 hs4).mono s6.ext.size
 refine ⟨_,_,_,_,_,_,_,_,_,_,_,he3,kept_of hy3 hs4,fun b3 hb3=>⟨true,eqWW hG1.rd hW5.rd smr,fun hbad=>(by simp at hbad),fun _ wr6 hx6 hs6 => ?_⟩⟩
 have s8:=s7.put hx6 hb3
 have hW6:=hW5.put hx6 hb3
 have hX4:=hX3.put hx6 hb3
 have hG2:=hG1.put hx6 hb3
 refine Calls.mono (k_toW hrd s8 hs6 sm) ?_
 rintro e4 wv4 ⟨mY,he4,hY,hy4⟩
 refine ⟨_,_,_,_,_,_,_,_,_,_,he4,kept_of hy4 hs6,rfl,true,eqWW (hX4.call0 hy4).rd hY.rd sm,fun hbad=>(by simp at hbad),fun _ wr8 hx8 hs8 => ?_⟩
 have s9:=(s8.call0 hy4).step hx8
 have hW7:=(hW6.call0 hy4).step hx8
 have hX5:=(hX4.call0 hy4).step hx8
 have hG3:=(hG2.call0 hy4).step hx8
 refine Calls.mono (k_markWorld hX5.own sm) ?_
 rintro e5 wv5 ⟨he5,_,hy5⟩
 have s10:=s9.call hy5 fun x hx=>(hX5.own.lt x hx).1
 have hW8:=hW7.call hy5 n0.1
 have hG4:=hG3.call hy5 n1.2
 refine ⟨_,he5,kept_sep hy5 hs8 hX5.nb,true,fun _=>eqWW hG4.rd hW8.rd smr,fun hbad => ?_,fun _ wr10 hx10 hs10 => ?_⟩
 ·rw [decide_eq_false (by omega)] at hbad
  simp at hbad
 have s11:=s10.step hx10
 have hW9:=hW8.step hx10
 have hG5:=hG4.step hx10
 refine Calls.mono (k_markWorld hG5.own smr) ?_
 rintro e6 wv6 ⟨he6,hGm,hy6⟩
 have s12:=s11.call hy6 fun x hx=>(hG5.own.lt x hx).1
 have hW10:=hW9.call hy6 n2.1
 have hH:OW nG w.heap.size _ wv6 (markW r.1) mG:=⟨hGm,hG5.nb⟩
 refine ⟨_,he6,kept_sep hy6 hs10 hG5.nb,_,k_heldWorld hH.rd smr,fun hbad => ?_,fun _=>⟨fun hbad=>(by simp at hbad),fun _ wr13 hx13 hs13 => ?_⟩⟩
 ·have:=of_decide_eq_true hbad
  omega
 have s13:=s12.step hx13
 have hW11:=hW10.step hx13
 have hH2:=hH.step hx13
 refine Calls.mono (k_toW hrd s13 hs13 sm) ?_
 rintro e7 wv7 ⟨mZ,he7,hZ,hy7⟩
 refine ⟨_,_,_,_,_,_,_,_,_,_,he7,kept_of hy7 hs13,fun wr14 hx14 hs14 => ?_⟩
 have s14:=(s13.call0 hy7).step hx14
 have hW12:=(hW11.call0 hy7).step hx14
 have hH3:=(hH2.call0 hy7).step hx14
 refine Calls.mono (k_impl_GroupWeigh (g:=g) (x:=x) (hZ.step hx14).rd0 hl (hg.ext s14.ext)) ?_
 rintro e8 wv8 ⟨v,he8,nI,mI,hv,hI0,hy8⟩
 subst hv
 rw [hr] at he8 hI0
 have s15:=s14.call0 hy8
 have hW13:=hW12.call0 hy8
 have hH4:=hH3.call0 hy8
 have hI:=OW.of hI0 hs14
 refine ⟨_,_,_,_,_,_,_,_,_,_,_,he8,kept_of hy8 hs14,fun b4 hb4=>⟨true,eqWW hI.rd hW13.rd smr,fun hbad=>(by simp at hbad),fun _=>⟨_,k_heldWorld hH4.rd smr,fun hbad => ?_,fun _=>⟨fun hbad=>(by simp at hbad),fun _ wr18 hx18=>⟨rfl,(s15.step hx18).ext⟩⟩⟩⟩⟩
 have:=of_decide_eq_true hbad
 omega
end Go.Proofs.YthhmnlcimojhlaaGreatDoor
