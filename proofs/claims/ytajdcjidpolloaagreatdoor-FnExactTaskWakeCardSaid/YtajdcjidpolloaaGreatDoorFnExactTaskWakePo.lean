/- Part 15 of what the law FnExactTaskWake needs: the engine, the functions' propositions, the contracts. -/
import Derived.Test.YtajdcjidpolloaaGreatDoorFnExactTaskWakePn
import Derived.Laws.BytesArg
namespace Go.Proofs.YtajdcjidpolloaaGreatDoor
open Go.RowKit
set_option linter.unusedVariables false
set_option linter.unusedSimpArgs false
set_option maxRecDepth 10000
theorem tdiv10 {k:Int} (h:0<k):0≤Int.tdiv k 10∧Int.tdiv k 10<k:=by
 rw [Int.tdiv_eq_ediv_of_nonneg (by omega)]
 omega
theorem tmod10 {k:Int} (h:0<k):0≤Int.tmod k 10∧Int.tmod k 10≤9:=by
 rw [Int.tmod_eq_emod_of_nonneg (by omega)]
 omega
def digs (k:Int) (out:ByteArray):ByteArray:=if h:0<k then digs (Int.tdiv k 10) (strOfNums [48+Int.tmod k 10]++out) else out
termination_by k.toNat
decreasing_by
 have:=tdiv10 h
 omega
def mtx (k:Int):ByteArray:=if k≤0 then ⟨[109,48].toArray⟩ else ⟨[109].toArray⟩++digs k ⟨[].toArray⟩
theorem u_sl_u8:Tryz.prog.underlying ty_sl_uint8=some (.slice ty_uint8):=by kernel_rfl
theorem u_u8:Tryz.prog.underlying ty_uint8=some (.int .u8):=by kernel_rfl
theorem u_str0:Tryz.prog.underlying ty_string=some .string:=by kernel_rfl
theorem k_markText {k:Int} (hk:k≤1000000000000000000) {w:World} {bs:List Nat}:PureX bs Tryz.prog fn_laws_markText #[.int .i64 k] w (.string (mtx k)) :=
 pureX_of fun wr _=>e_laws_markText k (R:=fun v w'=>v = .string (mtx k)∧ExtX [] wr w') (by
  refine ⟨fun g w1 hx=>⟨by unfold mtx; rw [if_pos (of_decide_eq_true g)],hx⟩,fun g => ?_⟩
  have g:=of_decide_eq_false g
  have hmt:mtx k=⟨[109].toArray⟩++digs k ⟨[].toArray⟩:=by unfold mtx; rw [if_neg g]
  refine ⟨fun vs w1=>∃(k1:Int) (out:ByteArray),vs=[.int .i64 k1,.string out]∧0≤k1∧(out.size:Int)+k1≤k∧digs k1 out=digs k ⟨[].toArray⟩∧ExtX [] wr w1,fun vs _=>(ctrAt 0 vs).toNat,fun w1 hx _=>⟨k,_,rfl,by omega,by simp [ByteArray.size],rfl,hx⟩,?_⟩
  rintro k1 out wv _ ⟨k1',out',he,h0,hs,hd,hX⟩
  simp only [List.cons.injEq,Value.int.injEq,Value.string.injEq,true_and,and_true] at he
  obtain ⟨rfl,rfl⟩:=he
  refine ⟨fun gk => ?_,fun gk => ?_⟩
  ·have gk:0<k1:=of_decide_eq_true gk
   have hm:=tmod10 gk
   have hd10:=tdiv10 gk
   refine ⟨by decide,⟨by omega,by omega⟩,⟨by show (0:Int)≤_; omega,by show _≤(255:Int); omega⟩,fun b wb hxb hb hcell _ wr2 hx2 _ => ?_⟩
   have hc:=blk_ext hcell hx2 (by simp)
   have hrun:=run_convert_bytes_arg (P:=Tryz.prog) wr2 ty_sl_uint8 ty_uint8 u_sl_u8 u_u8 b 0 1 1 [48+Int.tmod k1 10] rfl (fun i hi=>by
    have:i=0:=by omega
    subst this
    rw [Nat.add_zero,cell_blk hc]
    rfl) ty_string u_str0
   have hsz:(strOfNums [48+Int.tmod k1 10]++out).size=1+out.size:=by rw [ByteArray.size_append,strOfNums_size]; rfl
   refine ⟨_,wr2,hrun,kept_nil,?_,⟨by decide,⟨by omega,by omega⟩⟩,fun wr3 hx3 _=>⟨⟨Int.tdiv k1 10,_,rfl,hd10.1,?_,?_,((hX.trans hxb).trans hx2).trans hx3⟩,?_⟩⟩
   ·rw [strOfNums_size,List.length_singleton]; omega
   ·rw [hsz]; omega
   ·rw [←hd]
    conv=>rhs; rw [digs]
    rw [dif_pos gk]
   ·show (Int.tdiv k1 10).toNat<k1.toNat
    omega
  ·have gk:¬0<k1:=of_decide_eq_false gk
   refine ⟨by rw [show (ByteArray.mk [109].toArray).size=1 from rfl]; omega,fun wr4 hx4=>⟨?_,hX.trans hx4⟩⟩
   rw [hmt,←hd,digs,dif_neg gk])
theorem set_self0 {α:Type} [Inhabited α] {l:List α} {i:Int} (h0:0≤i) (h1:i<(l.length:Int)):l.set i.toNat (gi l i)=l:=by
 obtain ⟨k,rfl⟩:=Int.eq_ofNat_of_zero_le h0
 rw [gi_lt (by omega),Int.toNat_natCast,List.set_getElem_self]
def mkG (G:Grp) (K:Int):Grp:=⟨(Int.tmod (K) 3==0),K+1,mtx (K+1+1),K+1+1+1,K+1+1+1+1,K+1+1+1+1+1,K+1+1+1+1+1+1,K+1+1+1+1+1+1+1,⟨K+1+1+1+1+1+1+1+1,K+1+1+1+1+1+1+1+1+1,K+1+1+1+1+1+1+1+1+1+1,markI G.band.locals.length (K+1+1+1+1+1+1+1+1+1+1+1),markB G.band.dry.length (K+1+1+1+1+1+1+1+1+1+1+1+1*(G.band.locals.length:Int))⟩,markS G.shelves.length (K+1+1+1+1+1+1+1+1+1+1+1+1*(G.band.locals.length:Int)+1*(G.band.dry.length:Int))⟩
def nxK (G:Grp) (K:Int):Int:=K+1+1+1+1+1+1+1+1+1+1+1+1*(G.band.locals.length:Int)+1*(G.band.dry.length:Int)+5*(G.shelves.length:Int)
def gK (gs:List Grp) (k:Int):Nat→Int
 | 0=>k
 | i+1=>nxK (gi gs (i:Int)) (gK gs k i)
def markG (gs:List Grp) (k:Int):Nat→List Grp
 | 0=>gs
 | i+1=>(markG gs k i).set i (mkG (gi gs (i:Int)) (gK gs k i))
theorem markG_len (gs:List Grp) (k:Int):∀i,(markG gs k i).length=gs.length
 | 0=>rfl
 | i+1=>by simp only [markG]; rw [List.length_set,markG_len gs k i]
theorem markG_gi {gs:List Grp} {k:Int}:∀(i:Nat) (j:Nat),i≤gs.length→gi (markG gs k i) (j:Int)=if j<i then mkG (gi gs (j:Int)) (gK gs k j) else gi gs (j:Int)
 | 0,j,_=>by rw [if_neg (by omega)]; rfl
 | i+1,j,h=>by
  simp only [markG]
  have:=gi_set (markG gs k i) (mkG (gi gs (i:Int)) (gK gs k i)) (i:=(i:Int)) (by omega) (by rw [markG_len]; omega) (j:=(j:Int)) (by omega)
  rw [Int.toNat_natCast] at this
  rw [this,markG_gi i j (by omega)]
  by_cases e:i=j
  ·subst e; rw [if_pos rfl,if_pos (by omega)]
  ·rw [if_neg (by omega)]
   by_cases h2:j<i
   ·rw [if_pos h2,if_pos (by omega)]
   ·rw [if_neg h2,if_neg (by omega)]
theorem gK_range {gs:List Grp} {k:Int} (hs:∀i:Int,0≤i→i<(gs.length:Int)→SmG (gi gs i)):∀i:Nat,i≤gs.length→k≤gK gs k i∧gK gs k i≤k+(i:Int)*8000000
 | 0,_=>by simp only [gK]; omega
 | i+1,h=>by
  have ih:=gK_range (k:=k) hs i (by omega)
  have s:=hs (i:Int) (by omega) (by omega)
  have h1:=s.lo
  have h2:=s.dr
  have h3:=s.sh
  simp only [gK,nxK]
  omega
section
variable {n base:Nat} {W:Wld} {m:MW} {w w':World} {G G':Grp} {i:Int}
theorem MWd.grRd (h:MWd n base w (setGr W i G) m) (i0:0≤i) (i1:i<(W.groups.length:Int)):CellsX [] w m.gO (Int.toNat i*14) (encG G (m.ms i.toNat)):=by
 have:=(h.rd (bs:=[]) (by simp)).g.cells i i0 (by show i<(((W.groups.set i.toNat G).length:Nat):Int); rw [List.length_set]; exact i1)
 rwa [set_gi i0 i1 i0,if_pos rfl] at this
theorem MWd.grOwn (h:MWd n base w (setGr W i G) m) (i0:0≤i) (i1:i<(n:Int)) (hl:W.groups.length=n):OwnM base w (G,m.ms i.toNat):=by
 have:=h.each i0 i1
 rwa [set_gi i0 (by omega) i0,if_pos rfl] at this
theorem MWd.grSto (h:MWd n base w (setGr W i G) m) (i0:0≤i) (i1:i<(n:Int)) (hl:W.groups.length=n) (e1:G'.band.locals=G.band.locals) (e2:G'.band.dry=G.band.dry) (e3:G'.shelves=G.shelves) {j:Nat} {vs:List Value}
  (he:encG G' (m.ms i.toNat)=(encG G (m.ms i.toNat)).take j++vs++(encG G (m.ms i.toNat)).drop (j+vs.length)) (hj:j+vs.length≤14):MWd n base (sto w m.gO (Int.toNat i*14+j) vs) (setGr W i G') m:=by
 have hg:gi (setGr W i G).groups i=G:=by rw [set_gi i0 (by omega) i0,if_pos rfl]
 have this:MWd n base _ (setGr (setGr W i G) i G') m:=h.stoG0 i0 i1 (g:=G') (by rw [hg]; exact e1) (by rw [hg]; exact e2) (by rw [hg]; exact e3) (by rw [hg]; exact he) hj
 rwa [show setGr (setGr W i G) i G'=setGr W i G' by unfold setGr; rw [List.set_set]] at this
theorem MWd.grIn {bs:List Nat} (h:MWd n base w (setGr W i G) m) (i0:0≤i) (i1:i<(n:Int)) (hl:W.groups.length=n) (hx:ExtX bs w w') (hb:∀x∈bs,x∈grpBlks (m.ms i.toNat)) (hp:OwnM base w' (G',m.ms i.toNat)) (he:encG G' (m.ms i.toNat)=encG G (m.ms i.toNat)):MWd n base w' (setGr W i G') m:=by
 have hg:gi (setGr W i G).groups i=G:=by rw [set_gi i0 (by omega) i0,if_pos rfl]
 have this:MWd n base _ (setGr (setGr W i G) i G') m:=h.in i0 i1 hx hb hp (by rw [hg]; exact he)
 rwa [show setGr (setGr W i G) i G'=setGr W i G' by unfold setGr; rw [List.set_set]] at this
set_option maxHeartbeats 1000000 in
theorem k_markGroupS {k:Int} (h:MWd n base w W m) (hln:W.groups.length≤1048576) (hs:∀i:Int,0≤i→i<(W.groups.length:Int)→SmG (gi W.groups i)) (hk:0≤k) (hk2:k≤10000000000000000) :
  Calls Tryz.prog fn_laws_markGroupS #[.slice m.gO W.groups.length m.gC,.int .i64 k] w fun e w'=>e = .returned (.int .i64 (gK W.groups k W.groups.length))∧MWd n base w' { W with groups:=markG W.groups k W.groups.length } m∧ExtX (wBlks n m) w w':=by
 refine (e_laws_markGroupS m.gO W.groups.length m.gC k (R:=fun v w'=>v = .int .i64 (gK W.groups k W.groups.length)∧MWd n base w' { W with groups:=markG W.groups k W.groups.length } m∧ExtX (wBlks n m) w w') ?_).mono fun e w' ⟨v,he,hv,h1⟩=>⟨by rw [he,hv],h1⟩
 have hnl:=h.len
 refine ⟨fun vs w1=>∃(i:Nat),vs=[.int .i64 (gK W.groups k i),.int .i64 (i:Int)]∧i≤W.groups.length∧MWd n base w1 { W with groups:=markG W.groups k i } m∧ExtX (wBlks n m) w w1,cntMw W.groups.length 1,fun w1 hx _=>⟨0,rfl,Nat.zero_le _,h.ext0 hx,hx.of_nil⟩,?_⟩
 rintro k1 i1 wv _ ⟨i,he,hi,hM,hX⟩
 simp only [List.cons.injEq,Value.int.injEq,true_and,and_true] at he
 obtain ⟨rfl,rfl⟩:=he
 have hr:=gK_range (k:=k) hs i hi
 refine ⟨fun hlt => ?_,fun hge => ?_⟩
 ·have hlt:=of_decide_eq_true hlt
  have sm:=hs (i:Int) (by omega) hlt
  have s1:=sm.lo
  have s2:=sm.dr
  have s3:=sm.sh
  have hG0:=markG_gi (gs:=W.groups) (k:=k) i i hi
  rw [if_neg (by omega)] at hG0
  have hlen:(markG W.groups k i).length=n:=by rw [markG_len,hnl]
  have hM0:MWd n base wv (setGr { W with groups:=markG W.groups k i } (i:Int) (gi W.groups (i:Int))) m:=by
   have e:setGr { W with groups:=markG W.groups k i } (i:Int) (gi W.groups (i:Int))={ W with groups:=markG W.groups k i }:=by
    unfold setGr
    dsimp only
    rw [←hG0,set_self0 (by omega) (by rw [markG_len]; exact hlt)]
   rw [e]; exact hM
  have hdef:({ W with groups:=markG W.groups k (i+1) }:Wld)=setGr { W with groups:=markG W.groups k i } (i:Int) (mkG (gi W.groups (i:Int)) (gK W.groups k i)):=by
   unfold setGr
   simp only [markG,Int.toNat_natCast]
  have hnx:gK W.groups k (i+1)=nxK (gi W.groups (i:Int)) (gK W.groups k i):=rfl
  have hKr:gK W.groups k i≤50000000000000000:=by omega
  have hK0:0≤gK W.groups k i:=by omega
  have i0:(0:Int)≤(i:Int):=by omega
  have i1:(i:Int)<(n:Int):=by omega
  generalize ({ W with groups:=markG W.groups k i }:Wld)=W1 at hM hM0 hdef
  have hl1:W1.groups.length=n:=hM.len
  clear hG0 hlen hM
  generalize gi W.groups (i:Int)=G at hM0 hdef hnx s1 s2 s3
  generalize gK W.groups k i=K at hKr hK0 hnx hdef ⊢
  have hix:Ix m.gO W.groups.length (i:Int):=by
   have:=(hM0.rd (bs:=[]) (by simp)).g.ix (i:=(i:Int)) i0 (by show (i:Int)<(((W1.groups.set (Int.toNat (i:Int)) G).length:Nat):Int); rw [List.length_set]; omega)
   rw [show (setGr W1 (i:Int) G).groups.length=W.groups.length by show (W1.groups.set (Int.toNat (i:Int)) G).length=_; rw [List.length_set]; omega] at this
   exact this
  have hM1:=hM0.grSto i0 i1 hl1 (G':={ G with used:=(Int.tmod (K) 3==0) }) rfl rfl rfl (j:=0) (vs:=[.bool (Int.tmod K 3==0)]) rfl (by simp)
  have hM2:=hM1.grSto i0 i1 hl1 (G':={ G with used:=(Int.tmod (K) 3==0),parent:=K+1 }) rfl rfl rfl (j:=1) (vs:=[.int .i64 (K+1)]) rfl (by simp)
  have hM3:=hM2.grSto i0 i1 hl1 (G':={ G with used:=(Int.tmod (K) 3==0),parent:=K+1,name:=mtx (K+1+1) }) rfl rfl rfl (j:=2) (vs:=[.string (mtx (K+1+1))]) rfl (by simp)
  have hM4:=hM3.grSto i0 i1 hl1 (G':={ G with used:=(Int.tmod (K) 3==0),parent:=K+1,name:=mtx (K+1+1),weight:=K+1+1+1 }) rfl rfl rfl (j:=3) (vs:=[.int .i64 (K+1+1+1)]) rfl (by simp)
  have hM5:=hM4.grSto i0 i1 hl1 (G':={ G with used:=(Int.tmod (K) 3==0),parent:=K+1,name:=mtx (K+1+1),weight:=K+1+1+1,cpus:=K+1+1+1+1 }) rfl rfl rfl (j:=4) (vs:=[.int .i64 (K+1+1+1+1)]) rfl (by simp)
  have hM6:=hM5.grSto i0 i1 hl1 (G':={ G with used:=(Int.tmod (K) 3==0),parent:=K+1,name:=mtx (K+1+1),weight:=K+1+1+1,cpus:=K+1+1+1+1,period:=K+1+1+1+1+1 }) rfl rfl rfl (j:=5) (vs:=[.int .i64 (K+1+1+1+1+1)]) rfl (by simp)
  have hM7:=hM6.grSto i0 i1 hl1 (G':={ G with used:=(Int.tmod (K) 3==0),parent:=K+1,name:=mtx (K+1+1),weight:=K+1+1+1,cpus:=K+1+1+1+1,period:=K+1+1+1+1+1,next:=K+1+1+1+1+1+1 }) rfl rfl rfl (j:=6) (vs:=[.int .i64 (K+1+1+1+1+1+1)]) rfl (by simp)
  have hM8:=hM7.grSto i0 i1 hl1 (G':={ G with used:=(Int.tmod (K) 3==0),parent:=K+1,name:=mtx (K+1+1),weight:=K+1+1+1,cpus:=K+1+1+1+1,period:=K+1+1+1+1+1,next:=K+1+1+1+1+1+1,sum:=K+1+1+1+1+1+1+1 }) rfl rfl rfl (j:=7) (vs:=[.int .i64 (K+1+1+1+1+1+1+1)]) rfl (by simp)
  have hM9:=hM8.grSto i0 i1 hl1 (G':={ G with used:=(Int.tmod (K) 3==0),parent:=K+1,name:=mtx (K+1+1),weight:=K+1+1+1,cpus:=K+1+1+1+1,period:=K+1+1+1+1+1,next:=K+1+1+1+1+1+1,sum:=K+1+1+1+1+1+1+1,band:={ G.band with quota:=K+1+1+1+1+1+1+1+1 } }) rfl rfl rfl (j:=8) (vs:=[.int .i64 (K+1+1+1+1+1+1+1+1)]) rfl (by simp)
  have hM10:=hM9.grSto i0 i1 hl1 (G':={ G with used:=(Int.tmod (K) 3==0),parent:=K+1,name:=mtx (K+1+1),weight:=K+1+1+1,cpus:=K+1+1+1+1,period:=K+1+1+1+1+1,next:=K+1+1+1+1+1+1,sum:=K+1+1+1+1+1+1+1,band:={ G.band with quota:=K+1+1+1+1+1+1+1+1,pool:=K+1+1+1+1+1+1+1+1+1 } }) rfl rfl rfl (j:=9) (vs:=[.int .i64 (K+1+1+1+1+1+1+1+1+1)]) rfl (by simp)
  have hM11:=hM10.grSto i0 i1 hl1 (G':={ G with used:=(Int.tmod (K) 3==0),parent:=K+1,name:=mtx (K+1+1),weight:=K+1+1+1,cpus:=K+1+1+1+1,period:=K+1+1+1+1+1,next:=K+1+1+1+1+1+1,sum:=K+1+1+1+1+1+1+1,band:={ G.band with quota:=K+1+1+1+1+1+1+1+1,pool:=K+1+1+1+1+1+1+1+1+1,spent:=K+1+1+1+1+1+1+1+1+1+1 } }) rfl rfl rfl (j:=10) (vs:=[.int .i64 (K+1+1+1+1+1+1+1+1+1+1)]) rfl (by simp)
  have hc11:=hM11.grRd i0 (by omega)
  have hX11:ExtX (wBlks n m) wv _:=((((((((((subG (n:=n) (m:=m) (w:=wv) (k:=Int.toNat (i:Int)*14+0) (vs:=[.bool (Int.tmod K 3==0)])).trans (subG (n:=n) (m:=m) (k:=Int.toNat (i:Int)*14+1) (vs:=[.int .i64 (K+1)]))).trans (subG (n:=n) (m:=m) (k:=Int.toNat (i:Int)*14+2) (vs:=[.string (mtx (K+1+1))]))).trans (subG (n:=n) (m:=m) (k:=Int.toNat (i:Int)*14+3) (vs:=[.int .i64 (K+1+1+1)]))).trans (subG (n:=n) (m:=m) (k:=Int.toNat (i:Int)*14+4) (vs:=[.int .i64 (K+1+1+1+1)]))).trans (subG (n:=n) (m:=m) (k:=Int.toNat (i:Int)*14+5) (vs:=[.int .i64 (K+1+1+1+1+1)]))).trans (subG (n:=n) (m:=m) (k:=Int.toNat (i:Int)*14+6) (vs:=[.int .i64 (K+1+1+1+1+1+1)]))).trans (subG (n:=n) (m:=m) (k:=Int.toNat (i:Int)*14+7) (vs:=[.int .i64 (K+1+1+1+1+1+1+1)]))).trans (subG (n:=n) (m:=m) (k:=Int.toNat (i:Int)*14+8) (vs:=[.int .i64 (K+1+1+1+1+1+1+1+1)]))).trans (subG (n:=n) (m:=m) (k:=Int.toNat (i:Int)*14+9) (vs:=[.int .i64 (K+1+1+1+1+1+1+1+1+1)]))).trans (subG (n:=n) (m:=m) (k:=Int.toNat (i:Int)*14+10) (vs:=[.int .i64 (K+1+1+1+1+1+1+1+1+1+1)]))
  refine ⟨by decide,hix,wrG hM0 (bs:=[]) (by simp) i0 i1 (j:=0) (k:=1) (by decide),⟨by omega,by omega⟩,hix,wrG hM1 (bs:=[]) (by simp) i0 i1 (j:=1) (k:=1) (by decide),⟨by omega,by omega⟩,_,k_markText (by omega),hix,wrG hM2 (bs:=[]) (by simp) i0 i1 (j:=2) (k:=1) (by decide),⟨by omega,by omega⟩,hix,wrG hM3 (bs:=[]) (by simp) i0 i1 (j:=3) (k:=1) (by decide),⟨by omega,by omega⟩,hix,wrG hM4 (bs:=[]) (by simp) i0 i1 (j:=4) (k:=1) (by decide),⟨by omega,by omega⟩,hix,wrG hM5 (bs:=[]) (by simp) i0 i1 (j:=5) (k:=1) (by decide),⟨by omega,by omega⟩,hix,wrG hM6 (bs:=[]) (by simp) i0 i1 (j:=6) (k:=1) (by decide),⟨by omega,by omega⟩,hix,wrG hM7 (bs:=[]) (by simp) i0 i1 (j:=7) (k:=1) (by decide),⟨by omega,by omega⟩,hix,wrG hM8 (bs:=[]) (by simp) i0 i1 (j:=8) (k:=1) (by decide),⟨by omega,by omega⟩,hix,wrG hM9 (bs:=[]) (by simp) i0 i1 (j:=9) (k:=1) (by decide),⟨by omega,by omega⟩,hix,wrG hM10 (bs:=[]) (by simp) i0 i1 (j:=10) (k:=1) (by decide),⟨by omega,by omega⟩,hix,_,_,_,cellsX_one (hc11.get 11 _ rfl),fun wr1 hx1 _ => ?_⟩
  have hN1:=hM11.ext0 hx1
  have hO1:=hN1.grOwn i0 i1 hl1
  refine Calls.mono (k_markIntS (k:=K+1+1+1+1+1+1+1+1+1+1+1) hO1.loc s1 (by omega) (by omega)) ?_
  rintro e wv1 ⟨he1,hL1,hy1⟩
  have hN2:=hN1.grIn (G':={ { G with used:=(Int.tmod (K) 3==0),parent:=K+1,name:=mtx (K+1+1),weight:=K+1+1+1,cpus:=K+1+1+1+1,period:=K+1+1+1+1+1,next:=K+1+1+1+1+1+1,sum:=K+1+1+1+1+1+1+1,band:={ G.band with quota:=K+1+1+1+1+1+1+1+1,pool:=K+1+1+1+1+1+1+1+1+1,spent:=K+1+1+1+1+1+1+1+1+1+1 } } with band:={ ({ G with used:=(Int.tmod (K) 3==0),parent:=K+1,name:=mtx (K+1+1),weight:=K+1+1+1,cpus:=K+1+1+1+1,period:=K+1+1+1+1+1,next:=K+1+1+1+1+1+1,sum:=K+1+1+1+1+1+1+1,band:={ G.band with quota:=K+1+1+1+1+1+1+1+1,pool:=K+1+1+1+1+1+1+1+1+1,spent:=K+1+1+1+1+1+1+1+1+1+1 } }:Grp).band with locals:=markI G.band.locals.length (K+1+1+1+1+1+1+1+1+1+1+1) } }) i0 i1 hl1 hy1 (fun x hx=>by simp [grpBlks]; exact .inl hx) ⟨hL1,hO1.dry.ext hy1 (hO1.dry.ty_ne hO1.loc (by decide)),hO1.shl.ext hy1 (hO1.shl.ty_ne hO1.loc (by decide))⟩ (by simp [encG,markI_len])
  have hc2:=hN2.grRd i0 (by omega)
  refine ⟨_,he1,kept_nil,hix,_,_,_,cellsX_one (hc2.get 12 _ rfl),fun wr2 hx2 _ => ?_⟩
  have hN3:=hN2.ext0 hx2
  have hO3:=hN3.grOwn i0 i1 hl1
  refine Calls.mono (k_markBoolS (k:=K+1+1+1+1+1+1+1+1+1+1+1+1*(G.band.locals.length:Int)) hO3.dry s2 (by omega) (by omega)) ?_
  rintro e wv2 ⟨he2,hD1,hy2⟩
  have hN4:=hN3.grIn (G':={ mkG G K with shelves:=G.shelves }) i0 i1 hl1 hy2 (fun x hx=>by simp [grpBlks]; exact .inr (.inl hx)) ⟨hO3.loc.ext hy2 (hO3.loc.ty_ne hO3.dry (by decide)),hD1,hO3.shl.ext hy2 (hO3.shl.ty_ne hO3.dry (by decide))⟩ (by simp [encG,mkG,markI_len,markB_len])
  have hc4:=hN4.grRd i0 (by omega)
  refine ⟨_,he2,kept_nil,hix,_,_,_,cellsX_one (hc4.get 13 _ rfl),fun wr3 hx3 _ => ?_⟩
  have hN5:=hN4.ext0 hx3
  have hO5:=hN5.grOwn i0 i1 hl1
  refine Calls.mono (k_markShelfS (k:=K+1+1+1+1+1+1+1+1+1+1+1+1*(G.band.locals.length:Int)+1*(G.band.dry.length:Int)) hO5.shl s3 (by omega) (by omega)) ?_
  rintro e wv3 ⟨he3,hS1,hy3⟩
  have hN6:=hN5.grIn (G':=mkG G K) i0 i1 hl1 hy3 (fun x hx=>by simp [grpBlks]; exact .inr (.inr hx)) ⟨hO5.loc.ext hy3 (hO5.loc.ty_ne hO5.shl (by decide)),hO5.dry.ext hy3 (hO5.dry.ty_ne hO5.shl (by decide)),hS1⟩ (by simp [encG,mkG,markS_len])
  refine ⟨_,he3,kept_nil,⟨by omega,by omega⟩,fun w4 hx4 _=>⟨⟨i+1,?_,by omega,?_,?_⟩,?_⟩⟩
  ·rw [hnx]; rfl
  ·rw [hdef]; exact hN6.ext0 hx4
  ·have m1:∀x∈blkOf (m.ms (Int.toNat (i:Int))).lO,x∈wBlks n m:=fun x hx=>mem_wM (k:=Int.toNat (i:Int)) (by omega) (by simp [grpBlks]; exact .inl (by simpa using hx))
   have m2:∀x∈blkOf (m.ms (Int.toNat (i:Int))).dO,x∈wBlks n m:=fun x hx=>mem_wM (k:=Int.toNat (i:Int)) (by omega) (by simp [grpBlks]; exact .inr (.inl (by simpa using hx)))
   have m3:∀x∈blkOf (m.ms (Int.toNat (i:Int))).sO,x∈wBlks n m:=fun x hx=>mem_wM (k:=Int.toNat (i:Int)) (by omega) (by simp [grpBlks]; exact .inr (.inr (by simpa using hx)))
   exact (((((((hX.trans hX11).trans hx1.of_nil).trans (hy1.mono m1)).trans hx2.of_nil).trans (hy2.mono m2)).trans hx3.of_nil).trans (hy3.mono m3)).trans hx4.of_nil
  ·simp only [cntMw,cntM,ctrAt,List.getElem?_cons_zero,List.getElem?_cons_succ]; omega
 ·have hge:=of_decide_eq_false hge
  have:i=W.groups.length:=by omega
  subst this
  exact fun w5 hx5=>⟨rfl,hM.ext0 hx5,hX.trans hx5.of_nil⟩
set_option maxHeartbeats 1000000 in
theorem k_heldGroupS {gs gs0:List Grp} {ms:Nat→MG} {o:Option Addr} {c:Nat} {k:Int} {bs:List Nat} (h:RdG bs w o gs ms) (hl:gs.length=gs0.length) (hln:gs0.length≤1048576) (hm:∀i:Nat,i<gs0.length→gi gs (i:Int)=mkG (gi gs0 (i:Int)) (gK gs0 k i)) (hs:∀i:Int,0≤i→i<(gs0.length:Int)→SmG (gi gs0 i)) (hk:0≤k) (hk2:k≤10000000000000000) :
  PureX bs Tryz.prog fn_laws_heldGroupS #[.slice o gs0.length c,.int .i64 k] w (.int .i64 (gK gs0 k gs0.length)) :=
 p_laws_heldGroupS o gs0.length c k fun wr hx=>by
  have h:=(h.ext hx).less (cs:=[]) (by simp)
  refine loop2 gs0.length 0 rfl (fun x i=>i≤gs0.length∧x=gK gs0 k i) ⟨Nat.zero_le _,rfl⟩ fun x i ⟨hi,hx1⟩=>⟨fun hlt => ?_,fun hge => ?_⟩
  ·subst hx1
   have hlt:=of_decide_eq_true hlt
   have hr:=gK_range (k:=k) hs i hi
   have sm:=hs (i:Int) (by omega) hlt
   have s1:=sm.lo
   have s2:=sm.dr
   have s3:=sm.sh
   have hg:=hm i (by omega)
   have hc:=h.cells (i:Int) (by omega) (by omega)
   have hix:Ix o gs0.length (i:Int):=by have:=h.ix (i:=(i:Int)) (by omega) (by omega); rwa [hl] at this
   have hLo:=h.locals (i:Int) (by omega) (by omega)
   have hDo:=h.dry (i:Int) (by omega) (by omega)
   have hSo:=h.shelves (i:Int) (by omega) (by omega)
   have e1:(gi gs (i:Int)).band.locals=markI (gi gs0 (i:Int)).band.locals.length (gK gs0 k i+1+1+1+1+1+1+1+1+1+1+1):=by rw [hg]; rfl
   have e2:(gi gs (i:Int)).band.dry=markB (gi gs0 (i:Int)).band.dry.length (gK gs0 k i+1+1+1+1+1+1+1+1+1+1+1+1*((gi gs0 (i:Int)).band.locals.length:Int)):=by rw [hg]; rfl
   have e3:(gi gs (i:Int)).shelves=markS (gi gs0 (i:Int)).shelves.length (gK gs0 k i+1+1+1+1+1+1+1+1+1+1+1+1*((gi gs0 (i:Int)).band.locals.length:Int)+1*((gi gs0 (i:Int)).band.dry.length:Int)):=by rw [hg]; rfl
   have hI:=k_heldIntS (c:=(ms (Int.toNat (i:Int))).lC) (e1▸hLo) s1 (by omega) (by omega)
   have hB:=k_heldBoolS (c:=(ms (Int.toNat (i:Int))).dC) (e2▸hDo) s2 (by omega) (by omega)
   have hS:=k_heldShelfS (c:=(ms (Int.toNat (i:Int))).sC) (e3▸hSo) s3 (by omega) (by omega)
   have l1:(gi gs (i:Int)).band.locals.length=(gi gs0 (i:Int)).band.locals.length:=by rw [e1,markI_len]
   have l2:(gi gs (i:Int)).band.dry.length=(gi gs0 (i:Int)).band.dry.length:=by rw [e2,markB_len]
   have l3:(gi gs (i:Int)).shelves.length=(gi gs0 (i:Int)).shelves.length:=by rw [e3,markS_len]
   have c11:CellsX [] wr o (Int.toNat (i:Int)*14+11) [.slice (ms (Int.toNat (i:Int))).lO (gi gs0 (i:Int)).band.locals.length (ms (Int.toNat (i:Int))).lC]:=by rw [←l1]; exact cellsX_one (hc.get 11 _ rfl)
   have c12:CellsX [] wr o (Int.toNat (i:Int)*14+12) [.slice (ms (Int.toNat (i:Int))).dO (gi gs0 (i:Int)).band.dry.length (ms (Int.toNat (i:Int))).dC]:=by rw [←l2]; exact cellsX_one (hc.get 12 _ rfl)
   have c13:CellsX [] wr o (Int.toNat (i:Int)*14+13) [.slice (ms (Int.toNat (i:Int))).sO (gi gs0 (i:Int)).shelves.length (ms (Int.toNat (i:Int))).sC]:=by rw [←l3]; exact cellsX_one (hc.get 13 _ rfl)
   have f0:(gi gs (i:Int)).used=(Int.tmod (gK gs0 k i) 3==0):=by rw [hg]; rfl
   have f1:(gi gs (i:Int)).parent=gK gs0 k i+1:=by rw [hg]; rfl
   have f2:(gi gs (i:Int)).name=mtx (gK gs0 k i+1+1):=by rw [hg]; rfl
   have f3:(gi gs (i:Int)).weight=gK gs0 k i+1+1+1:=by rw [hg]; rfl
   have f4:(gi gs (i:Int)).cpus=gK gs0 k i+1+1+1+1:=by rw [hg]; rfl
   have f5:(gi gs (i:Int)).period=gK gs0 k i+1+1+1+1+1:=by rw [hg]; rfl
   have f6:(gi gs (i:Int)).next=gK gs0 k i+1+1+1+1+1+1:=by rw [hg]; rfl
   have f7:(gi gs (i:Int)).sum=gK gs0 k i+1+1+1+1+1+1+1:=by rw [hg]; rfl
   have f8:(gi gs (i:Int)).band.quota=gK gs0 k i+1+1+1+1+1+1+1+1:=by rw [hg]; rfl
   have f9:(gi gs (i:Int)).band.pool=gK gs0 k i+1+1+1+1+1+1+1+1+1:=by rw [hg]; rfl
   have f10:(gi gs (i:Int)).band.spent=gK gs0 k i+1+1+1+1+1+1+1+1+1+1:=by rw [hg]; rfl
   refine ⟨hix,_,cellsX_one (hc.get 0 _ rfl),by decide,fun hb=>(by rw [f0] at hb; simp at hb),fun _=>⟨⟨by omega,by omega⟩,hix,_,cellsX_one (hc.get 1 _ rfl),fun hb=>(by rw [f1] at hb; simp at hb),fun _=>⟨⟨by omega,by omega⟩,hix,_,cellsX_one (hc.get 2 _ rfl),_,k_markText (by omega),fun hb=>(by rw [f2,strEq_iff.2 rfl] at hb; cases hb),fun _=>⟨⟨by omega,by omega⟩,hix,_,cellsX_one (hc.get 3 _ rfl),fun hb=>(by rw [f3] at hb; simp at hb),fun _=>⟨⟨by omega,by omega⟩,hix,_,cellsX_one (hc.get 4 _ rfl),fun hb=>(by rw [f4] at hb; simp at hb),fun _=>⟨⟨by omega,by omega⟩,hix,_,cellsX_one (hc.get 5 _ rfl),fun hb=>(by rw [f5] at hb; simp at hb),fun _=>⟨⟨by omega,by omega⟩,hix,_,cellsX_one (hc.get 6 _ rfl),fun hb=>(by rw [f6] at hb; simp at hb),fun _=>⟨⟨by omega,by omega⟩,hix,_,cellsX_one (hc.get 7 _ rfl),fun hb=>(by rw [f7] at hb; simp at hb),fun _=>⟨⟨by omega,by omega⟩,hix,_,cellsX_one (hc.get 8 _ rfl),fun hb=>(by rw [f8] at hb; simp at hb),fun _=>⟨⟨by omega,by omega⟩,hix,_,cellsX_one (hc.get 9 _ rfl),fun hb=>(by rw [f9] at hb; simp at hb),fun _=>⟨⟨by omega,by omega⟩,hix,_,cellsX_one (hc.get 10 _ rfl),fun hb=>(by rw [f10] at hb; simp at hb),fun _=>⟨⟨by omega,by omega⟩,hix,_,_,_,c11,_,hI,fun hb=>(by have:=of_decide_eq_true hb; omega),fun _=>⟨hix,_,_,_,c12,_,hB,fun hb=>(by have:=of_decide_eq_true hb; omega),fun _=>⟨hix,_,_,_,c13,_,hS,fun hb=>(by have:=of_decide_eq_true hb; omega),fun _=>⟨⟨by omega,by omega⟩,loop2_next (by omega) ⟨by omega,rfl⟩⟩⟩⟩⟩⟩⟩⟩⟩⟩⟩⟩⟩⟩⟩⟩
  ·have hge:=of_decide_eq_false hge
   have:i=gs0.length:=by omega
   subst this
   rw [hx1]
end
end Go.Proofs.YtajdcjidpolloaaGreatDoor
namespace Go.Proofs.YtajdcjidpolloaaGreatDoor
open Go.RowKit
set_option linter.unusedVariables false
set_option linter.unusedSimpArgs false
set_option maxRecDepth 10000
def kC (W:Wld):Int:=1+5*(W.cpus.length:Int)
def kT (W:Wld):Int:=kC W+9*(W.tasks.length:Int)
def mK (W:Wld):Int:=gK W.groups (kT W) W.groups.length
def markW (W:Wld):Wld:={ W with cpus:=markC W.cpus.length 1,tasks:=markT W.tasks.length (kC W),groups:=markG W.groups (kT W) W.groups.length }
section
variable {n base:Nat} {W:Wld} {m:MW} {w w':World} {bs:List Nat}
theorem mK_pos (sm:SmW W):0≤mK W:=by
 have:=gK_range (k:=kT W) sm.gs W.groups.length (Nat.le_refl _)
 unfold mK kT kC at *
 omega
theorem k_markWorld (h:MWd n base w W m) (sm:SmW W) :
  Calls Tryz.prog fn_laws_markWorld #[.agg (encW W m).toArray,.int .i64 1] w fun e w'=>e = .returned (.int .i64 (mK W))∧MWd n base w' (markW W) m∧ExtX (wBlks n m) w w':=by
 refine (e_laws_markWorld W.now m.cO W.cpus.length m.cC m.tO W.tasks.length m.tC m.gO W.groups.length m.gC 1 (R:=fun v w'=>v = .int .i64 (mK W)∧MWd n base w' (markW W) m∧ExtX (wBlks n m) w w') ?_).mono fun e w' ⟨v,he,hv,h1⟩=>⟨by rw [he,hv],h1⟩
 have s1:=sm.c
 have s2:=sm.t
 have s3:=sm.g
 intro b hb wr hx hs
 have hnb:∀y∈wBlks n m,y∉[b]:=fun y hy hm=>by
  have:y=b:=by simpa using hm
  have:=(h.lt y hy).2
  omega
 have hM0:=h.ext0 hx
 refine Calls.mono (k_markCpuS hM0.c s1 (by decide) (by decide)) ?_
 rintro e wv ⟨he,hC,hy⟩
 have hyW:ExtX (wBlks n m) wr wv:=hy.mono fun y hy=>mem_wC hy
 have hM1:MWd n base wv { W with cpus:=markC W.cpus.length 1 } m:=⟨hC,hM0.t.ext hy (hM0.t.ty_ne hM0.c (by decide)),hM0.g.foreign hM0.c (by decide) (by decide) (by decide) (by decide) hy,hM0.len⟩
 refine ⟨_,he,kept_sep hyW hs hnb,fun wr1 hx1 hs1 => ?_⟩
 have hM2:=hM1.ext hx1 hnb
 refine Calls.mono (k_markTaskS (k:=kC W) hM2.t s2 (by unfold kC; omega) (by unfold kC; omega)) ?_
 rintro e1 wv1 ⟨he1,hT,hy1⟩
 have hyW1:ExtX (wBlks n m) wr1 wv1:=hy1.mono fun y hy=>mem_wT hy
 have hM3:MWd n base wv1 { W with cpus:=markC W.cpus.length 1,tasks:=markT W.tasks.length (kC W) } m:=⟨hM2.c.ext hy1 (hM2.c.ty_ne hM2.t (by decide)),hT,hM2.g.foreign hM2.t (by decide) (by decide) (by decide) (by decide) hy1,hM2.len⟩
 refine ⟨_,he1,kept_sep hyW1 hs1 hnb,fun wr2 hx2 hs2 => ?_⟩
 have hM4:=hM3.ext hx2 hnb
 refine Calls.mono (k_markGroupS (W:={ W with cpus:=markC W.cpus.length 1,tasks:=markT W.tasks.length (kC W) }) (k:=kT W) hM4 s3 sm.gs (by unfold kT kC; omega) (by unfold kT kC; omega)) ?_
 rintro e2 wv2 ⟨he2,hG,hy2⟩
 refine ⟨_,he2,kept_sep hy2 hs2 hnb,fun wr3 hx3=>⟨rfl,hG.ext hx3 hnb,?_⟩⟩
 have hone:∀y∈[b],w.heap.size≤y:=fun y hm=>by
  have:y=b:=by simpa using hm
  omega
 exact ((((((hx.of_nil.trans hyW).fresh hx1 fun y hm=>.inl (hone y hm)).trans hyW1).fresh hx2 fun y hm=>.inl (hone y hm)).trans hy2).fresh hx3 fun y hm=>.inl (hone y hm))
theorem k_heldWorld (h:RdW bs w (markW W) m) (sm:SmW W):PureX bs Tryz.prog fn_laws_heldWorld #[.agg (encW W m).toArray,.int .i64 1] w (.int .i64 (mK W)) :=
 p_laws_heldWorld W.now m.cO W.cpus.length m.cC m.tO W.tasks.length m.tC m.gO W.groups.length m.gC 1 fun wr hx=>by
  have h:=(h.ext hx).less (cs:=[]) (by simp)
  have s1:=sm.c
  have s2:=sm.t
  have s3:=sm.g
  have hp:=mK_pos sm
  intro b hb
  refine ⟨_,k_heldCpuS (k:=1) h.c s1 (by decide) (by decide),fun g => ?_,fun _=>⟨_,k_heldTaskS (k:=kC W) h.t s2 (by unfold kC; omega) (by unfold kC; omega),fun g => ?_,fun _=>⟨mK W,k_heldGroupS (gs0:=W.groups) (k:=kT W) h.g (markG_len _ _ _) s3 (fun i hi => ?_) sm.gs (by unfold kT kC; omega) (by unfold kT kC; omega),fun g => ?_,fun _=>rfl⟩⟩⟩
  ·have:=of_decide_eq_true g; omega
  ·have:=of_decide_eq_true g; unfold kC at this; omega
  ·have:=markG_gi (gs:=W.groups) (k:=kT W) W.groups.length i (Nat.le_refl _)
   rw [if_pos hi] at this
   exact this
  ·have:=of_decide_eq_true g; omega
theorem k_toW {D:Wld} {M:MW} {w0:World} (h:RdW [] w0 D M) (s:Sc w0 bs w) (hs:∀x∈bs,x<w.heap.size) (sm:SmW D) :
  Calls Tryz.prog fn_laws_toWorld #[.agg (encW D M).toArray] w fun e w'=>∃m',e = .returned (.agg (encW D m').toArray)∧OW D.groups.length w.heap.size bs w' D m'∧ExtX [] w w' :=
 (k_toWorld (h.ext s.ext) sm).mono fun e w' ⟨m',he,hO,hx⟩=>⟨m',he,OW.of (MWd.of hO rfl) hs,hx⟩
theorem eqWW {A:Wld} {ma mb:MW} (ha:RdW bs w A ma) (hb:RdW bs w A mb) (hs:SmW A):PureX bs Tryz.prog fn_laws_eqWorld #[.agg (encW A ma).toArray,.agg (encW A mb).toArray] w (.bool true):=by
 have:=k_eqWorld ha hb hs
 rwa [decide_eq_true rfl] at this
end
theorem sm_zero:SmW zeroW:=⟨by decide,by decide,by decide,fun i a b=>by simp [zeroW] at b; omega⟩
theorem sm_of_WA {W:Wld} (ha:WA W) (hn:∀i:Int,0≤i→i<8→(gi W.groups i).name.size≤1048576):SmW W:=by
 have h1:=ha.c2
 have h2:=ha.t
 have h3:=ha.gl
 refine ⟨by omega,by omega,by omega,fun i a b => ?_⟩
 have:=band_len ha a (by omega)
 exact ⟨hn i a (by omega),by omega,by omega,by omega⟩
theorem sm_fr {W W':Wld} (sm:SmW W) (ha:WA W') (hf:TreeC W.groups W'.groups):SmW W':=sm_of_WA ha fun i a b=>by
 rw [hf.n]
 have hl:=ha.gl
 rw [hf.len] at hl
 exact (sm.gs i a (by omega)).nm
theorem ans_sm {W W':Wld} {bar:Int} (sm:SmW W) (h:worldB W=true→bar=0→SmW W'):SmW (ansD W bar W').1:=by
 unfold ansD
 split
 ·exact sm_zero
 ·rename_i hW
  split
  ·exact sm
  ·rename_i hb
   exact h (by simpa using hW) (by simpa using hb)
theorem sm_set {K:Int} {W W1:Wld} (sm:SmW W) (hS:SW K W1) (hK:0≤K) (hf:TreeC W.groups W1.groups):SmW (settleD W1) :=
 sm_fr sm (settleD_ok hS hK).1.a (hf.trans (settleD_ok hS hK).2.g)
end Go.Proofs.YtajdcjidpolloaaGreatDoor
namespace Go.Proofs.YtajdcjidpolloaaGreatDoor
open Go.RowKit
set_option linter.unusedVariables false
set_option linter.unusedSimpArgs false
set_option maxRecDepth 10000
theorem tk_set {W:Wld} {t:Int} {x:Tsk} (t0:0≤t) (t1:t<(W.tasks.length:Int)):tkk (setTk W t x) t=x:=by
 show gi (W.tasks.set t.toNat x) t=x
 rw [gi_set _ _ t0 t1 t0,if_pos rfl]
theorem set_set {W:Wld} {t:Int} {x y:Tsk}:setTk (setTk W t x) t y=setTk W t y:=by simp [setTk]
section
variable {W:Wld} {m:MW} {w:World} {bar:Int}
theorem k_spec_l10Lag {bs:List Nat} {t:Int} (h:RdW bs w W m) (t0:0≤t) (t1:t<(W.tasks.length:Int)) (g0:0≤(tkk W t).group) (g1:(tkk W t).group<(W.groups.length:Int)) (c0:0≤(tkk W t).cpu) (c1:(tkk W t).cpu<((gi W.groups (tkk W t).group).shelves.length:Int)) (hr:InR .i64 ((tkk W t).v - (shf W (tkk W t).group (tkk W t).cpu).floor)) :
  PureX bs Tryz.prog fn_spec_l10Lag #[.agg (encW W m).toArray,.int .i64 t] w (.int .i64 (lagCut ((tkk W t).v - (shf W (tkk W t).group (tkk W t).cpu).floor) (weightOf (tkk W t).nice))) :=
 p_spec_l10Lag W.now m.cO W.cpus.length m.cC m.tO W.tasks.length m.tC m.gO W.groups.length m.gC t fun wr hx=>by
  have h:=(h.ext hx).less (cs:=[]) (by simp)
  intro b hb
  exact ⟨h.t.ix encT_c t0 t1,_,_,_,_,_,_,_,_,_,h.t t t0 t1,fun b1 hb1=>⟨h.g.ix g0 g1,_,_,_,h.g.shelf g0 g1,(h.g.shelves _ g0 g1).ix encS_c c0 c1,_,(h.g.shelves _ g0 g1).f c0 c1 (j:=0) rfl,hr,_,k_spec_WeightOf,_,k_spec_LagCut,rfl⟩⟩
set_option maxHeartbeats 1000000 in
theorem k_impl_floor {bs:List Nat} {p:Option Addr} {t:Int} (h:WPt bs w p W m) (t0:0≤t) (t1:t<(W.tasks.length:Int)) (g0:0≤(tkk W t).group) (g1:(tkk W t).group<(W.groups.length:Int)) (c0:0≤(tkk W t).cpu) (c1:(tkk W t).cpu<((gi W.groups (tkk W t).group).shelves.length:Int)) :
  PureX bs Tryz.prog fn_impl_World_floor #[.pointer p,.int .i64 t] w (.int .i64 (shf W (tkk W t).group (tkk W t).cpu).floor) :=
 p_impl_World_floor p t fun wr hx=>by
  have h:=(h.ext hx).less (cs:=[]) (by simp)
  exact ⟨h.some,_,_,_,h.tasks,h.rd.t.ix encT_c t0 t1,_,_,_,_,_,_,_,_,_,h.rd.t t t0 t1,fun b hb=>⟨_,_,k_impl_lane,_,k_impl_shelf h g0 g1 c0 c1,(h.sh g0 g1 c0 c1).1,_,(h.sh g0 g1 c0 c1).2 (j:=0) rfl,rfl⟩⟩
set_option maxHeartbeats 1000000 in
end
end Go.Proofs.YtajdcjidpolloaaGreatDoor
namespace Go.Proofs.YtajdcjidpolloaaGreatDoor
open Go.RowKit
set_option linter.unusedVariables false
set_option linter.unusedSimpArgs false
set_option maxRecDepth 10000
section
variable {W W':Wld} {m:MW} {w:World} {bar:Int}
theorem Done.pre {base pb:Nat} {ex:List Nat} {w0 w w':World} {W':Wld} {m m':MW} (hx:ExtX [] w0 w) (h:Done base pb ex w m w' W' m'):Done base pb ex w0 m w' W' m' :=
 ⟨h.own,h.pt,hx.of_nil.trans h.ext,fun x hy=>(h.sub x hy).imp id fun hz=>Nat.le_trans hx.size hz⟩
theorem Done.post {base pb:Nat} {ex:List Nat} {w w' w1:World} {W':Wld} {m m':MW} (h:Done base pb ex w m w' W' m') (hx:ExtX [] w' w1):Done base pb ex w m w1 W' m' :=
 ⟨h.own.ext0 hx,blk_ext h.pt hx (by simp),h.ext.trans hx.of_nil,h.sub⟩
end
end Go.Proofs.YtajdcjidpolloaaGreatDoor
namespace Go.Proofs.YtajdcjidpolloaaGreatDoor
open Go.RowKit
set_option linter.unusedVariables false
set_option linter.unusedSimpArgs false
set_option maxRecDepth 10000
def lagT (W:Wld) (t:Int):Int:=lagCut ((tkk W t).v - (shf W (tkk W t).group (tkk W t).cpu).floor) (weightOf (tkk W t).nice)
def putT (W:Wld) (t g c:Int):Tsk:={ tkk W t with group:=g,cpu:=c,v:=(shf W g c).floor+lagT W t }
def putW (W:Wld) (t g c:Int):Wld:=if (tkk W t).state=1 then endW (setTk W t (putT W t g c)) c else setTk W t (putT W t g c)
theorem lagT_range (W:Wld) (t:Int):0≤lagT W t∧lagT W t≤lagB:=by
 have lc:=lagCut_range ((tkk W t).v - (shf W (tkk W t).group (tkk W t).cpu).floor) (weightOf (tkk W t).nice)
 have lm:=lagMost_range (weightOf (tkk W t).nice)
 unfold lagT
 simp only [lagB]
 omega
theorem SF.setTk {F K:Int} {W:Wld} (h:SF F K W) {t:Int} (t0:0≤t) (t1:t<12) {x:Tsk} (hx:x.state≠0→usedD W.groups x.group=true∧0≤x.cpu∧x.cpu<(W.cpus.length:Int)) (v0:0≤x.v) (v1:x.v≤K):SF F K (setTk W t x):=⟨h.w.setTk t0 t1 hx v0 v1,h.f⟩
theorem SF.endW {F K:Int} {W:Wld} (h:SF F K W) {c:Int} (c0:0≤c) (c1:c<(W.cpus.length:Int)):SF F K (endW W c) :=
 ⟨h.w.endW c0 c1,fun k d u a b=>h.f k d u a (by
  have b:d<(((W.cpus.set c.toNat (endC (gi W.cpus c))).length:Nat):Int):=b
  rwa [List.length_set] at b)⟩
theorem putT_ok {F K:Int} {W:Wld} (h:SF F K W) (hk:F+lagB≤K) {t g c:Int} (hg:usedD W.groups g=true) (c0:0≤c) (c1:c<(W.cpus.length:Int)):0≤(putT W t g c).v∧(putT W t g c).v≤K:=by
 have hf:=h.f g c hg c0 c1
 have hs:=h.w.s g c hg c0 c1
 have hl:=lagT_range W t
 show 0≤(shf W g c).floor+lagT W t∧(shf W g c).floor+lagT W t≤K
 omega
def mFst (m:Int):Int:=if mHas m 0=true then 0 else if mHas m 1=true then 1 else if mHas m 2=true then 2 else if mHas m 3=true then 3 else -1
theorem fst_fin:∀a:Fin 16,a.val≠0→mHas (a.val:Int) (mFst (a.val:Int))=true:=by decide +kernel
theorem mFst_has {m:Int} (h:mOk m=true) (h0:m≠0):mHas m (mFst m)=true:=by
 obtain ⟨f,rfl⟩:=fin16 h
 exact fst_fin f fun e=>h0 (by rw [e]; rfl)
theorem pin_ok (gs:List Grp) (g u:Int):mOk (pinD gs g u)=true:=by
 unfold pinD
 rw [List.foldl_append]
 exact mAnd_ok _ _
theorem where_ok {W:Wld} (ha:WA W) (g mask:Int):mOk (whereD W g mask)=true∧whereD W g mask≠0:=by
 unfold whereD
 split
 ·rename_i h; exact ⟨mAnd_ok _ _,h⟩
 ·split
  ·rename_i h
   refine ⟨?_,h⟩
   exact pin_ok _ _ _
  ·exact ⟨upsD_ok ha.c2,ha.ups⟩
structure RelF (W W':Wld):Prop where
 n:W'.now=W.now
 c:W'.cpus.length=W.cpus.length
 t:W'.tasks.length=W.tasks.length
 g:W'.groups=W.groups
theorem RelF.trans {A B C:Wld} (h:RelF A B) (k:RelF B C):RelF A C:=⟨k.n.trans h.n,k.c.trans h.c,k.t.trans h.t,k.g.trans h.g⟩
end Go.Proofs.YtajdcjidpolloaaGreatDoor
namespace Go.Proofs.YtajdcjidpolloaaGreatDoor
open Go.RowKit
set_option linter.unusedVariables false
set_option linter.unusedSimpArgs false
set_option maxRecDepth 10000
section
variable {base:Nat} {W W':Wld} {m:MW} {w:World} {bar:Int}
theorem encW_tk (W:Wld) (t:Int) (x:Tsk) (m:MW):encW (setTk W t x) m=encW W m:=by simp [encW,setTk]
theorem k_spec_l10Put {F K:Int} (h:MWd 8 base w W m) (hsw:SF F K W) (hk:F+lagB≤K) (hK:K≤1000000000000000000) {t g c:Int} (t0:0≤t) (t1:t<12) (hs:(tkk W t).state≠0) (hg:usedD W.groups g=true) (c0:0≤c) (c1:c<(W.cpus.length:Int)) :
  Calls Tryz.prog fn_spec_l10Put #[.agg (encW W m).toArray,.int .i64 t,.int .i64 g,.int .i64 c] w fun e w'=>e = .returned (.agg (encW W m).toArray)∧Mv 8 base [] w m w' (putW W t g c) m:=by
 refine (e_spec_l10Put W.now m.cO W.cpus.length m.cC m.tO W.tasks.length m.tC m.gO W.groups.length m.gC t g c (R:=fun v w'=>v = .agg (encW W m).toArray∧Mv 8 base [] w m w' (putW W t g c) m) ?_).mono fun e w' ⟨v,he,hv,h3⟩=>⟨by rw [he,hv],h3⟩
 intro y hy y1 hy1
 obtain ⟨g0,g1,_⟩:=usedD_iff.1 hg
 have htl:=hsw.w.a.t
 have hgl:=hsw.w.a.gl
 have hsl:=hsw.w.a.sl hg
 have hl1:t<(W.tasks.length:Int):=by omega
 obtain ⟨hu,d0,d1⟩:=hsw.w.t t t0 t1 hs
 obtain ⟨q0,q1,_⟩:=usedD_iff.1 hu
 have hql:=hsw.w.a.sl hu
 have s1:=hsw.w.s g c hg c0 c1
 have s2:=hsw.w.s _ _ hu d0 d1
 have hv:=hsw.w.tv t t0 t1
 have hlr:=lagT_range W t
 simp only [lagB] at hlr
 have hM:=Mv.two h hy hy1
 have hr:=(Mv.start h).rd
 have hix:=hr.t.ix encT_c t0 hl1
 have hset:=h.stoT t0 hl1 (j:=0) (vs:=encT (putT W t g c)) (x:=putT W t g c) (by simp [encT]) (by simp [encT])
 have e5:encW (setTk W t (putT W t g c)) m=encW W m:=encW_tk _ _ _ _
 have e6:encW (endW (setTk W t (putT W t g c)) c) m=encW W m:=(encW_fr (fr_end _ _)).trans e5
 refine ⟨lagT W t,k_spec_l10Lag hr t0 hl1 q0 q1 d0 (by omega) ⟨by show _≤(tkk W t).v - (shf W (tkk W t).group (tkk W t).cpu).floor; omega,by show (tkk W t).v - (shf W (tkk W t).group (tkk W t).cpu).floor≤_; omega⟩,hix,_,_,_,_,_,_,_,_,_,hr.t t t0 hl1,fun b2 hb2=>⟨hr.g.ix g0 g1,_,_,_,hr.g.shelf g0 g1,(hr.g.shelves g g0 g1).ix encS_c c0 (by omega),(shf W g c).floor,RdS.f (hr.g.shelves g g0 g1) c0 (by omega) (j:=0) rfl,⟨by omega,by omega⟩,hix,wrT h (by simp) t0 hl1 (j:=0) (by decide),fun g4 wr hx hs4 => ?_,fun g4 wr hx=>⟨rfl,?_⟩⟩⟩
 ·have g4:(tkk W t).state=1:=eq_of_beq g4
  have hM2:=((hM.add hb2).deed hset subT).step (hx.of_nil)
  have hcall:=k_spec_l8End hM2.own (W:=setTk W t (putT W t g c)) c0 c1
  rw [e5,e6] at hcall
  refine Calls.mono hcall ?_
  rintro e wv ⟨he1,hy2⟩
  refine ⟨_,_,_,_,_,_,_,_,_,_,he1,hM2.kept hy2 hs4,fun wr2 hx4=>⟨rfl,?_⟩⟩
  unfold putW
  rw [if_pos g4]
  exact ((hM2.call hy2 hs4).step hx4).close
 ·have g4:¬(tkk W t).state=1:=ne_of_beq_false g4
  unfold putW
  rw [if_neg g4]
  exact ((Mv.start h).deed hset subT).call0 hx
section
variable {pb:Nat}
theorem k_impl_put {F K:Int} (h:PW base pb w W m) (hsw:SF F K W) (hk:F+lagB≤K) (hK:K≤1000000000000000000) {t g c:Int} (t0:0≤t) (t1:t<12) (hs:(tkk W t).state≠0) (hg:usedD W.groups g=true) (c0:0≤c) (c1:c<(W.cpus.length:Int)) :
  Calls Tryz.prog fn_impl_World_put #[.pointer (pA pb),.int .i64 t,.int .i64 g,.int .i64 c] w fun e w'=>e = .returned (.tuple #[])∧Mp base pb [] w m w' (putW W t g c) m:=by
 refine (e_impl_World_put (pA pb) t g c (R:=fun v w'=>v = .tuple #[]∧Mp base pb [] w m w' (putW W t g c) m) ?_).mono fun e w' ⟨v,he,hv,h3⟩=>⟨by rw [he,hv],h3⟩
 obtain ⟨g0,g1,_⟩:=usedD_iff.1 hg
 have htl:=hsw.w.a.t
 have hgl:=hsw.w.a.gl
 have hsl:=hsw.w.a.sl hg
 have hl1:t<(W.tasks.length:Int):=by omega
 obtain ⟨hu,d0,d1⟩:=hsw.w.t t t0 t1 hs
 obtain ⟨q0,q1,_⟩:=usedD_iff.1 hu
 have hql:=hsw.w.a.sl hu
 have s1:=hsw.w.s g c hg c0 c1
 have s2:=hsw.w.s _ _ hu d0 d1
 have hv:=hsw.w.tv t t0 t1
 have hlr:=lagT_range W t
 simp only [lagB] at hlr
 have hM:=Mp.start h
 have hp:=hM.wpt
 have hset1:=hM.own.stoT t0 hl1 (j:=1) (vs:=[.int .i64 g]) (x:={ tkk W t with group:=g }) rfl (by simp)
 have hM1:Mp base pb [] w m _ (setTk W t { tkk W t with group:=g }) m:=hM.deed hset1 subT (encW_tk _ _ _ _)
 have ht1:t<((setTk W t { tkk W t with group:=g }).tasks.length:Int):=by simpa [setTk] using hl1
 have e1:gi (setTk W t { tkk W t with group:=g }).tasks t={ tkk W t with group:=g }:=tk_set t0 hl1
 have hset2:=hM1.own.stoT t0 ht1 (j:=2) (vs:=[.int .i64 c]) (x:={ tkk W t with group:=g,cpu:=c }) (by rw [e1]; rfl) (by simp)
 have hM2:Mp base pb [] w m _ (setTk (setTk W t { tkk W t with group:=g }) t { tkk W t with group:=g,cpu:=c }) m:=hM1.deed hset2 subT (encW_tk _ _ _ _)
 rw [set_set] at hM2
 have ht2:t<((setTk W t { tkk W t with group:=g,cpu:=c }).tasks.length:Int):=by simpa [setTk] using hl1
 have e2:gi (setTk W t { tkk W t with group:=g,cpu:=c }).tasks t={ tkk W t with group:=g,cpu:=c }:=tk_set t0 hl1
 have e2':tkk (setTk W t { tkk W t with group:=g,cpu:=c }) t={ tkk W t with group:=g,cpu:=c }:=e2
 have hp2:=hM2.wpt
 have hfl2:=k_impl_floor (t:=t) hp2 t0 ht2 (by rw [e2']; exact g0) (by rw [e2']; exact g1) (by rw [e2']; exact c0) (by rw [e2']; show c<(((gi W.groups g).shelves.length:Nat):Int); omega)
 rw [e2'] at hfl2
 have hset3:=hM2.own.stoT t0 ht2 (j:=5) (vs:=[.int .i64 ((shf W g c).floor+lagT W t)]) (x:=putT W t g c) (by rw [e2]; rfl) (by simp)
 have hM3:Mp base pb [] w m _ (setTk (setTk W t { tkk W t with group:=g,cpu:=c }) t (putT W t g c)) m:=hM2.deed hset3 subT (encW_tk _ _ _ _)
 rw [set_set] at hM3
 have ht3:t<((setTk W t (putT W t g c)).tasks.length:Int):=by simpa [setTk] using hl1
 have e3:gi (setTk W t (putT W t g c)).tasks t=putT W t g c:=tk_set t0 hl1
 have hp3:=hM3.wpt
 have hst:=RdT.f hp3.rd.t t0 ht3 (j:=0) rfl
 rw [e3] at hst
 refine ⟨hp.some,_,_,_,hp.tasks,hp.rd.t.ix encT_c t0 hl1,_,RdT.f hp.rd.t t0 hl1 (j:=5) rfl,_,k_impl_floor hp t0 hl1 q0 q1 d0 (by omega),⟨by show _≤(tkk W t).v - (shf W (tkk W t).group (tkk W t).cpu).floor; omega,by show (tkk W t).v - (shf W (tkk W t).group (tkk W t).cpu).floor≤_; omega⟩,_,k_impl_weight hp t0 hl1,_,k_impl_LagCut,wrT hM.own hM.nb t0 hl1 (j:=1) (by decide),wrT hM1.own hM1.nb t0 ht1 (j:=2) (by decide),_,hfl2,⟨by show _≤(shf W g c).floor+lagT W t; omega,by show (shf W g c).floor+lagT W t≤_; omega⟩,wrT hM2.own hM2.nb t0 ht2 (j:=5) (by decide),_,hst,fun g4=>⟨_,_,k_impl_lane,fun wr hx _ => ?_⟩,fun g4 wr2 hx=>⟨rfl,?_⟩⟩
 ·have g4:(tkk W t).state=1:=eq_of_beq g4
  have hM4:=hM3.nil hx
  refine Calls.mono (k_impl_endSliceW hM4.pw (W:=setTk W t (putT W t g c)) c0 c1) ?_
  rintro e wv ⟨he,hy⟩
  refine ⟨he,kept_nil,fun wr1 hx1=>⟨rfl,?_⟩⟩
  unfold putW
  rw [if_pos g4]
  exact (hM4.call hy (by simp)).nil hx1
 ·have g4:¬(tkk W t).state=1:=ne_of_beq_false g4
  unfold putW
  rw [if_neg g4]
  exact hM3.nil hx
end
end
end Go.Proofs.YtajdcjidpolloaaGreatDoor
namespace Go.Proofs.YtajdcjidpolloaaGreatDoor
open Go.RowKit
set_option linter.unusedVariables false
set_option linter.unusedSimpArgs false
set_option maxRecDepth 10000
theorem sw_sf {W:Wld} (sw:SW halfT W):SF halfT (halfT+lagB) W:=sw.sf.mono (Int.le_refl _) (by simp only [lagB]; decide)
section
variable {base pb:Nat} {W W':Wld} {m:MW} {w:World} {bar:Int}
end
end Go.Proofs.YtajdcjidpolloaaGreatDoor
namespace Go.Proofs.YtajdcjidpolloaaGreatDoor
open Go.RowKit
set_option linter.unusedVariables false
set_option linter.unusedSimpArgs false
set_option maxRecDepth 10000
def onC (W:Wld) (c:Int) (j:Nat):Bool:=((tkk W (j:Int)).state==1)&&((tkk W (j:Int)).cpu==c)
def rdyF (W:Wld) (c:Int) (j:Nat):Int:=if onC W c j=true then 1 else 0
def ldsF (W:Wld) (c:Int) (j:Nat):Int:=if onC W c j=true then (tkk W (j:Int)).load else 0
def rdyS (W:Wld) (c:Int):Int:=sumF (rdyF W c) W.tasks.length
def ldsS (W:Wld) (c:Int):Int:=sumF (ldsF W c) W.tasks.length
def ltPl (W:Wld) (a b:Int):Bool:=decide (ldsS W a<ldsS W b)||((ldsS W a==ldsS W b)&&decide (rdyS W a<rdyS W b))
def plaN (W:Wld) (m:Int):Nat→Int
 | 0 => -1
 | k+1=>if (mHas m (k:Int)&&(decide (plaN W m k<0)||ltPl W (k:Int) (plaN W m k)))=true then (k:Int) else plaN W m k
def plaD (W:Wld) (m:Int):Int:=plaN W m W.cpus.length
theorem plaN_yes {W:Wld} {m:Int} {k:Nat} (h:(mHas m (k:Int)&&(decide (plaN W m k<0)||ltPl W (k:Int) (plaN W m k)))=true):plaN W m (k+1)=(k:Int):=if_pos h
theorem plaN_no {W:Wld} {m:Int} {k:Nat} (h:(mHas m (k:Int)&&(decide (plaN W m k<0)||ltPl W (k:Int) (plaN W m k)))=false):plaN W m (k+1)=plaN W m k:=if_neg (by rw [h]; decide)
theorem plaN_range (W:Wld) (m:Int):∀k:Nat,-1≤plaN W m k∧plaN W m k<(k:Int)∧(0≤plaN W m k→mHas m (plaN W m k)=true)
 | 0=>⟨Int.le_refl _,by show (-1:Int)<0; decide,fun h=>by have:(0:Int)≤-1:=h; omega⟩
 | k+1=>by
  have ih:=plaN_range W m k
  simp only [plaN]
  split
  ·rename_i h
   simp only [Bool.and_eq_true] at h
   exact ⟨by omega,by omega,fun _=>h.1⟩
  ·exact ⟨ih.1,by omega,ih.2.2⟩
theorem plaN_some {W:Wld} {m:Int} {j:Nat} (h:mHas m (j:Int)=true):∀k:Nat,j<k→0≤plaN W m k
 | 0,hk=>absurd hk (Nat.not_lt_zero j)
 | k+1,hk=>by
  by_cases e:j=k
  ·subst e
   by_cases hn:plaN W m j<0
   ·rw [plaN_yes (by rw [h,decide_eq_true hn]; rfl)]; omega
   ·simp only [plaN]; split <;> omega
  ·have:=plaN_some (W:=W) h k (by omega)
   simp only [plaN]
   split <;> omega
theorem pla_up {W:Wld} (ha:WA W) {m:Int} (hm:mOk m=true) (h0:m≠0) (hs:∀c:Int,mHas m c=true→0≤c∧c<(W.cpus.length:Int)):0≤plaD W m∧plaD W m<(W.cpus.length:Int)∧mHas m (plaD W m)=true:=by
 have hf:=mFst_has hm h0
 have hr:=hs _ hf
 have e:((mFst m).toNat:Int)=mFst m:=by omega
 have h1:=plaN_some (W:=W) (m:=m) (j:=(mFst m).toNat) (by rw [e]; exact hf) W.cpus.length (by omega)
 have h2:=plaN_range W m W.cpus.length
 exact ⟨h1,h2.2.1,h2.2.2 h1⟩
theorem pla_where {W:Wld} (ha:WA W) (g mask:Int):0≤plaD W (whereD W g mask)∧plaD W (whereD W g mask)<(W.cpus.length:Int)∧mHas (whereD W g mask) (plaD W (whereD W g mask))=true :=
 pla_up ha (where_ok ha g mask).1 (where_ok ha g mask).2 fun _ h=>cpu_of ha h
def mCnt (m:Int):Nat→Int
 | 0=>0
 | k+1=>if mHas m (k:Int)=true then mCnt m k+1 else mCnt m k
theorem mCnt_range (m:Int):∀k:Nat,0≤mCnt m k∧mCnt m k≤(k:Int)
 | 0=>by simp [mCnt]
 | k+1=>by
  have:=mCnt_range m k
  simp only [mCnt]
  split <;> omega
def LdW (W:Wld):Prop:=∀t:Int,0≤t→t<12→0≤(tkk W t).load∧(tkk W t).load≤8000000
theorem ldw_of {W:Wld} (wp:WldP W):LdW W:=fun t t0 t1=>by
 rcases wp.t t t0 t1 with h | ⟨_,h⟩
 ·rw [h.2]; decide
 ·exact ⟨h.l1,h.l2⟩
theorem rdyF_range (W:Wld) (c:Int) (j:Nat):0≤rdyF W c j∧rdyF W c j≤1:=by unfold rdyF; split <;> omega
theorem rdyS_range {W:Wld} (c:Int) (k:Nat):0≤sumF (rdyF W c) k∧sumF (rdyF W c) k≤(k:Int)*1:=sumF_range (rdyF_range W c) k
theorem ldsS_range {W:Wld} (hl:LdW W) (c:Int):∀k:Nat,k≤12→0≤sumF (ldsF W c) k∧sumF (ldsF W c) k≤(k:Int)*8000000
 | 0,_=>by simp [sumF]
 | k+1,hk=>by
  have ih:=ldsS_range hl c k (by omega)
  have h1:=hl (k:Int) (by omega) (by omega)
  simp only [sumF]
  have h2:0≤ldsF W c k∧ldsF W c k≤8000000:=by unfold ldsF; split <;> omega
  omega
section
variable {W:Wld} {m:MW} {w:World} {bs:List Nat} {p:Option Addr}
theorem k_spec_l10Ready {c:Int} (h:RdW bs w W m) (htl:W.tasks.length=12):PureX bs Tryz.prog fn_spec_l10Ready #[.agg (encW W m).toArray,.int .i64 c] w (.int .i64 (rdyS W c)) :=
 p_spec_l10Ready W.now m.cO W.cpus.length m.cC m.tO W.tasks.length m.tC m.gO W.groups.length m.gC c fun wr hx=>by
  have h:=(h.ext hx).less (cs:=[]) (by simp)
  intro _ _
  refine loop2 W.tasks.length 0 rfl (fun x k=>k≤W.tasks.length∧x=sumF (rdyF W c) k) ⟨Nat.zero_le _,rfl⟩ fun x k ⟨hk,hx2⟩=>⟨fun hlt => ?_,fun hge => ?_⟩
  ·have hlt:=of_decide_eq_true hlt
   have hr:=rdyS_range (W:=W) c k
   refine ⟨h.t.ix encT_c (by omega) hlt,_,h.t.f (by omega) hlt (j:=0) rfl,fun _=>h.t.ix encT_c (by omega) hlt,_,fun _=>h.t.f (by omega) hlt (j:=2) rfl,fun g2=>⟨⟨by omega,by omega⟩,⟨by omega,by omega⟩,loop2_next (by omega) ⟨by omega,?_⟩⟩,fun g2=>⟨⟨by omega,by omega⟩,loop2_next (by omega) ⟨by omega,?_⟩⟩⟩
   ·have g2:onC W c k=true:=g2
    simp only [sumF,rdyF]; rw [if_pos g2,hx2]
   ·have g2:onC W c k=false:=g2
    simp only [sumF,rdyF]; rw [if_neg (by rw [g2]; decide),hx2,Int.add_zero]
  ·have hge:=of_decide_eq_false hge
   have:k=W.tasks.length:=by omega
   subst this
   rw [hx2]; rfl
theorem k_spec_l10Loads {c:Int} (h:RdW bs w W m) (htl:W.tasks.length=12) (hl:LdW W):PureX bs Tryz.prog fn_spec_l10Loads #[.agg (encW W m).toArray,.int .i64 c] w (.int .i64 (ldsS W c)) :=
 p_spec_l10Loads W.now m.cO W.cpus.length m.cC m.tO W.tasks.length m.tC m.gO W.groups.length m.gC c fun wr hx=>by
  have h:=(h.ext hx).less (cs:=[]) (by simp)
  intro _ _
  refine loop2 W.tasks.length 0 rfl (fun x k=>k≤W.tasks.length∧x=sumF (ldsF W c) k) ⟨Nat.zero_le _,rfl⟩ fun x k ⟨hk,hx2⟩=>⟨fun hlt => ?_,fun hge => ?_⟩
  ·have hlt:=of_decide_eq_true hlt
   have hr:=ldsS_range hl c k (by omega)
   have hl1:=hl (k:Int) (by omega) (by omega)
   refine ⟨h.t.ix encT_c (by omega) hlt,_,h.t.f (by omega) hlt (j:=0) rfl,fun _=>h.t.ix encT_c (by omega) hlt,_,fun _=>h.t.f (by omega) hlt (j:=2) rfl,fun g2=>⟨h.t.ix encT_c (by omega) hlt,(tkk W (k:Int)).load,h.t.f (by omega) hlt (j:=8) rfl,⟨by omega,by omega⟩,⟨by omega,by omega⟩,loop2_next (by omega) ⟨by omega,?_⟩⟩,fun g2=>⟨⟨by omega,by omega⟩,loop2_next (by omega) ⟨by omega,?_⟩⟩⟩
   ·have g2:onC W c k=true:=g2
    simp only [sumF,ldsF]; rw [if_pos g2,hx2]
   ·have g2:onC W c k=false:=g2
    simp only [sumF,ldsF]; rw [if_neg (by rw [g2]; decide),hx2,Int.add_zero]
  ·have hge:=of_decide_eq_false hge
   have:k=W.tasks.length:=by omega
   subst this
   rw [hx2]; rfl
theorem k_spec_l10Place {x:Int} (h:RdW bs w W m) (ha:WA W) (hl:LdW W):PureX bs Tryz.prog fn_spec_l10Place #[.agg (encW W m).toArray,.int .i64 x] w (.int .i64 (plaD W x)) :=
 p_spec_l10Place W.now m.cO W.cpus.length m.cC m.tO W.tasks.length m.tC m.gO W.groups.length m.gC x fun wr hx=>by
  have h:=(h.ext hx).less (cs:=[]) (by simp)
  have hcl:=ha.c2
  have htl:=ha.t
  intro _ _
  refine loop2 W.cpus.length 0 rfl (fun b k=>k≤W.cpus.length∧b=plaN W x k) ⟨Nat.zero_le _,rfl⟩ fun b k ⟨hk,hb⟩=>⟨fun hlt => ?_,fun hge => ?_⟩
  ·have hlt:=of_decide_eq_true hlt
   have key:(((decide (b<0))||(decide (ldsS W (k:Int)<ldsS W b)))||((ldsS W (k:Int)==ldsS W b)&&(decide (rdyS W (k:Int)<rdyS W b))))=(decide (plaN W x k<0)||ltPl W (k:Int) (plaN W x k)):=by rw [hb,Bool.or_assoc]; rfl
   refine ⟨_,k_spec_MaskHas,fun g=>⟨⟨by omega,by omega⟩,loop2_next (by omega) ⟨by omega,?_⟩⟩,fun g=>⟨_,fun _=>k_spec_l10Loads h htl hl,_,fun _=>k_spec_l10Loads h htl hl,_,fun _=>k_spec_l10Loads h htl hl,_,fun _=>k_spec_l10Loads h htl hl,_,fun _ _=>k_spec_l10Ready h htl,_,fun _ _=>k_spec_l10Ready h htl,fun g2=>⟨⟨by omega,by omega⟩,loop2_next (by omega) ⟨by omega,?_⟩⟩,fun g2=>⟨⟨by omega,by omega⟩,loop2_next (by omega) ⟨by omega,?_⟩⟩⟩⟩
   ·have g:mHas x (k:Int)=false:=by simpa using g
    rw [hb,plaN_no (by rw [g]; rfl)]
   ·have g:mHas x (k:Int)=true:=by simpa using g
    rw [plaN_yes (by rw [g,←key,g2]; rfl)]
   ·have g:mHas x (k:Int)=true:=by simpa using g
    rw [hb,plaN_no (by rw [g,←key,g2]; rfl)]
  ·have hge:=of_decide_eq_false hge
   have:k=W.cpus.length:=by omega
   subst this
   rw [hb]; rfl
end
end Go.Proofs.YtajdcjidpolloaaGreatDoor
