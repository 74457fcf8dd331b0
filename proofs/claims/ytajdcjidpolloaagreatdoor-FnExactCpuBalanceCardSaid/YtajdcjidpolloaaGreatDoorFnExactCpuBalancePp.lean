/- Part 16 of what the law FnExactCpuBalance needs: the engine, the functions' propositions, the contracts. -/
import Derived.Test.YtajdcjidpolloaaGreatDoorFnExactCpuBalancePo
import Derived.Laws.BytesArg
namespace Go.Proofs.YtajdcjidpolloaaGreatDoor
open Go.RowKit
set_option linter.unusedVariables false
set_option linter.unusedSimpArgs false
set_option maxRecDepth 10000
theorem zakm {k:Int} (h:0<k):0≤Int.tdiv k 10∧Int.tdiv k 10<k:=by
 rw [Int.tdiv_eq_ediv_of_nonneg (by omega)]
 omega
theorem zam6 {k:Int} (h:0<k):0≤Int.tmod k 10∧Int.tmod k 10≤9:=by
 rw [Int.tmod_eq_emod_of_nonneg (by omega)]
 omega
def digs (k:Int) (out:ByteArray):ByteArray:=if h:0<k then digs (Int.tdiv k 10) (strOfNums [48+Int.tmod k 10]++out) else out
termination_by k.toNat
decreasing_by
 have:=zakm h
 omega
def mtx (k:Int):ByteArray:=if k≤0 then ⟨[109,48].toArray⟩ else ⟨[109].toArray⟩++digs k ⟨[].toArray⟩
theorem zal1:Tryz.prog.underlying zrq=some (.slice zxp):=by kernel_rfl
theorem u_u8:Tryz.prog.underlying zxp=some (.int .u8):=by kernel_rfl
theorem zam8:Tryz.prog.underlying zfb=some .string:=by kernel_rfl
theorem z38 {k:Int} (hk:k≤1000000000000000000) {w:World} {bs:List Nat}:zab bs Tryz.prog zgf #[.int .i64 k] w (.string (mtx k)) :=
 zj1 fun wr _=>zy7 k (R:=fun v w'=>v = .string (mtx k)∧ExtX [] wr w') (by
  refine ⟨fun g w1 hx=>⟨by unfold mtx; rw [if_pos (of_decide_eq_true g)],hx⟩,fun g => ?_⟩
  have g:=of_decide_eq_false g
  have hmt:mtx k=⟨[109].toArray⟩++digs k ⟨[].toArray⟩:=by unfold mtx; rw [if_neg g]
  refine ⟨fun vs w1=>∃(k1:Int) (out:ByteArray),vs=[.int .i64 k1,.string out]∧0≤k1∧(out.size:Int)+k1≤k∧digs k1 out=digs k ⟨[].toArray⟩∧ExtX [] wr w1,fun vs _=>(zcw 0 vs).toNat,fun w1 hx _=>⟨k,_,rfl,by omega,by simp [ByteArray.size],rfl,hx⟩,?_⟩
  rintro k1 out wv _ ⟨k1',out',he,h0,hs,hd,hX⟩
  simp only [List.cons.injEq,Value.int.injEq,Value.string.injEq,true_and,and_true] at he
  obtain ⟨rfl,rfl⟩:=he
  refine ⟨fun gk => ?_,fun gk => ?_⟩
  ·have gk:0<k1:=of_decide_eq_true gk
   have hm:=zam6 gk
   have hd10:=zakm gk
   refine ⟨by decide,⟨by omega,by omega⟩,⟨by show (0:Int)≤_; omega,by show _≤(255:Int); omega⟩,fun b wb hxb hb hcell _ wr2 hx2 _ => ?_⟩
   have hc:=zan hcell hx2 (by simp)
   have hrun:=run_convert_bytes_arg (P:=Tryz.prog) wr2 zrq zxp zal1 u_u8 b 0 1 1 [48+Int.tmod k1 10] rfl (fun i hi=>by
    have:i=0:=by omega
    subst this
    rw [Nat.add_zero,zjr hc]
    rfl) zfb zam8
   have hsz:(strOfNums [48+Int.tmod k1 10]++out).size=1+out.size:=by rw [ByteArray.size_append,strOfNums_size]; rfl
   refine ⟨_,wr2,hrun,zbc,?_,⟨by decide,⟨by omega,by omega⟩⟩,fun wr3 hx3 _=>⟨⟨Int.tdiv k1 10,_,rfl,hd10.1,?_,?_,((hX.trans hxb).trans hx2).trans hx3⟩,?_⟩⟩
   ·rw [strOfNums_size,List.length_singleton]; omega
   ·rw [hsz]; omega
   ·rw [←hd]
    conv=>rhs; rw [digs]
    rw [dif_pos gk]
   ·show (Int.tdiv k1 10).toNat<k1.toNat
    omega
  ·have gk:¬0<k1:=of_decide_eq_false gk
   refine ⟨by rw [show (ByteArray.mk [109].toArray).size=1 from rfl]; omega,fun wr4 hx4=>⟨?_,hX.trans hx4⟩⟩
   rw [hmt,←hd,digs,dif_neg gk])
theorem zag6 {α:Type} [Inhabited α] {l:List α} {i:Int} (h0:0≤i) (h1:i<(l.length:Int)):l.set i.toNat (gi l i)=l:=by
 obtain ⟨k,rfl⟩:=Int.eq_ofNat_of_zero_le h0
 rw [zd9 (by omega),Int.toNat_natCast,List.set_getElem_self]
def mkG (G:Grp) (K:Int):Grp:=⟨(Int.tmod (K) 3==0),K+1,mtx (K+1+1),K+1+1+1,K+1+1+1+1,K+1+1+1+1+1,K+1+1+1+1+1+1,K+1+1+1+1+1+1+1,⟨K+1+1+1+1+1+1+1+1,K+1+1+1+1+1+1+1+1+1,K+1+1+1+1+1+1+1+1+1+1,zlb G.band.locals.length (K+1+1+1+1+1+1+1+1+1+1+1),zlm G.band.dry.length (K+1+1+1+1+1+1+1+1+1+1+1+1*(G.band.locals.length:Int))⟩,zln G.shelves.length (K+1+1+1+1+1+1+1+1+1+1+1+1*(G.band.locals.length:Int)+1*(G.band.dry.length:Int))⟩
def nxK (G:Grp) (K:Int):Int:=K+1+1+1+1+1+1+1+1+1+1+1+1*(G.band.locals.length:Int)+1*(G.band.dry.length:Int)+5*(G.shelves.length:Int)
def gK (gs:List Grp) (k:Int):Nat→Int
 | 0=>k
 | i+1=>nxK (gi gs (i:Int)) (gK gs k i)
def zob (gs:List Grp) (k:Int):Nat→List Grp
 | 0=>gs
 | i+1=>(zob gs k i).set i (mkG (gi gs (i:Int)) (gK gs k i))
theorem zo1 (gs:List Grp) (k:Int):∀i,(zob gs k i).length=gs.length
 | 0=>rfl
 | i+1=>by simp only [zob]; rw [List.length_set,zo1 gs k i]
theorem z62 {gs:List Grp} {k:Int}:∀(i:Nat) (j:Nat),i≤gs.length→gi (zob gs k i) (j:Int)=if j<i then mkG (gi gs (j:Int)) (gK gs k j) else gi gs (j:Int)
 | 0,j,_=>by rw [if_neg (by omega)]; rfl
 | i+1,j,h=>by
  simp only [zob]
  have:=zci (zob gs k i) (mkG (gi gs (i:Int)) (gK gs k i)) (i:=(i:Int)) (by omega) (by rw [zo1]; omega) (j:=(j:Int)) (by omega)
  rw [Int.toNat_natCast] at this
  rw [this,z62 i j (by omega)]
  by_cases e:i=j
  ·subst e; rw [if_pos rfl,if_pos (by omega)]
  ·rw [if_neg (by omega)]
   by_cases h2:j<i
   ·rw [if_pos h2,if_pos (by omega)]
   ·rw [if_neg h2,if_neg (by omega)]
theorem zxc {gs:List Grp} {k:Int} (hs:∀i:Int,0≤i→i<(gs.length:Int)→SmG (gi gs i)):∀i:Nat,i≤gs.length→k≤gK gs k i∧gK gs k i≤k+(i:Int)*8000000
 | 0,_=>by simp only [gK]; omega
 | i+1,h=>by
  have ih:=zxc (k:=k) hs i (by omega)
  have s:=hs (i:Int) (by omega) (by omega)
  have h1:=s.lo
  have h2:=s.dr
  have h3:=s.sh
  simp only [gK,nxK]
  omega
section
variable {n base:Nat} {W:Wld} {m:MW} {w w':World} {G G':Grp} {i:Int}
theorem MWd.grRd (h:MWd n base w (zcn W i G) m) (i0:0≤i) (i1:i<(W.groups.length:Int)):zaa [] w m.gO (Int.toNat i*14) (encG G (m.ms i.toNat)):=by
 have:=(h.rd (bs:=[]) (by simp)).g.cells i i0 (by show i<(((W.groups.set i.toNat G).length:Nat):Int); rw [List.length_set]; exact i1)
 rwa [zly i0 i1 i0,if_pos rfl] at this
theorem MWd.grOwn (h:MWd n base w (zcn W i G) m) (i0:0≤i) (i1:i<(n:Int)) (hl:W.groups.length=n):OwnM base w (G,m.ms i.toNat):=by
 have:=h.each i0 i1
 rwa [zly i0 (by omega) i0,if_pos rfl] at this
theorem MWd.grSto (h:MWd n base w (zcn W i G) m) (i0:0≤i) (i1:i<(n:Int)) (hl:W.groups.length=n) (e1:G'.band.locals=G.band.locals) (e2:G'.band.dry=G.band.dry) (e3:G'.shelves=G.shelves) {j:Nat} {vs:List Value}
  (he:encG G' (m.ms i.toNat)=(encG G (m.ms i.toNat)).take j++vs++(encG G (m.ms i.toNat)).drop (j+vs.length)) (hj:j+vs.length≤14):MWd n base (sto w m.gO (Int.toNat i*14+j) vs) (zcn W i G') m:=by
 have hg:gi (zcn W i G).groups i=G:=by rw [zly i0 (by omega) i0,if_pos rfl]
 have this:MWd n base _ (zcn (zcn W i G) i G') m:=h.stoG0 i0 i1 (g:=G') (by rw [hg]; exact e1) (by rw [hg]; exact e2) (by rw [hg]; exact e3) (by rw [hg]; exact he) hj
 rwa [show zcn (zcn W i G) i G'=zcn W i G' by unfold zcn; rw [List.set_set]] at this
theorem MWd.grIn {bs:List Nat} (h:MWd n base w (zcn W i G) m) (i0:0≤i) (i1:i<(n:Int)) (hl:W.groups.length=n) (hx:ExtX bs w w') (hb:∀x∈bs,x∈zah (m.ms i.toNat)) (hp:OwnM base w' (G',m.ms i.toNat)) (he:encG G' (m.ms i.toNat)=encG G (m.ms i.toNat)):MWd n base w' (zcn W i G') m:=by
 have hg:gi (zcn W i G).groups i=G:=by rw [zly i0 (by omega) i0,if_pos rfl]
 have this:MWd n base _ (zcn (zcn W i G) i G') m:=h.in i0 i1 hx hb hp (by rw [hg]; exact he)
 rwa [show zcn (zcn W i G) i G'=zcn W i G' by unfold zcn; rw [List.set_set]] at this
set_option maxHeartbeats 1000000 in
theorem z9l {k:Int} (h:MWd n base w W m) (hln:W.groups.length≤1048576) (hs:∀i:Int,0≤i→i<(W.groups.length:Int)→SmG (gi W.groups i)) (hk:0≤k) (hk2:k≤10000000000000000) :
  Calls Tryz.prog zhf #[.slice m.gO W.groups.length m.gC,.int .i64 k] w fun e w'=>e = .returned (.int .i64 (gK W.groups k W.groups.length))∧MWd n base w' { W with groups:=zob W.groups k W.groups.length } m∧ExtX (za3 n m) w w':=by
 refine (zt5 m.gO W.groups.length m.gC k (R:=fun v w'=>v = .int .i64 (gK W.groups k W.groups.length)∧MWd n base w' { W with groups:=zob W.groups k W.groups.length } m∧ExtX (za3 n m) w w') ?_).mono fun e w' ⟨v,he,hv,h1⟩=>⟨by rw [he,hv],h1⟩
 have hnl:=h.len
 refine ⟨fun vs w1=>∃(i:Nat),vs=[.int .i64 (gK W.groups k i),.int .i64 (i:Int)]∧i≤W.groups.length∧MWd n base w1 { W with groups:=zob W.groups k i } m∧ExtX (za3 n m) w w1,zcv W.groups.length 1,fun w1 hx _=>⟨0,rfl,Nat.zero_le _,h.ext0 hx,hx.of_nil⟩,?_⟩
 rintro k1 i1 wv _ ⟨i,he,hi,hM,hX⟩
 simp only [List.cons.injEq,Value.int.injEq,true_and,and_true] at he
 obtain ⟨rfl,rfl⟩:=he
 have hr:=zxc (k:=k) hs i hi
 refine ⟨fun hlt => ?_,fun hge => ?_⟩
 ·have hlt:=of_decide_eq_true hlt
  have sm:=hs (i:Int) (by omega) hlt
  have s1:=sm.lo
  have s2:=sm.dr
  have s3:=sm.sh
  have hG0:=z62 (gs:=W.groups) (k:=k) i i hi
  rw [if_neg (by omega)] at hG0
  have hlen:(zob W.groups k i).length=n:=by rw [zo1,hnl]
  have hM0:MWd n base wv (zcn { W with groups:=zob W.groups k i } (i:Int) (gi W.groups (i:Int))) m:=by
   have e:zcn { W with groups:=zob W.groups k i } (i:Int) (gi W.groups (i:Int))={ W with groups:=zob W.groups k i }:=by
    unfold zcn
    dsimp only
    rw [←hG0,zag6 (by omega) (by rw [zo1]; exact hlt)]
   rw [e]; exact hM
  have hdef:({ W with groups:=zob W.groups k (i+1) }:Wld)=zcn { W with groups:=zob W.groups k i } (i:Int) (mkG (gi W.groups (i:Int)) (gK W.groups k i)):=by
   unfold zcn
   simp only [zob,Int.toNat_natCast]
  have hnx:gK W.groups k (i+1)=nxK (gi W.groups (i:Int)) (gK W.groups k i):=rfl
  have hKr:gK W.groups k i≤50000000000000000:=by omega
  have hK0:0≤gK W.groups k i:=by omega
  have i0:(0:Int)≤(i:Int):=by omega
  have i1:(i:Int)<(n:Int):=by omega
  generalize ({ W with groups:=zob W.groups k i }:Wld)=W1 at hM hM0 hdef
  have hl1:W1.groups.length=n:=hM.len
  clear hG0 hlen hM
  generalize gi W.groups (i:Int)=G at hM0 hdef hnx s1 s2 s3
  generalize gK W.groups k i=K at hKr hK0 hnx hdef ⊢
  have hix:Ix m.gO W.groups.length (i:Int):=by
   have:=(hM0.rd (bs:=[]) (by simp)).g.ix (i:=(i:Int)) i0 (by show (i:Int)<(((W1.groups.set (Int.toNat (i:Int)) G).length:Nat):Int); rw [List.length_set]; omega)
   rw [show (zcn W1 (i:Int) G).groups.length=W.groups.length by show (W1.groups.set (Int.toNat (i:Int)) G).length=_; rw [List.length_set]; omega] at this
   exact this
  have hM1:=hM0.grSto i0 i1 hl1 (G':={ G with used:=(Int.tmod (K) 3==0) }) rfl rfl rfl (j:=0) (vs:=[.bool (Int.tmod K 3==0)]) rfl (by simp)
  have hM2:=hM1.grSto i0 i1 hl1 (G':={ G with used:=(Int.tmod (K) 3==0),parent:=K+1 }) rfl rfl rfl (j:=1) (vs:=[.int .i64 (K+1)]) rfl (by simp)
  have hM3:=hM2.grSto i0 i1 hl1 (G':={ G with used:=(Int.tmod (K) 3==0),parent:=K+1,name:=mtx (K+1+1) }) rfl rfl rfl (j:=2) (vs:=[.string (mtx (K+1+1))]) rfl (by simp)
  have hM4:=hM3.grSto i0 i1 hl1 (G':={ G with used:=(Int.tmod (K) 3==0),parent:=K+1,name:=mtx (K+1+1),weight:=K+1+1+1 }) rfl rfl rfl (j:=3) (vs:=[.int .i64 (K+1+1+1)]) rfl (by simp)
  have hM5:=hM4.grSto i0 i1 hl1 (G':={ G with used:=(Int.tmod (K) 3==0),parent:=K+1,name:=mtx (K+1+1),weight:=K+1+1+1,cpus:=K+1+1+1+1 }) rfl rfl rfl (j:=4) (vs:=[.int .i64 (K+1+1+1+1)]) rfl (by simp)
  have hM6:=hM5.grSto i0 i1 hl1 (G':={ G with used:=(Int.tmod (K) 3==0),parent:=K+1,name:=mtx (K+1+1),weight:=K+1+1+1,cpus:=K+1+1+1+1,period:=K+1+1+1+1+1 }) rfl rfl rfl (j:=5) (vs:=[.int .i64 (K+1+1+1+1+1)]) rfl (by simp)
  have hM7:=hM6.grSto i0 i1 hl1 (G':={ G with used:=(Int.tmod (K) 3==0),parent:=K+1,name:=mtx (K+1+1),weight:=K+1+1+1,cpus:=K+1+1+1+1,period:=K+1+1+1+1+1,next:=K+1+1+1+1+1+1 }) rfl rfl rfl (j:=6) (vs:=[.int .i64 (K+1+1+1+1+1+1)]) rfl (by simp)
  have hM8:=hM7.grSto i0 i1 hl1 (G':={ G with used:=(Int.tmod (K) 3==0),parent:=K+1,name:=mtx (K+1+1),weight:=K+1+1+1,cpus:=K+1+1+1+1,period:=K+1+1+1+1+1,next:=K+1+1+1+1+1+1,sum:=K+1+1+1+1+1+1+1 }) rfl rfl rfl (j:=7) (vs:=[.int .i64 (K+1+1+1+1+1+1+1)]) rfl (by simp)
  have hM9:=hM8.grSto i0 i1 hl1 (G':={ G with used:=(Int.tmod (K) 3==0),parent:=K+1,name:=mtx (K+1+1),weight:=K+1+1+1,cpus:=K+1+1+1+1,period:=K+1+1+1+1+1,next:=K+1+1+1+1+1+1,sum:=K+1+1+1+1+1+1+1,band:={ G.band with quota:=K+1+1+1+1+1+1+1+1 } }) rfl rfl rfl (j:=8) (vs:=[.int .i64 (K+1+1+1+1+1+1+1+1)]) rfl (by simp)
  have hM10:=hM9.grSto i0 i1 hl1 (G':={ G with used:=(Int.tmod (K) 3==0),parent:=K+1,name:=mtx (K+1+1),weight:=K+1+1+1,cpus:=K+1+1+1+1,period:=K+1+1+1+1+1,next:=K+1+1+1+1+1+1,sum:=K+1+1+1+1+1+1+1,band:={ G.band with quota:=K+1+1+1+1+1+1+1+1,pool:=K+1+1+1+1+1+1+1+1+1 } }) rfl rfl rfl (j:=9) (vs:=[.int .i64 (K+1+1+1+1+1+1+1+1+1)]) rfl (by simp)
  have hM11:=hM10.grSto i0 i1 hl1 (G':={ G with used:=(Int.tmod (K) 3==0),parent:=K+1,name:=mtx (K+1+1),weight:=K+1+1+1,cpus:=K+1+1+1+1,period:=K+1+1+1+1+1,next:=K+1+1+1+1+1+1,sum:=K+1+1+1+1+1+1+1,band:={ G.band with quota:=K+1+1+1+1+1+1+1+1,pool:=K+1+1+1+1+1+1+1+1+1,spent:=K+1+1+1+1+1+1+1+1+1+1 } }) rfl rfl rfl (j:=10) (vs:=[.int .i64 (K+1+1+1+1+1+1+1+1+1+1)]) rfl (by simp)
  have hc11:=hM11.grRd i0 (by omega)
  have hX11:ExtX (za3 n m) wv _:=((((((((((subG (n:=n) (m:=m) (w:=wv) (k:=Int.toNat (i:Int)*14+0) (vs:=[.bool (Int.tmod K 3==0)])).trans (subG (n:=n) (m:=m) (k:=Int.toNat (i:Int)*14+1) (vs:=[.int .i64 (K+1)]))).trans (subG (n:=n) (m:=m) (k:=Int.toNat (i:Int)*14+2) (vs:=[.string (mtx (K+1+1))]))).trans (subG (n:=n) (m:=m) (k:=Int.toNat (i:Int)*14+3) (vs:=[.int .i64 (K+1+1+1)]))).trans (subG (n:=n) (m:=m) (k:=Int.toNat (i:Int)*14+4) (vs:=[.int .i64 (K+1+1+1+1)]))).trans (subG (n:=n) (m:=m) (k:=Int.toNat (i:Int)*14+5) (vs:=[.int .i64 (K+1+1+1+1+1)]))).trans (subG (n:=n) (m:=m) (k:=Int.toNat (i:Int)*14+6) (vs:=[.int .i64 (K+1+1+1+1+1+1)]))).trans (subG (n:=n) (m:=m) (k:=Int.toNat (i:Int)*14+7) (vs:=[.int .i64 (K+1+1+1+1+1+1+1)]))).trans (subG (n:=n) (m:=m) (k:=Int.toNat (i:Int)*14+8) (vs:=[.int .i64 (K+1+1+1+1+1+1+1+1)]))).trans (subG (n:=n) (m:=m) (k:=Int.toNat (i:Int)*14+9) (vs:=[.int .i64 (K+1+1+1+1+1+1+1+1+1)]))).trans (subG (n:=n) (m:=m) (k:=Int.toNat (i:Int)*14+10) (vs:=[.int .i64 (K+1+1+1+1+1+1+1+1+1+1)]))
  refine ⟨by decide,hix,wrG hM0 (bs:=[]) (by simp) i0 i1 (j:=0) (k:=1) (by decide),⟨by omega,by omega⟩,hix,wrG hM1 (bs:=[]) (by simp) i0 i1 (j:=1) (k:=1) (by decide),⟨by omega,by omega⟩,_,z38 (by omega),hix,wrG hM2 (bs:=[]) (by simp) i0 i1 (j:=2) (k:=1) (by decide),⟨by omega,by omega⟩,hix,wrG hM3 (bs:=[]) (by simp) i0 i1 (j:=3) (k:=1) (by decide),⟨by omega,by omega⟩,hix,wrG hM4 (bs:=[]) (by simp) i0 i1 (j:=4) (k:=1) (by decide),⟨by omega,by omega⟩,hix,wrG hM5 (bs:=[]) (by simp) i0 i1 (j:=5) (k:=1) (by decide),⟨by omega,by omega⟩,hix,wrG hM6 (bs:=[]) (by simp) i0 i1 (j:=6) (k:=1) (by decide),⟨by omega,by omega⟩,hix,wrG hM7 (bs:=[]) (by simp) i0 i1 (j:=7) (k:=1) (by decide),⟨by omega,by omega⟩,hix,wrG hM8 (bs:=[]) (by simp) i0 i1 (j:=8) (k:=1) (by decide),⟨by omega,by omega⟩,hix,wrG hM9 (bs:=[]) (by simp) i0 i1 (j:=9) (k:=1) (by decide),⟨by omega,by omega⟩,hix,wrG hM10 (bs:=[]) (by simp) i0 i1 (j:=10) (k:=1) (by decide),⟨by omega,by omega⟩,hix,_,_,_,zav (hc11.get 11 _ rfl),fun wr1 hx1 _ => ?_⟩
  have hN1:=hM11.ext0 hx1
  have hO1:=hN1.grOwn i0 i1 hl1
  refine Calls.mono (zadz (k:=K+1+1+1+1+1+1+1+1+1+1+1) hO1.loc s1 (by omega) (by omega)) ?_
  rintro e wv1 ⟨he1,hL1,hy1⟩
  have hN2:=hN1.grIn (G':={ { G with used:=(Int.tmod (K) 3==0),parent:=K+1,name:=mtx (K+1+1),weight:=K+1+1+1,cpus:=K+1+1+1+1,period:=K+1+1+1+1+1,next:=K+1+1+1+1+1+1,sum:=K+1+1+1+1+1+1+1,band:={ G.band with quota:=K+1+1+1+1+1+1+1+1,pool:=K+1+1+1+1+1+1+1+1+1,spent:=K+1+1+1+1+1+1+1+1+1+1 } } with band:={ ({ G with used:=(Int.tmod (K) 3==0),parent:=K+1,name:=mtx (K+1+1),weight:=K+1+1+1,cpus:=K+1+1+1+1,period:=K+1+1+1+1+1,next:=K+1+1+1+1+1+1,sum:=K+1+1+1+1+1+1+1,band:={ G.band with quota:=K+1+1+1+1+1+1+1+1,pool:=K+1+1+1+1+1+1+1+1+1,spent:=K+1+1+1+1+1+1+1+1+1+1 } }:Grp).band with locals:=zlb G.band.locals.length (K+1+1+1+1+1+1+1+1+1+1+1) } }) i0 i1 hl1 hy1 (fun x hx=>by simp [zah]; exact .inl hx) ⟨hL1,hO1.dry.ext hy1 (hO1.dry.ty_ne hO1.loc (by decide)),hO1.shl.ext hy1 (hO1.shl.ty_ne hO1.loc (by decide))⟩ (by simp [encG,zep])
  have hc2:=hN2.grRd i0 (by omega)
  refine ⟨_,he1,zbc,hix,_,_,_,zav (hc2.get 12 _ rfl),fun wr2 hx2 _ => ?_⟩
  have hN3:=hN2.ext0 hx2
  have hO3:=hN3.grOwn i0 i1 hl1
  refine Calls.mono (zabm (k:=K+1+1+1+1+1+1+1+1+1+1+1+1*(G.band.locals.length:Int)) hO3.dry s2 (by omega) (by omega)) ?_
  rintro e wv2 ⟨he2,hD1,hy2⟩
  have hN4:=hN3.grIn (G':={ mkG G K with shelves:=G.shelves }) i0 i1 hl1 hy2 (fun x hx=>by simp [zah]; exact .inr (.inl hx)) ⟨hO3.loc.ext hy2 (hO3.loc.ty_ne hO3.dry (by decide)),hD1,hO3.shl.ext hy2 (hO3.shl.ty_ne hO3.dry (by decide))⟩ (by simp [encG,mkG,zep,ze8])
  have hc4:=hN4.grRd i0 (by omega)
  refine ⟨_,he2,zbc,hix,_,_,_,zav (hc4.get 13 _ rfl),fun wr3 hx3 _ => ?_⟩
  have hN5:=hN4.ext0 hx3
  have hO5:=hN5.grOwn i0 i1 hl1
  refine Calls.mono (z9m (k:=K+1+1+1+1+1+1+1+1+1+1+1+1*(G.band.locals.length:Int)+1*(G.band.dry.length:Int)) hO5.shl s3 (by omega) (by omega)) ?_
  rintro e wv3 ⟨he3,hS1,hy3⟩
  have hN6:=hN5.grIn (G':=mkG G K) i0 i1 hl1 hy3 (fun x hx=>by simp [zah]; exact .inr (.inr hx)) ⟨hO5.loc.ext hy3 (hO5.loc.ty_ne hO5.shl (by decide)),hO5.dry.ext hy3 (hO5.dry.ty_ne hO5.shl (by decide)),hS1⟩ (by simp [encG,mkG,ze9])
  refine ⟨_,he3,zbc,⟨by omega,by omega⟩,fun w4 hx4 _=>⟨⟨i+1,?_,by omega,?_,?_⟩,?_⟩⟩
  ·rw [hnx]; rfl
  ·rw [hdef]; exact hN6.ext0 hx4
  ·have m1:∀x∈zau (m.ms (Int.toNat (i:Int))).lO,x∈za3 n m:=fun x hx=>zjq (k:=Int.toNat (i:Int)) (by omega) (by simp [zah]; exact .inl (by simpa using hx))
   have m2:∀x∈zau (m.ms (Int.toNat (i:Int))).dO,x∈za3 n m:=fun x hx=>zjq (k:=Int.toNat (i:Int)) (by omega) (by simp [zah]; exact .inr (.inl (by simpa using hx)))
   have m3:∀x∈zau (m.ms (Int.toNat (i:Int))).sO,x∈za3 n m:=fun x hx=>zjq (k:=Int.toNat (i:Int)) (by omega) (by simp [zah]; exact .inr (.inr (by simpa using hx)))
   exact (((((((hX.trans hX11).trans hx1.of_nil).trans (hy1.mono m1)).trans hx2.of_nil).trans (hy2.mono m2)).trans hx3.of_nil).trans (hy3.mono m3)).trans hx4.of_nil
  ·simp only [zcv,cntM,zcw,List.getElem?_cons_zero,List.getElem?_cons_succ]; omega
 ·have hge:=of_decide_eq_false hge
  have:i=W.groups.length:=by omega
  subst this
  exact fun w5 hx5=>⟨rfl,hM.ext0 hx5,hX.trans hx5.of_nil⟩
set_option maxHeartbeats 1000000 in
theorem z9g {gs gs0:List Grp} {ms:Nat→MG} {o:Option Addr} {c:Nat} {k:Int} {bs:List Nat} (h:RdG bs w o gs ms) (hl:gs.length=gs0.length) (hln:gs0.length≤1048576) (hm:∀i:Nat,i<gs0.length→gi gs (i:Int)=mkG (gi gs0 (i:Int)) (gK gs0 k i)) (hs:∀i:Int,0≤i→i<(gs0.length:Int)→SmG (gi gs0 i)) (hk:0≤k) (hk2:k≤10000000000000000) :
  zab bs Tryz.prog zhd #[.slice o gs0.length c,.int .i64 k] w (.int .i64 (gK gs0 k gs0.length)) :=
 zus o gs0.length c k fun wr hx=>by
  have h:=(h.ext hx).less (cs:=[]) (by simp)
  refine zmr gs0.length 0 rfl (fun x i=>i≤gs0.length∧x=gK gs0 k i) ⟨Nat.zero_le _,rfl⟩ fun x i ⟨hi,hx1⟩=>⟨fun hlt => ?_,fun hge => ?_⟩
  ·subst hx1
   have hlt:=of_decide_eq_true hlt
   have hr:=zxc (k:=k) hs i hi
   have sm:=hs (i:Int) (by omega) hlt
   have s1:=sm.lo
   have s2:=sm.dr
   have s3:=sm.sh
   have hg:=hm i (by omega)
   have hc:=h.cells (i:Int) (by omega) (by omega)
   have hix:Ix o gs0.length (i:Int):=by have:=h.ix (i:=(i:Int)) (by omega) (by omega); rwa [hl] at this
   have hLo:=h.locals (i:Int) (by omega) (by omega)
   have hDo:=h.dry (i:Int) (by omega) (by omega)
   have hSo:=h.shelves (i:Int) (by omega) (by omega)
   have e1:(gi gs (i:Int)).band.locals=zlb (gi gs0 (i:Int)).band.locals.length (gK gs0 k i+1+1+1+1+1+1+1+1+1+1+1):=by rw [hg]; rfl
   have e2:(gi gs (i:Int)).band.dry=zlm (gi gs0 (i:Int)).band.dry.length (gK gs0 k i+1+1+1+1+1+1+1+1+1+1+1+1*((gi gs0 (i:Int)).band.locals.length:Int)):=by rw [hg]; rfl
   have e3:(gi gs (i:Int)).shelves=zln (gi gs0 (i:Int)).shelves.length (gK gs0 k i+1+1+1+1+1+1+1+1+1+1+1+1*((gi gs0 (i:Int)).band.locals.length:Int)+1*((gi gs0 (i:Int)).band.dry.length:Int)):=by rw [hg]; rfl
   have hI:=zadv (c:=(ms (Int.toNat (i:Int))).lC) (e1▸hLo) s1 (by omega) (by omega)
   have hB:=zabh (c:=(ms (Int.toNat (i:Int))).dC) (e2▸hDo) s2 (by omega) (by omega)
   have hS:=z9h (c:=(ms (Int.toNat (i:Int))).sC) (e3▸hSo) s3 (by omega) (by omega)
   have l1:(gi gs (i:Int)).band.locals.length=(gi gs0 (i:Int)).band.locals.length:=by rw [e1,zep]
   have l2:(gi gs (i:Int)).band.dry.length=(gi gs0 (i:Int)).band.dry.length:=by rw [e2,ze8]
   have l3:(gi gs (i:Int)).shelves.length=(gi gs0 (i:Int)).shelves.length:=by rw [e3,ze9]
   have c11:zaa [] wr o (Int.toNat (i:Int)*14+11) [.slice (ms (Int.toNat (i:Int))).lO (gi gs0 (i:Int)).band.locals.length (ms (Int.toNat (i:Int))).lC]:=by rw [←l1]; exact zav (hc.get 11 _ rfl)
   have c12:zaa [] wr o (Int.toNat (i:Int)*14+12) [.slice (ms (Int.toNat (i:Int))).dO (gi gs0 (i:Int)).band.dry.length (ms (Int.toNat (i:Int))).dC]:=by rw [←l2]; exact zav (hc.get 12 _ rfl)
   have c13:zaa [] wr o (Int.toNat (i:Int)*14+13) [.slice (ms (Int.toNat (i:Int))).sO (gi gs0 (i:Int)).shelves.length (ms (Int.toNat (i:Int))).sC]:=by rw [←l3]; exact zav (hc.get 13 _ rfl)
   have f0:(gi gs (i:Int)).used=(Int.tmod (gK gs0 k i) 3==0):=by rw [hg]; rfl
   have f1:(gi gs (i:Int)).parent=gK gs0 k i+1:=by rw [hg]; rfl
   have f2:(gi gs (i:Int)).name=mtx (gK gs0 k i+1+1):=by rw [hg]; rfl
   have f3:(gi gs (i:Int)).weight=gK gs0 k i+1+1+1:=by rw [hg]; rfl
   have f4:(gi gs (i:Int)).cpus=gK gs0 k i+1+1+1+1:=by rw [hg]; rfl
   have f5:(gi gs (i:Int)).period=gK gs0 k i+1+1+1+1+1:=by rw [hg]; rfl
   have f6:(gi gs (i:Int)).next=gK gs0 k i+1+1+1+1+1+1:=by rw [hg]; rfl
   have f7:(gi gs (i:Int)).sum=gK gs0 k i+1+1+1+1+1+1+1:=by rw [hg]; rfl
   have f8:(gi gs (i:Int)).band.quota=gK gs0 k i+1+1+1+1+1+1+1+1:=by rw [hg]; rfl
   have f9:(gi gs (i:Int)).band.pool=gK gs0 k i+1+1+1+1+1+1+1+1+1:=by rw [hg]; rfl
   have f10:(gi gs (i:Int)).band.spent=gK gs0 k i+1+1+1+1+1+1+1+1+1+1:=by rw [hg]; rfl
   refine ⟨hix,_,zav (hc.get 0 _ rfl),by decide,fun hb=>(by rw [f0] at hb; simp at hb),fun _=>⟨⟨by omega,by omega⟩,hix,_,zav (hc.get 1 _ rfl),fun hb=>(by rw [f1] at hb; simp at hb),fun _=>⟨⟨by omega,by omega⟩,hix,_,zav (hc.get 2 _ rfl),_,z38 (by omega),fun hb=>(by rw [f2,zi1.2 rfl] at hb; cases hb),fun _=>⟨⟨by omega,by omega⟩,hix,_,zav (hc.get 3 _ rfl),fun hb=>(by rw [f3] at hb; simp at hb),fun _=>⟨⟨by omega,by omega⟩,hix,_,zav (hc.get 4 _ rfl),fun hb=>(by rw [f4] at hb; simp at hb),fun _=>⟨⟨by omega,by omega⟩,hix,_,zav (hc.get 5 _ rfl),fun hb=>(by rw [f5] at hb; simp at hb),fun _=>⟨⟨by omega,by omega⟩,hix,_,zav (hc.get 6 _ rfl),fun hb=>(by rw [f6] at hb; simp at hb),fun _=>⟨⟨by omega,by omega⟩,hix,_,zav (hc.get 7 _ rfl),fun hb=>(by rw [f7] at hb; simp at hb),fun _=>⟨⟨by omega,by omega⟩,hix,_,zav (hc.get 8 _ rfl),fun hb=>(by rw [f8] at hb; simp at hb),fun _=>⟨⟨by omega,by omega⟩,hix,_,zav (hc.get 9 _ rfl),fun hb=>(by rw [f9] at hb; simp at hb),fun _=>⟨⟨by omega,by omega⟩,hix,_,zav (hc.get 10 _ rfl),fun hb=>(by rw [f10] at hb; simp at hb),fun _=>⟨⟨by omega,by omega⟩,hix,_,_,_,c11,_,hI,fun hb=>(by have:=of_decide_eq_true hb; omega),fun _=>⟨hix,_,_,_,c12,_,hB,fun hb=>(by have:=of_decide_eq_true hb; omega),fun _=>⟨hix,_,_,_,c13,_,hS,fun hb=>(by have:=of_decide_eq_true hb; omega),fun _=>⟨⟨by omega,by omega⟩,zap (by omega) ⟨by omega,rfl⟩⟩⟩⟩⟩⟩⟩⟩⟩⟩⟩⟩⟩⟩⟩⟩
  ·have hge:=of_decide_eq_false hge
   have:i=gs0.length:=by omega
   subst this
   rw [hx1]
end
end Go.Proofs.YtajdcjidpolloaaGreatDoor
namespace Go.Proofs.YtajdcjidpolloaaGreatDoor
open Go.RowKit
set_option linter.unusedVariables false
set_option linter.unusedSimpArgs false
set_option maxRecDepth 10000
def kC (W:Wld):Int:=1+5*(W.cpus.length:Int)
def kT (W:Wld):Int:=kC W+9*(W.tasks.length:Int)
def mK (W:Wld):Int:=gK W.groups (kT W) W.groups.length
def zai8 (W:Wld):Wld:={ W with cpus:=zj0 W.cpus.length 1,tasks:=zlc W.tasks.length (kC W),groups:=zob W.groups (kT W) W.groups.length }
section
variable {n base:Nat} {W:Wld} {m:MW} {w w':World} {bs:List Nat}
theorem zagg (sm:SmW W):0≤mK W:=by
 have:=zxc (k:=kT W) sm.gs W.groups.length (Nat.le_refl _)
 unfold mK kT kC at *
 omega
theorem zzt (h:MWd n base w W m) (sm:SmW W) :
  Calls Tryz.prog zfg #[.agg (encW W m).toArray,.int .i64 1] w fun e w'=>e = .returned (.int .i64 (mK W))∧MWd n base w' (zai8 W) m∧ExtX (za3 n m) w w':=by
 refine (zwk W.now m.cO W.cpus.length m.cC m.tO W.tasks.length m.tC m.gO W.groups.length m.gC 1 (R:=fun v w'=>v = .int .i64 (mK W)∧MWd n base w' (zai8 W) m∧ExtX (za3 n m) w w') ?_).mono fun e w' ⟨v,he,hv,h1⟩=>⟨by rw [he,hv],h1⟩
 have s1:=sm.c
 have s2:=sm.t
 have s3:=sm.g
 intro b hb wr hx hs
 have hnb:∀y∈za3 n m,y∉[b]:=fun y hy hm=>by
  have:y=b:=by simpa using hm
  have:=(h.lt y hy).2
  omega
 have hM0:=h.ext0 hx
 refine Calls.mono (zady hM0.c s1 (by decide) (by decide)) ?_
 rintro e wv ⟨he,hC,hy⟩
 have hyW:ExtX (za3 n m) wr wv:=hy.mono fun y hy=>z4b hy
 have hM1:MWd n base wv { W with cpus:=zj0 W.cpus.length 1 } m:=⟨hC,hM0.t.ext hy (hM0.t.ty_ne hM0.c (by decide)),hM0.g.foreign hM0.c (by decide) (by decide) (by decide) (by decide) hy,hM0.len⟩
 refine ⟨_,he,zjz hyW hs hnb,fun wr1 hx1 hs1 => ?_⟩
 have hM2:=hM1.ext hx1 hnb
 refine Calls.mono (zabn (k:=kC W) hM2.t s2 (by unfold kC; omega) (by unfold kC; omega)) ?_
 rintro e1 wv1 ⟨he1,hT,hy1⟩
 have hyW1:ExtX (za3 n m) wr1 wv1:=hy1.mono fun y hy=>z4c hy
 have hM3:MWd n base wv1 { W with cpus:=zj0 W.cpus.length 1,tasks:=zlc W.tasks.length (kC W) } m:=⟨hM2.c.ext hy1 (hM2.c.ty_ne hM2.t (by decide)),hT,hM2.g.foreign hM2.t (by decide) (by decide) (by decide) (by decide) hy1,hM2.len⟩
 refine ⟨_,he1,zjz hyW1 hs1 hnb,fun wr2 hx2 hs2 => ?_⟩
 have hM4:=hM3.ext hx2 hnb
 refine Calls.mono (z9l (W:={ W with cpus:=zj0 W.cpus.length 1,tasks:=zlc W.tasks.length (kC W) }) (k:=kT W) hM4 s3 sm.gs (by unfold kT kC; omega) (by unfold kT kC; omega)) ?_
 rintro e2 wv2 ⟨he2,hG,hy2⟩
 refine ⟨_,he2,zjz hy2 hs2 hnb,fun wr3 hx3=>⟨rfl,hG.ext hx3 hnb,?_⟩⟩
 have hone:∀y∈[b],w.heap.size≤y:=fun y hm=>by
  have:y=b:=by simpa using hm
  omega
 exact ((((((hx.of_nil.trans hyW).fresh hx1 fun y hm=>.inl (hone y hm)).trans hyW1).fresh hx2 fun y hm=>.inl (hone y hm)).trans hy2).fresh hx3 fun y hm=>.inl (hone y hm))
theorem zzq (h:RdW bs w (zai8 W) m) (sm:SmW W):zab bs Tryz.prog zff #[.agg (encW W m).toArray,.int .i64 1] w (.int .i64 (mK W)) :=
 zw3 W.now m.cO W.cpus.length m.cC m.tO W.tasks.length m.tC m.gO W.groups.length m.gC 1 fun wr hx=>by
  have h:=(h.ext hx).less (cs:=[]) (by simp)
  have s1:=sm.c
  have s2:=sm.t
  have s3:=sm.g
  have hp:=zagg sm
  intro b hb
  refine ⟨_,zadu (k:=1) h.c s1 (by decide) (by decide),fun g => ?_,fun _=>⟨_,zabi (k:=kC W) h.t s2 (by unfold kC; omega) (by unfold kC; omega),fun g => ?_,fun _=>⟨mK W,z9g (gs0:=W.groups) (k:=kT W) h.g (zo1 _ _ _) s3 (fun i hi => ?_) sm.gs (by unfold kT kC; omega) (by unfold kT kC; omega),fun g => ?_,fun _=>rfl⟩⟩⟩
  ·have:=of_decide_eq_true g; omega
  ·have:=of_decide_eq_true g; unfold kC at this; omega
  ·have:=z62 (gs:=W.groups) (k:=kT W) W.groups.length i (Nat.le_refl _)
   rw [if_pos hi] at this
   exact this
  ·have:=of_decide_eq_true g; omega
theorem zai3 {D:Wld} {M:MW} {w0:World} (h:RdW [] w0 D M) (s:Sc w0 bs w) (hs:∀x∈bs,x<w.heap.size) (sm:SmW D) :
  Calls Tryz.prog zc1 #[.agg (encW D M).toArray] w fun e w'=>∃m',e = .returned (.agg (encW D m').toArray)∧OW D.groups.length w.heap.size bs w' D m'∧ExtX [] w w' :=
 (zaf7 (h.ext s.ext) sm).mono fun e w' ⟨m',he,hO,hx⟩=>⟨m',he,OW.of (MWd.of hO rfl) hs,hx⟩
theorem eqWW {A:Wld} {ma mb:MW} (ha:RdW bs w A ma) (hb:RdW bs w A mb) (hs:SmW A):zab bs Tryz.prog zc0 #[.agg (encW A ma).toArray,.agg (encW A mb).toArray] w (.bool true):=by
 have:=zafv ha hb hs
 rwa [decide_eq_true rfl] at this
end
theorem zalr:SmW z3p:=⟨by decide,by decide,by decide,fun i a b=>by simp [z3p] at b; omega⟩
theorem zajo {W:Wld} (ha:WA W) (hn:∀i:Int,0≤i→i<8→(gi W.groups i).name.size≤1048576):SmW W:=by
 have h1:=ha.c2
 have h2:=ha.t
 have h3:=ha.gl
 refine ⟨by omega,by omega,by omega,fun i a b => ?_⟩
 have:=zr8 ha a (by omega)
 exact ⟨hn i a (by omega),by omega,by omega,by omega⟩
theorem zam0 {W W':Wld} (sm:SmW W) (ha:WA W') (hf:zdo W.groups W'.groups):SmW W':=zajo ha fun i a b=>by
 rw [hf.n]
 have hl:=ha.gl
 rw [hf.len] at hl
 exact (sm.gs i a (by omega)).nm
theorem zal7 {W W':Wld} {bar:Int} (sm:SmW W) (h:zcq W=true→bar=0→SmW W'):SmW (ansD W bar W').1:=by
 unfold ansD
 split
 ·exact zalr
 ·rename_i hW
  split
  ·exact sm
  ·rename_i hb
   exact h (by simpa using hW) (by simpa using hb)
theorem zam1 {K:Int} {W W1:Wld} (sm:SmW W) (hS:SW K W1) (hK:0≤K) (hf:zdo W.groups W1.groups):SmW (zce W1) :=
 zam0 sm (znc hS hK).1.a (hf.trans (znc hS hK).2.g)
end Go.Proofs.YtajdcjidpolloaaGreatDoor
namespace Go.Proofs.YtajdcjidpolloaaGreatDoor
open Go.RowKit
set_option linter.unusedVariables false
set_option linter.unusedSimpArgs false
set_option maxRecDepth 10000
section
variable {W:Wld} {m:MW} {w:World} {bar:Int}
set_option maxHeartbeats 1000000 in
theorem zaks {base pb b:Nat} {w w':World} {W W':Wld} {m m':MW} {o:Obj} (h:PW base pb w W m) (hb:b<base) (hpb:base≤pb) (hc:w.heap[b]? = some o) (hM:Mp base pb [] w m w' W' m'):w'.heap[b]? = some o :=
 zan hc hM.v.ext fun hm=>by
  have:=(h.own.lt b hm).1
  omega
end
end Go.Proofs.YtajdcjidpolloaaGreatDoor
namespace Go.Proofs.YtajdcjidpolloaaGreatDoor
open Go.RowKit
set_option linter.unusedVariables false
set_option linter.unusedSimpArgs false
set_option maxRecDepth 10000
theorem zahh {W:Wld} {t:Int} {x:Tsk} (t0:0≤t) (t1:t<(W.tasks.length:Int)):tkk (setTk W t x) t=x:=by
 show gi (W.tasks.set t.toNat x) t=x
 rw [zci _ _ t0 t1 t0,if_pos rfl]
theorem set_set {W:Wld} {t:Int} {x y:Tsk}:setTk (setTk W t x) t y=setTk W t y:=by simp [setTk]
section
variable {W:Wld} {m:MW} {w:World} {bar:Int}
theorem z6u {bs:List Nat} {t:Int} (h:RdW bs w W m) (t0:0≤t) (t1:t<(W.tasks.length:Int)) (g0:0≤(tkk W t).group) (g1:(tkk W t).group<(W.groups.length:Int)) (c0:0≤(tkk W t).cpu) (c1:(tkk W t).cpu<((gi W.groups (tkk W t).group).shelves.length:Int)) (hr:InR .i64 ((tkk W t).v - (shf W (tkk W t).group (tkk W t).cpu).floor)) :
  zab bs Tryz.prog zmi #[.agg (encW W m).toArray,.int .i64 t] w (.int .i64 (zc5 ((tkk W t).v - (shf W (tkk W t).group (tkk W t).cpu).floor) (zam (tkk W t).nice))) :=
 z7q W.now m.cO W.cpus.length m.cC m.tO W.tasks.length m.tC m.gO W.groups.length m.gC t fun wr hx=>by
  have h:=(h.ext hx).less (cs:=[]) (by simp)
  intro b hb
  exact ⟨h.t.ix zbb t0 t1,_,_,_,_,_,_,_,_,_,h.t t t0 t1,fun b1 hb1=>⟨h.g.ix g0 g1,_,_,_,h.g.shelf g0 g1,(h.g.shelves _ g0 g1).ix zej c0 c1,_,(h.g.shelves _ g0 g1).f c0 c1 (j:=0) rfl,hr,_,zc4,_,znw,rfl⟩⟩
set_option maxHeartbeats 1000000 in
theorem zvf {bs:List Nat} {p:Option Addr} {t:Int} (h:WPt bs w p W m) (t0:0≤t) (t1:t<(W.tasks.length:Int)) (g0:0≤(tkk W t).group) (g1:(tkk W t).group<(W.groups.length:Int)) (c0:0≤(tkk W t).cpu) (c1:(tkk W t).cpu<((gi W.groups (tkk W t).group).shelves.length:Int)) :
  zab bs Tryz.prog zeb #[.pointer p,.int .i64 t] w (.int .i64 (shf W (tkk W t).group (tkk W t).cpu).floor) :=
 zsz p t fun wr hx=>by
  have h:=(h.ext hx).less (cs:=[]) (by simp)
  exact ⟨h.some,_,_,_,h.tasks,h.rd.t.ix zbb t0 t1,_,_,_,_,_,_,_,_,_,h.rd.t t t0 t1,fun b hb=>⟨_,_,zby,_,za2 h g0 g1 c0 c1,(h.sh g0 g1 c0 c1).1,_,(h.sh g0 g1 c0 c1).2 (j:=0) rfl,rfl⟩⟩
set_option maxHeartbeats 1000000 in
end
end Go.Proofs.YtajdcjidpolloaaGreatDoor
namespace Go.Proofs.YtajdcjidpolloaaGreatDoor
open Go.RowKit
set_option linter.unusedVariables false
set_option linter.unusedSimpArgs false
set_option maxRecDepth 10000
section
variable {W W':Wld} {m:MW} {w:World} {bar:Int}
theorem Done.pre {base pb:Nat} {ex:List Nat} {w0 w w':World} {W':Wld} {m m':MW} (hx:ExtX [] w0 w) (h:Done base pb ex w m w' W' m'):Done base pb ex w0 m w' W' m' :=
 ⟨h.own,h.pt,hx.of_nil.trans h.ext,fun x hy=>(h.sub x hy).imp id fun hz=>Nat.le_trans hx.size hz⟩
theorem Done.post {base pb:Nat} {ex:List Nat} {w w' w1:World} {W':Wld} {m m':MW} (h:Done base pb ex w m w' W' m') (hx:ExtX [] w' w1):Done base pb ex w m w1 W' m' :=
 ⟨h.own.ext0 hx,zan h.pt hx (by simp),h.ext.trans hx.of_nil,h.sub⟩
end
end Go.Proofs.YtajdcjidpolloaaGreatDoor
namespace Go.Proofs.YtajdcjidpolloaaGreatDoor
open Go.RowKit
set_option linter.unusedVariables false
set_option linter.unusedSimpArgs false
set_option maxRecDepth 10000
def lagT (W:Wld) (t:Int):Int:=zc5 ((tkk W t).v - (shf W (tkk W t).group (tkk W t).cpu).floor) (zam (tkk W t).nice)
def putT (W:Wld) (t g c:Int):Tsk:={ tkk W t with group:=g,cpu:=c,v:=(shf W g c).floor+lagT W t }
def putW (W:Wld) (t g c:Int):Wld:=if (tkk W t).state=1 then endW (setTk W t (putT W t g c)) c else setTk W t (putT W t g c)
theorem zuh (W:Wld) (t:Int):0≤lagT W t∧lagT W t≤lagB:=by
 have lc:=zdi ((tkk W t).v - (shf W (tkk W t).group (tkk W t).cpu).floor) (zam (tkk W t).nice)
 have lm:=zcm (zam (tkk W t).nice)
 unfold lagT
 simp only [lagB]
 omega
theorem SF.setTk {F K:Int} {W:Wld} (h:SF F K W) {t:Int} (t0:0≤t) (t1:t<12) {x:Tsk} (hx:x.state≠0→zad W.groups x.group=true∧0≤x.cpu∧x.cpu<(W.cpus.length:Int)) (v0:0≤x.v) (v1:x.v≤K):SF F K (setTk W t x):=⟨h.w.setTk t0 t1 hx v0 v1,h.f⟩
theorem SF.endW {F K:Int} {W:Wld} (h:SF F K W) {c:Int} (c0:0≤c) (c1:c<(W.cpus.length:Int)):SF F K (endW W c) :=
 ⟨h.w.endW c0 c1,fun k d u a b=>h.f k d u a (by
  have b:d<(((W.cpus.set c.toNat (endC (gi W.cpus c))).length:Nat):Int):=b
  rwa [List.length_set] at b)⟩
theorem zalm {F K:Int} {W:Wld} (h:SF F K W) (hk:F+lagB≤K) {t g c:Int} (hg:zad W.groups g=true) (c0:0≤c) (c1:c<(W.cpus.length:Int)):0≤(putT W t g c).v∧(putT W t g c).v≤K:=by
 have hf:=h.f g c hg c0 c1
 have hs:=h.w.s g c hg c0 c1
 have hl:=zuh W t
 show 0≤(shf W g c).floor+lagT W t∧(shf W g c).floor+lagT W t≤K
 omega
theorem zaln {F K:Int} {W:Wld} (h:SF F K W) (hk:F+lagB≤K) {t g c:Int} (t0:0≤t) (t1:t<12) (hg:zad W.groups g=true) (c0:0≤c) (c1:c<(W.cpus.length:Int)):SF F K (setTk W t (putT W t g c))∧SF F K (putW W t g c):=by
 have hv:=zalm h hk (t:=t) hg c0 c1
 have h1:=h.setTk t0 t1 (x:=putT W t g c) (fun _=>⟨hg,c0,c1⟩) hv.1 hv.2
 refine ⟨h1,?_⟩
 unfold putW
 split
 ·exact h1.endW c0 c1
 ·exact h1
theorem zakg (W:Wld) (t g c:Int):(putW W t g c).now=W.now∧(putW W t g c).cpus.length=W.cpus.length∧(putW W t g c).tasks.length=W.tasks.length∧(putW W t g c).groups=W.groups:=by
 unfold putW
 split
 ·exact ⟨rfl,by simp [endW,zaeg,setTk],by simp [endW,zaeg,setTk],rfl⟩
 ·exact ⟨rfl,rfl,by simp [setTk],rfl⟩
structure RelF (W W':Wld):Prop where
 n:W'.now=W.now
 c:W'.cpus.length=W.cpus.length
 t:W'.tasks.length=W.tasks.length
 g:W'.groups=W.groups
theorem RelF.trans {A B C:Wld} (h:RelF A B) (k:RelF B C):RelF A C:=⟨k.n.trans h.n,k.c.trans h.c,k.t.trans h.t,k.g.trans h.g⟩
end Go.Proofs.YtajdcjidpolloaaGreatDoor
namespace Go.Proofs.YtajdcjidpolloaaGreatDoor
open Go.RowKit
set_option linter.unusedVariables false
set_option linter.unusedSimpArgs false
set_option maxRecDepth 10000
section
variable {base:Nat} {W W':Wld} {m:MW} {w:World} {bar:Int}
theorem z6c (W:Wld) (t:Int) (x:Tsk) (m:MW):encW (setTk W t x) m=encW W m:=by simp [encW,setTk]
theorem z6v {F K:Int} (h:MWd 8 base w W m) (hsw:SF F K W) (hk:F+lagB≤K) (hK:K≤1000000000000000000) {t g c:Int} (t0:0≤t) (t1:t<12) (hs:(tkk W t).state≠0) (hg:zad W.groups g=true) (c0:0≤c) (c1:c<(W.cpus.length:Int)) :
  Calls Tryz.prog zmj #[.agg (encW W m).toArray,.int .i64 t,.int .i64 g,.int .i64 c] w fun e w'=>e = .returned (.agg (encW W m).toArray)∧Mv 8 base [] w m w' (putW W t g c) m:=by
 refine (z6a W.now m.cO W.cpus.length m.cC m.tO W.tasks.length m.tC m.gO W.groups.length m.gC t g c (R:=fun v w'=>v = .agg (encW W m).toArray∧Mv 8 base [] w m w' (putW W t g c) m) ?_).mono fun e w' ⟨v,he,hv,h3⟩=>⟨by rw [he,hv],h3⟩
 intro y hy y1 hy1
 obtain ⟨g0,g1,_⟩:=zac.1 hg
 have htl:=hsw.w.a.t
 have hgl:=hsw.w.a.gl
 have hsl:=hsw.w.a.sl hg
 have hl1:t<(W.tasks.length:Int):=by omega
 obtain ⟨hu,d0,d1⟩:=hsw.w.t t t0 t1 hs
 obtain ⟨q0,q1,_⟩:=zac.1 hu
 have hql:=hsw.w.a.sl hu
 have s1:=hsw.w.s g c hg c0 c1
 have s2:=hsw.w.s _ _ hu d0 d1
 have hv:=hsw.w.tv t t0 t1
 have hlr:=zuh W t
 simp only [lagB] at hlr
 have hM:=Mv.two h hy hy1
 have hr:=(Mv.start h).rd
 have hix:=hr.t.ix zbb t0 hl1
 have hset:=h.stoT t0 hl1 (j:=0) (vs:=encT (putT W t g c)) (x:=putT W t g c) (by simp [encT]) (by simp [encT])
 have e5:encW (setTk W t (putT W t g c)) m=encW W m:=z6c _ _ _ _
 have e6:encW (endW (setTk W t (putT W t g c)) c) m=encW W m:=(zfr (z9c _ _)).trans e5
 refine ⟨lagT W t,z6u hr t0 hl1 q0 q1 d0 (by omega) ⟨by show _≤(tkk W t).v - (shf W (tkk W t).group (tkk W t).cpu).floor; omega,by show (tkk W t).v - (shf W (tkk W t).group (tkk W t).cpu).floor≤_; omega⟩,hix,_,_,_,_,_,_,_,_,_,hr.t t t0 hl1,fun b2 hb2=>⟨hr.g.ix g0 g1,_,_,_,hr.g.shelf g0 g1,(hr.g.shelves g g0 g1).ix zej c0 (by omega),(shf W g c).floor,RdS.f (hr.g.shelves g g0 g1) c0 (by omega) (j:=0) rfl,⟨by omega,by omega⟩,hix,wrT h (by simp) t0 hl1 (j:=0) (by decide),fun g4 wr hx hs4 => ?_,fun g4 wr hx=>⟨rfl,?_⟩⟩⟩
 ·have g4:(tkk W t).state=1:=eq_of_beq g4
  have hM2:=((hM.add hb2).deed hset subT).step (hx.of_nil)
  have hcall:=zlw hM2.own (W:=setTk W t (putT W t g c)) c0 c1
  rw [e5,e6] at hcall
  refine Calls.mono hcall ?_
  rintro e wv ⟨he1,hy2⟩
  refine ⟨_,_,_,_,_,_,_,_,_,_,he1,hM2.kept hy2 hs4,fun wr2 hx4=>⟨rfl,?_⟩⟩
  unfold putW
  rw [if_pos g4]
  exact ((hM2.call hy2 hs4).step hx4).close
 ·have g4:¬(tkk W t).state=1:=ne_of_beq_false g4
  unfold putW
  rw [if_neg g4]
  exact ((Mv.start h).deed hset subT).call0 hx
section
variable {pb:Nat}
theorem zadx {F K:Int} (h:PW base pb w W m) (hsw:SF F K W) (hk:F+lagB≤K) (hK:K≤1000000000000000000) {t g c:Int} (t0:0≤t) (t1:t<12) (hs:(tkk W t).state≠0) (hg:zad W.groups g=true) (c0:0≤c) (c1:c<(W.cpus.length:Int)) :
  Calls Tryz.prog zh5 #[.pointer (pA pb),.int .i64 t,.int .i64 g,.int .i64 c] w fun e w'=>e = .returned (.tuple #[])∧Mp base pb [] w m w' (putW W t g c) m:=by
 refine (zwe (pA pb) t g c (R:=fun v w'=>v = .tuple #[]∧Mp base pb [] w m w' (putW W t g c) m) ?_).mono fun e w' ⟨v,he,hv,h3⟩=>⟨by rw [he,hv],h3⟩
 obtain ⟨g0,g1,_⟩:=zac.1 hg
 have htl:=hsw.w.a.t
 have hgl:=hsw.w.a.gl
 have hsl:=hsw.w.a.sl hg
 have hl1:t<(W.tasks.length:Int):=by omega
 obtain ⟨hu,d0,d1⟩:=hsw.w.t t t0 t1 hs
 obtain ⟨q0,q1,_⟩:=zac.1 hu
 have hql:=hsw.w.a.sl hu
 have s1:=hsw.w.s g c hg c0 c1
 have s2:=hsw.w.s _ _ hu d0 d1
 have hv:=hsw.w.tv t t0 t1
 have hlr:=zuh W t
 simp only [lagB] at hlr
 have hM:=Mp.start h
 have hp:=hM.wpt
 have hset1:=hM.own.stoT t0 hl1 (j:=1) (vs:=[.int .i64 g]) (x:={ tkk W t with group:=g }) rfl (by simp)
 have hM1:Mp base pb [] w m _ (setTk W t { tkk W t with group:=g }) m:=hM.deed hset1 subT (z6c _ _ _ _)
 have ht1:t<((setTk W t { tkk W t with group:=g }).tasks.length:Int):=by simpa [setTk] using hl1
 have e1:gi (setTk W t { tkk W t with group:=g }).tasks t={ tkk W t with group:=g }:=zahh t0 hl1
 have hset2:=hM1.own.stoT t0 ht1 (j:=2) (vs:=[.int .i64 c]) (x:={ tkk W t with group:=g,cpu:=c }) (by rw [e1]; rfl) (by simp)
 have hM2:Mp base pb [] w m _ (setTk (setTk W t { tkk W t with group:=g }) t { tkk W t with group:=g,cpu:=c }) m:=hM1.deed hset2 subT (z6c _ _ _ _)
 rw [set_set] at hM2
 have ht2:t<((setTk W t { tkk W t with group:=g,cpu:=c }).tasks.length:Int):=by simpa [setTk] using hl1
 have e2:gi (setTk W t { tkk W t with group:=g,cpu:=c }).tasks t={ tkk W t with group:=g,cpu:=c }:=zahh t0 hl1
 have e2':tkk (setTk W t { tkk W t with group:=g,cpu:=c }) t={ tkk W t with group:=g,cpu:=c }:=e2
 have hp2:=hM2.wpt
 have hfl2:=zvf (t:=t) hp2 t0 ht2 (by rw [e2']; exact g0) (by rw [e2']; exact g1) (by rw [e2']; exact c0) (by rw [e2']; show c<(((gi W.groups g).shelves.length:Nat):Int); omega)
 rw [e2'] at hfl2
 have hset3:=hM2.own.stoT t0 ht2 (j:=5) (vs:=[.int .i64 ((shf W g c).floor+lagT W t)]) (x:=putT W t g c) (by rw [e2]; rfl) (by simp)
 have hM3:Mp base pb [] w m _ (setTk (setTk W t { tkk W t with group:=g,cpu:=c }) t (putT W t g c)) m:=hM2.deed hset3 subT (z6c _ _ _ _)
 rw [set_set] at hM3
 have ht3:t<((setTk W t (putT W t g c)).tasks.length:Int):=by simpa [setTk] using hl1
 have e3:gi (setTk W t (putT W t g c)).tasks t=putT W t g c:=zahh t0 hl1
 have hp3:=hM3.wpt
 have hst:=RdT.f hp3.rd.t t0 ht3 (j:=0) rfl
 rw [e3] at hst
 refine ⟨hp.some,_,_,_,hp.tasks,hp.rd.t.ix zbb t0 hl1,_,RdT.f hp.rd.t t0 hl1 (j:=5) rfl,_,zvf hp t0 hl1 q0 q1 d0 (by omega),⟨by show _≤(tkk W t).v - (shf W (tkk W t).group (tkk W t).cpu).floor; omega,by show (tkk W t).v - (shf W (tkk W t).group (tkk W t).cpu).floor≤_; omega⟩,_,zjx hp t0 hl1,_,znq,wrT hM.own hM.nb t0 hl1 (j:=1) (by decide),wrT hM1.own hM1.nb t0 ht1 (j:=2) (by decide),_,hfl2,⟨by show _≤(shf W g c).floor+lagT W t; omega,by show (shf W g c).floor+lagT W t≤_; omega⟩,wrT hM2.own hM2.nb t0 ht2 (j:=5) (by decide),_,hst,fun g4=>⟨_,_,zby,fun wr hx _ => ?_⟩,fun g4 wr2 hx=>⟨rfl,?_⟩⟩
 ·have g4:(tkk W t).state=1:=eq_of_beq g4
  have hM4:=hM3.nil hx
  refine Calls.mono (zgj hM4.pw (W:=setTk W t (putT W t g c)) c0 c1) ?_
  rintro e wv ⟨he,hy⟩
  refine ⟨he,zbc,fun wr1 hx1=>⟨rfl,?_⟩⟩
  unfold putW
  rw [if_pos g4]
  exact (hM4.call hy (by simp)).nil hx1
 ·have g4:¬(tkk W t).state=1:=ne_of_beq_false g4
  unfold putW
  rw [if_neg g4]
  exact hM3.nil hx
end
end
end Go.Proofs.YtajdcjidpolloaaGreatDoor
namespace Go.Proofs.YtajdcjidpolloaaGreatDoor
open Go.RowKit
set_option linter.unusedVariables false
set_option linter.unusedSimpArgs false
set_option maxRecDepth 10000
theorem zank {W:Wld} (sw:SW zbu W):SF zbu (zbu+lagB) W:=sw.sf.mono (Int.le_refl _) (by simp only [lagB]; decide)
section
variable {base pb:Nat} {W W':Wld} {m:MW} {w:World} {bar:Int}
end
end Go.Proofs.YtajdcjidpolloaaGreatDoor
namespace Go.Proofs.YtajdcjidpolloaaGreatDoor
open Go.RowKit
set_option linter.unusedVariables false
set_option linter.unusedSimpArgs false
set_option maxRecDepth 10000
def lvD (n:Int):Int:=if inB n 1 4=true then (if n=1 then 0 else if n=2 then 1 else 2) else 0
theorem zagd {n:Int} (h:inB n 1 4=true):(n=1∧lvD n=0)∨(n=2∧lvD n=1)∨(n=3∧lvD n=2)∨(n=4∧lvD n=2):=by
 have:=za0.1 h
 have:n=1∨n=2∨n=3∨n=4:=by omega
 rcases this with rfl | rfl | rfl | rfl
 ·exact .inl ⟨rfl,by decide⟩
 ·exact .inr (.inl ⟨rfl,by decide⟩)
 ·exact .inr (.inr (.inl ⟨rfl,by decide⟩))
 ·exact .inr (.inr (.inr ⟨rfl,by decide⟩))
def zad6 (c lv j:Int):Bool:=Int.fdiv j (2 ^ (min (Int.toNat (lv+1)) 64))==Int.fdiv c (2 ^ (min (Int.toNat (lv+1)) 64))
def spN (c lv:Int):Nat→Int
 | 0=>0
 | k+1=>if zad6 c lv (k:Int)=true then spN c lv k+bitN k else spN c lv k
theorem zacw (c lv:Int):∀k:Nat,k≤4→0≤spN c lv k∧spN c lv k<bitN k
 | 0,_=>by simp [spN,bitN]
 | k+1,h=>by
  have ih:=zacw c lv k (by omega)
  have hb:bitN (k+1)=2*bitN k∧0≤bitN k:=by
   have:k=0∨k=1∨k=2∨k=3:=by omega
   rcases this with rfl | rfl | rfl | rfl <;> decide
  simp only [spN]
  split <;> omega
def zs9 (n c lv:Int):Bool:=(inB n 1 4&&inB c 0 (n - 1))&&inB lv 0 (lvD n - 1)
def spD (n c lv:Int):Int:=if zs9 n c lv=true then spN c lv n.toNat else 0
theorem zals:∀(m:Fin 16) (c:Fin 4),(m.val:Int)<bitN c.val→mHas (m.val:Int) (c.val:Int)=false:=by decide +kernel
theorem zajp {n:Nat} {c lv:Int} {b:Nat} (hn:n≤b) (hb:b<4):mHas (spD (n:Int) c lv) (b:Int)=false:=by
 have h:0≤spD (n:Int) c lv∧spD (n:Int) c lv<bitN b:=by
  unfold spD
  split
  ·rename_i hs
   rw [Int.toNat_natCast]
   have h1:=zacw c lv n (by omega)
   have:bitN n≤bitN b:=by
    have key:∀x y:Fin 4,x.val≤y.val→bitN x.val≤bitN y.val:=by decide +kernel
    exact key ⟨n,by omega⟩ ⟨b,hb⟩ hn
   omega
  ·have:=zr9 (k:=b) (by omega)
   omega
 have h2:=zr9 (k:=b) (by omega)
 have:=zals ⟨(spD (n:Int) c lv).toNat,by omega⟩ ⟨b,hb⟩ (by show ((spD (n:Int) c lv).toNat:Int)<bitN b; omega)
 have e:((spD (n:Int) c lv).toNat:Int)=spD (n:Int) c lv:=by omega
 simp only [e] at this
 exact this
section
variable {w:World} {bs:List Nat} {n c lv:Int}
theorem zage {n:Int} {k:Nat} (h:inB n 1 4=true) (hk:(k:Int)≤lvD n):(decide ((1*2 ^ (min (Int.toNat (k:Int)) 64):Int)<n)=true→(k:Int)+1≤lvD n)∧(decide ((1*2 ^ (min (Int.toNat (k:Int)) 64):Int)<n)=false→(k:Int)=lvD n):=by
 rcases zagd h with ⟨rfl,e⟩ | ⟨rfl,e⟩ | ⟨rfl,e⟩ | ⟨rfl,e⟩ <;> rw [e] at hk ⊢
 ·have:k=0:=by omega
  subst this; decide
 ·have:k=0∨k=1:=by omega
  rcases this with rfl | rfl <;> decide
 ·have:k=0∨k=1∨k=2:=by omega
  rcases this with rfl | rfl | rfl <;> decide
 ·have:k=0∨k=1∨k=2:=by omega
  rcases this with rfl | rfl | rfl <;> decide
theorem zabp (n:Int):0≤lvD n∧lvD n≤2:=by
 unfold lvD
 split
 ·split
  ·omega
  ·split <;> omega
 ·omega
theorem zk8:zab bs Tryz.prog zdx #[.int .i64 n] w (.int .i64 (lvD n)) :=
 zri n fun wr hx=>by
  refine ⟨_,zar,fun q => ?_,fun q => ?_⟩
  ·have q:inB n 1 4=false:=by simpa using q
   have:lvD n=0:=if_neg (by rw [q]; decide)
   rw [this]
  ·have q:inB n 1 4=true:=by simpa using q
   have hl:=zabp n
   refine ⟨fun vs=>∃k:Nat,vs=[.int .i64 (k:Int)]∧(k:Int)≤lvD n,fun vs=>(2 - zcw 0 vs).toNat,⟨0,rfl,hl.1⟩,?_⟩
   rintro k' ⟨k,he,hk⟩
   simp only [List.cons.injEq,Value.int.injEq,true_and,and_true] at he
   subst he
   have hb:=zr9 (k:=k) (by omega)
   have hbd:(1*2 ^ (min (Int.toNat (k:Int)) 64):Int)=bitN k:=rfl
   obtain ⟨s1,s2⟩:=zage q hk
   refine ⟨⟨by omega,by omega⟩,⟨by omega,by rw [hbd]; exact ⟨by omega,by omega⟩⟩,fun g=>⟨⟨by omega,by omega⟩,⟨k+1,by simp,by have:=s1 g; omega⟩,?_⟩,fun g=>by rw [←s2 g]⟩
   have:=s1 g
   show (2 - ((k:Int)+1)).toNat<(2 - (k:Int)).toNat
   omega
theorem zk4:zab bs Tryz.prog zdt #[.int .i64 n] w (.int .i64 (lvD n)) :=
 zre n fun wr hx=>by
  refine ⟨_,zaj,fun q => ?_,fun q => ?_⟩
  ·have q:inB n 1 4=false:=by simpa using q
   have:lvD n=0:=if_neg (by rw [q]; decide)
   rw [this]
  ·have q:inB n 1 4=true:=by simpa using q
   have hl:=zabp n
   refine ⟨fun vs=>∃k:Nat,vs=[.int .i64 (k:Int)]∧(k:Int)≤lvD n,fun vs=>(2 - zcw 0 vs).toNat,⟨0,rfl,hl.1⟩,?_⟩
   rintro k' ⟨k,he,hk⟩
   simp only [List.cons.injEq,Value.int.injEq,true_and,and_true] at he
   subst he
   have hb:=zr9 (k:=k) (by omega)
   have hbd:(1*2 ^ (min (Int.toNat (k:Int)) 64):Int)=bitN k:=rfl
   obtain ⟨s1,s2⟩:=zage q hk
   refine ⟨⟨by omega,by rw [hbd]; exact ⟨by omega,by omega⟩⟩,fun g=>⟨⟨by omega,by omega⟩,⟨k+1,by simp,by have:=s1 g; omega⟩,?_⟩,fun g=>by rw [←s2 g]⟩
   have:=s1 g
   show (2 - ((k:Int)+1)).toNat<(2 - (k:Int)).toNat
   omega
theorem zaak (h:zs9 n c lv=true):inB n 1 4=true∧0≤c∧c<n∧0≤lv∧lv≤1:=by
 unfold zs9 at h
 simp only [Bool.and_eq_true] at h
 have h1:=za0.1 h.1.2
 have h2:=za0.1 h.2
 have:=zabp n
 exact ⟨h.1.1,h1.1,by omega,h2.1,by omega⟩
theorem zuf:zab bs Tryz.prog zhi #[.int .i64 n,.int .i64 c,.int .i64 lv] w (.int .i64 (spD n c lv)) :=
 zuu n c lv fun wr hx=>by
  have hl:=zabp n
  have e:(((!inB n 1 4)||(!inB c 0 (n - 1)))||(!inB lv 0 (lvD n - 1))) = !zs9 n c lv:=by
   unfold zs9; rw [Bool.not_and,Bool.not_and]
  refine ⟨_,zar,fun q => ?_,_,fun _=>zar,_,fun _=>zk8,fun _=>⟨by omega,by omega⟩,_,fun _=>zar,fun q => ?_,fun q => ?_⟩
  ·have q:=za0.1 (by simpa using q:inB n 1 4=true)
   exact ⟨by omega,by omega⟩
  ·rw [e] at q
   have:spD n c lv=0:=if_neg (by simpa using q)
   rw [this]
  ·rw [e] at q
   have q:zs9 n c lv=true:=by simpa using q
   obtain ⟨h1,c0,c1,l0,l1⟩:=zaak q
   have hn:=za0.1 h1
   obtain ⟨N,rfl⟩:∃N:Nat,n=(N:Int):=⟨n.toNat,by omega⟩
   have hD:spD (N:Int) c lv=spN c lv N:=by unfold spD; rw [if_pos q,Int.toNat_natCast]
   rw [hD]
   refine zmr N 0 rfl (fun x k=>k≤N∧x=spN c lv k) ⟨Nat.zero_le _,rfl⟩ fun x k ⟨hk,hx2⟩=>⟨fun hlt => ?_,fun hge => ?_⟩
   ·have hlt:=of_decide_eq_true hlt
    have hb:=zr9 (k:=k) (by omega)
    have hs:=zacw c lv k (by omega)
    have hbd:(1*2 ^ (min (Int.toNat (k:Int)) 64):Int)=bitN k:=rfl
    refine ⟨⟨by omega,by omega⟩,⟨by omega,by omega⟩,by omega,⟨by omega,by omega⟩,⟨by omega,by omega⟩,by omega,fun hu => ?_,fun hu => ?_⟩
    ·rw [hbd,hx2]
     refine ⟨⟨by omega,by omega⟩,⟨by omega,by omega,by omega⟩,⟨by omega,by omega⟩,⟨by omega,by omega⟩,zap (by omega) ⟨by omega,?_⟩⟩
     simp only [spN]; rw [if_pos (show zad6 c lv (k:Int)=true from hu)]
    ·refine ⟨⟨by omega,by omega⟩,zap (by omega) ⟨by omega,?_⟩⟩
     rw [hx2]; simp only [spN]; rw [if_neg (by rw [show zad6 c lv (k:Int)=false from hu]; decide)]
   ·have hge:=of_decide_eq_false hge
    have:k=N:=by omega
    subst this
    rw [hx2]
def nbB (c lv:Int) (k i:Nat):Bool:=decide (i<k)&&zad6 c lv (i:Int)
theorem zwp {N:Nat} (hN:N≤4) (l0:0≤lv) (l1:lv≤1):zab bs Tryz.prog zh9 #[.int .i64 (N:Int),.int .i64 c,.int .i64 lv] w (.agg #[.bool (nbB c lv N 0),.bool (nbB c lv N 1),.bool (nbB c lv N 2),.bool (nbB c lv N 3)]) :=
 zw0 (N:Int) c lv fun wr hx=>by
  refine fun _ _ _ _=>⟨fun vs=>∃k:Nat,vs=[.int .i64 (k:Int),.bool (nbB c lv k 0),.bool (nbB c lv k 1),.bool (nbB c lv k 2),.bool (nbB c lv k 3)]∧k≤N,fun vs=>(4 - zcw 0 vs).toNat,⟨0,rfl,Nat.zero_le _⟩,?_⟩
  rintro k' b0 b1 b2 b3 ⟨k,he,hk⟩
  simp only [List.cons.injEq,Value.int.injEq,Value.bool.injEq,true_and,and_true] at he
  obtain ⟨rfl,rfl,rfl,rfl,rfl⟩:=he
  refine ⟨fun hlt => ?_,fun hge => ?_⟩
  ·have hlt:=of_decide_eq_true hlt
   have hk4:k<4:=by omega
   refine ⟨⟨by omega,by omega⟩,by omega,⟨by omega,by omega⟩,by omega,⟨by omega,by omega⟩,by omega,nbB c lv (k+1) 0,nbB c lv (k+1) 1,nbB c lv (k+1) 2,nbB c lv (k+1) 3,?_,⟨by omega,by omega⟩,⟨k+1,by simp,by omega⟩,?_⟩
   ·rw [Int.toNat_natCast,Nat.add_zero]
    have:k=0∨k=1∨k=2∨k=3:=by omega
    rcases this with rfl | rfl | rfl | rfl <;> simp [nbB,zad6]
   ·show (4 - ((k:Int)+1)).toNat<(4 - (k:Int)).toNat
    omega
  ·have hge:=of_decide_eq_false hge
   have:k=N:=by omega
   subst this
   rfl
theorem zuc:zab bs Tryz.prog zg2 #[.int .i64 n,.int .i64 c,.int .i64 lv] w (.int .i64 (spD n c lv)) :=
 zuk n c lv fun wr hx=>by
  have hl:=zabp n
  have e:(((!inB n 1 4)||(!inB c 0 (n - 1)))||(!inB lv 0 (lvD n - 1))) = !zs9 n c lv:=by
   unfold zs9; rw [Bool.not_and,Bool.not_and]
  refine ⟨_,zaj,fun q => ?_,_,fun _=>zaj,_,fun _=>zk4,fun _=>⟨by omega,by omega⟩,_,fun _=>zaj,fun q => ?_,fun q => ?_⟩
  ·have q:=za0.1 (by simpa using q:inB n 1 4=true)
   exact ⟨by omega,by omega⟩
  ·rw [e] at q
   have:spD n c lv=0:=if_neg (by simpa using q)
   rw [this]
  ·rw [e] at q
   have q:zs9 n c lv=true:=by simpa using q
   obtain ⟨h1,c0,c1,l0,l1⟩:=zaak q
   have hn:=za0.1 h1
   obtain ⟨N,rfl⟩:∃N:Nat,n=(N:Int):=⟨n.toNat,by omega⟩
   have hD:spD (N:Int) c lv=spN c lv (min 4 N):=by unfold spD; rw [if_pos q,Int.toNat_natCast,Nat.min_eq_right (by omega)]
   rw [hD]
   refine ⟨_,_,_,_,zwp (by omega) l0 l1,?_⟩
   refine zmr 4 0 rfl (fun x k=>k≤4∧x=spN c lv (min k N)) ⟨Nat.zero_le _,by rw [Nat.zero_min]; rfl⟩ fun x k ⟨hk,hx2⟩=>⟨fun hlt => ?_,fun hge => ?_⟩
   ·have hlt:=of_decide_eq_true hlt
    have hk4:k<4:=by omega
    have hb:=zr9 (k:=k) (by omega)
    have hbd:(1*2 ^ (min (Int.toNat (k:Int)) 64):Int)=bitN k:=rfl
    refine ⟨nbB c lv N k,⟨by omega,by omega,?_⟩,fun hu => ?_,fun hu => ?_⟩
    ·rw [Int.toNat_natCast]
     have:k=0∨k=1∨k=2∨k=3:=by omega
     rcases this with rfl | rfl | rfl | rfl <;> rfl
    ·unfold nbB at hu
     simp only [Bool.and_eq_true,decide_eq_true_eq] at hu
     have hm:min k N=k:=Nat.min_eq_left (by omega)
     have hs:=zacw c lv k (by omega)
     rw [hbd,hx2,hm,zakf hk4 hs.1 hs.2]
     refine ⟨⟨by omega,by omega,by omega⟩,⟨by omega,by omega⟩,zap hk4 ⟨by omega,?_⟩⟩
     rw [Nat.min_eq_left (by omega)]
     simp only [spN]; rw [if_pos hu.2]
    ·refine ⟨⟨by omega,by omega⟩,zap hk4 ⟨by omega,?_⟩⟩
     rw [hx2]
     by_cases hkN:k<N
     ·have hn:zad6 c lv (k:Int)=false:=by
       unfold nbB at hu
       rw [decide_eq_true hkN,Bool.true_and] at hu
       exact hu
      rw [Nat.min_eq_left (by omega),Nat.min_eq_left (by omega)]
      simp only [spN]; rw [if_neg (by rw [hn]; decide)]
     ·rw [Nat.min_eq_right (by omega),Nat.min_eq_right (by omega)]
   ·have hge:=of_decide_eq_false hge
    have:k=4:=by omega
    subst this
    rw [hx2]
end
end Go.Proofs.YtajdcjidpolloaaGreatDoor
namespace Go.Proofs.YtajdcjidpolloaaGreatDoor
open Go.RowKit
set_option linter.unusedVariables false
set_option linter.unusedSimpArgs false
set_option maxRecDepth 10000
def upP (W:Wld) (g:Int):List Int:=zgq W.groups g++[0]
def dryP (W:Wld) (g c:Int):Bool:=(upP W g).any fun x=>dryD W x c
theorem z73 (W:Wld):upP W 0=[0]:=by unfold upP; rw [show zgq W.groups 0=[] from zdl W.groups 3]; rfl
theorem z74 {W:Wld} (ht:zei W.groups) {g:Int} (hu:zad W.groups g=true) (hz:g≠0):upP W g=g::upP W (gi W.groups g).parent:=by
 unfold upP
 rw [zgb ht hu hz,List.cons_append]
theorem zaj1 {W:Wld} (ht:zei W.groups) {g:Int} (hu:zad W.groups g=true):∀x∈upP W g,zad W.groups x=true:=by
 have hr:zad W.groups 0=true:=zac.2 ⟨by decide,by have:=ht.len; omega,ht.ru⟩
 refine zxj ht (Q:=fun h=>∀x∈upP W h,zad W.groups x=true) ?_ (fun h hu hz ih => ?_) g hu
 ·rw [z73]
  intro x hx
  have:x=0:=by simpa using hx
  rw [this]; exact hr
 ·rw [z74 ht hu hz]
  intro x hx
  rcases List.mem_cons.1 hx with rfl | hx
  ·exact hu
  ·exact ih x hx
theorem zacn (gs:List Grp):∀(f:Nat) (g:Int),(zrj f gs g).length≤f
 | 0,_=>Nat.le_refl _
 | f+1,g=>by
  simp only [zrj]
  split
  ·simp
  ·have:=zacn gs f (gi gs g).parent
   simp; omega
theorem zahm (W:Wld) (g:Int):(upP W g).length≤4:=by
 unfold upP
 have:=zacn W.groups 3 g
 simp; omega
theorem z8x (W:Wld) (c:Int):dryP W 0 c=dryD W 0 c:=by
 unfold dryP; rw [z73]; simp
theorem z8y {W:Wld} (ht:zei W.groups) {g c:Int} (hu:zad W.groups g=true) (hz:g≠0):dryP W g c=(dryD W g c||dryP W (gi W.groups g).parent c):=by
 unfold dryP
 rw [z74 ht hu hz]; rfl
def zdr (W:Wld) (t c:Int):Bool :=
 (!(((((((tkk W t).state != 1)||((tkk W t).cpu==c))||((gi W.cpus (tkk W t).cpu).cur==t))||(!zcs W t))||(!mHas (zd8 W (tkk W t).group (tkk W t).mask) c)))) && !dryP W (tkk W t).group c
def anyC (W:Wld) (b c:Int):Bool:=anyB (fun t=>((tkk W (t:Int)).cpu==b)&&zdr W (t:Int) c) 12
theorem zy0 {W:Wld} {t c:Int} (h:zdr W t c=true):(tkk W t).state=1∧(tkk W t).cpu≠c:=by
 unfold zdr at h
 simp only [Bool.and_eq_true,Bool.not_eq_true',Bool.or_eq_false_iff,bne_eq_false_iff_eq,beq_eq_false_iff_ne] at h
 exact ⟨h.1.1.1.1.1,h.1.1.1.1.2⟩
section
variable {W:Wld} {m:MW} {w:World} {bs:List Nat} {p:Option Addr}
def zagz (W:Wld) (g:Int):List Int:=if g=0 then [] else upP W (gi W.groups g).parent
theorem zaac {W:Wld} (ht:zei W.groups) {g:Int} (hu:zad W.groups g=true):g::zagz W g=upP W g:=by
 unfold zagz
 by_cases hz:g=0
 ·subst hz; rw [if_pos rfl,z73]
 ·rw [if_neg hz,z74 ht hu hz]
theorem zzz {t:Int} (h:RdW [] w W m) (ht:zei W.groups) (t0:0≤t) (t1:t<(W.tasks.length:Int)) (hu:zad W.groups (tkk W t).group=true) :
  Calls Tryz.prog zjj #[.agg (encW W m).toArray,.int .i64 t] w fun e w'=>∃o c',e = .returned (.slice o (upP W (tkk W t).group).length c')∧Own encI 1 ty_int w.heap.size w' o c' (upP W (tkk W t).group)∧ExtX [] w w':=by
 refine (zze W.now m.cO W.cpus.length m.cC m.tO W.tasks.length m.tC m.gO W.groups.length m.gC t (R:=fun v w'=>∃o c',v = .slice o (upP W (tkk W t).group).length c'∧Own encI 1 ty_int w.heap.size w' o c' (upP W (tkk W t).group)∧ExtX [] w w') ?_).mono fun e w' ⟨v,he,o,c',hv,h1⟩=>⟨o,c',by rw [he,hv],h1⟩
 intro b hb
 refine ⟨h.t.ix zbb t0 t1,_,h.t.f t0 t1 (j:=1) rfl,fun b1 wb hx1 hb1 hcell hn => ?_⟩
 have hlen:=zahm W (tkk W t).group
 have hO0:Own encI 1 ty_int w.heap.size wb (some ⟨b1,0,none⟩) 1 [(tkk W t).group]:=.inr ⟨b1,[],rfl,hb1,hcell,by simp [encI],by simp⟩
 have hbn:∀x∈[b],w.heap.size≤x:=by simpa using hb
 refine ⟨fun vs w1=>∃(g:Int) (l:List Int) (o:Option Addr) (c':Nat),vs=[.int .i64 g,.slice o l.length c']∧zad W.groups g=true∧l++zagz W g=upP W (tkk W t).group∧Sc w [b] w1∧Ob encI 1 ty_int w.heap.size [b] w1 o c' l,fun vs _=>(dep 3 W.groups (zcw 0 vs)).toNat,
  fun wr hx _=>⟨_,[(tkk W t).group],_,1,rfl,hu,zaac ht hu,(Sc.mk hx1 hbn).step hx,⟨hO0.ext hx (by simp [zau]; exact fun e=>hn (by simp [e])),by simp [zau]; exact fun e=>hn (by simp [e])⟩⟩,?_⟩
 rintro g oO oL oC w1 hs1 ⟨g',l,o',c',he,hug,hI,s1,hO⟩
 simp only [List.cons.injEq,Value.int.injEq,Value.slice.injEq,true_and,and_true] at he
 obtain ⟨rfl,rfl,rfl,rfl⟩:=he
 have hg:=((h.wide (cs:=[b]) fun x hm=>.inr (hbn x hm)).ext s1.ext.of_nil).g
 have hll:l.length≤4:=by
  have:=congrArg List.length hI
  simp at this
  omega
 refine ⟨fun hz => ?_,fun hz wr hx => ?_⟩
 ·have hz:g≠0:=by simpa using hz
  obtain ⟨hp,a,b',d,e,e2,hd⟩:=zgy ht hug hz
  refine ⟨hg.ix a b',_,hg.parent a b',fun b2 hb2 wr1 hx2 hs2 hcell2 => ?_⟩
  have s2:=s1.put hx2 hb2
  have hO2:=hO.put hx2 hb2
  obtain ⟨o2,c2,w2,hrun,hk2,hO3,hx3⟩:=hO2.app1 zbt ziw (x:=(gi W.groups g).parent) hs2 s2.ext.size hcell2 (oneI _) (by omega) (by decide) zax #[false,false]
  have s3:=s2.call hx3 fun x hm=>(hO2.own.lt x hm).1
  refine ⟨_,_,_,w2,hrun,hk2,fun wr2 hx4 _=>⟨⟨_,l++[(gi W.groups g).parent],o2,c2,rfl,hp,?_,(s3.step hx4).sub (by simp),(hO3.step hx4).sub (by simp)⟩,?_⟩⟩
  ·rw [List.append_assoc,List.singleton_append,zaac ht hp,←hI]
   unfold zagz
   rw [if_neg hz]
  ·show (dep 3 W.groups (gi W.groups g).parent).toNat<(dep 3 W.groups g).toNat
   omega
 ·have hz:g=0:=by simpa using hz
  subst hz
  have hl:l=upP W (tkk W t).group:=by
   rw [←hI]
   unfold zagz
   rw [if_pos rfl,List.append_nil]
  subst hl
  exact ⟨oO,oC,rfl,(hO.step hx).own,(s1.step hx).ext⟩
theorem zov {t c:Int} (h:RdW bs w W m) (wp:WldP W) (t0:0≤t) (t1:t<(W.tasks.length:Int)) (c0:0≤c) (c1:c<(W.cpus.length:Int)):zab bs Tryz.prog zgg #[.agg (encW W m).toArray,.int .i64 t,.int .i64 c] w (.bool (zdr W t c)):=by
 refine zj1 fun wr0 hx0=>zzb W.now m.cO W.cpus.length m.cC m.tO W.tasks.length m.tC m.gO W.groups.length m.gC t c (R:=fun v w'=>v = .bool (zdr W t c)∧ExtX [] wr0 w') ?_
 have h:=(h.ext hx0).less (cs:=[]) (by simp)
 have li:((tkk W t).state != 1)=false→zad W.groups (tkk W t).group=true∧0≤(tkk W t).cpu∧(tkk W t).cpu<(W.cpus.length:Int):=fun hs=>wp.li t0 t1 (by simpa using hs)
 intro b hb
 refine ⟨h.t.ix zbb t0 t1,_,_,_,_,_,_,_,_,_,h.t t t0 t1,fun b1 hb1 => ?_⟩
 refine ⟨fun g => ?_,(gi W.cpus (tkk W t).cpu).cur,fun g => ?_,zcs W t,fun g => ?_,zd8 W (tkk W t).group (tkk W t).mask,fun g => ?_,_,fun g=>zga,fun g wr hx => ?_,fun g wr1 hx1 hs1 => ?_⟩
 ·have g:(((tkk W t).state != 1)||((tkk W t).cpu==c))=false:=g
  simp only [Bool.or_eq_false_iff] at g
  have:=li g.1
  exact h.c.ix zf2 this.2.1 this.2.2
 ·have g:(((tkk W t).state != 1)||((tkk W t).cpu==c))=false:=g
  simp only [Bool.or_eq_false_iff] at g
  have:=li g.1
  exact (h.c _ this.2.1 this.2.2).get 1 _ rfl
 ·exact zhw h wp.a t0 t1 fun hs=>wp.li t0 t1 hs
 ·have g:(((((tkk W t).state != 1)||((tkk W t).cpu==c))||((gi W.cpus (tkk W t).cpu).cur==t))||(!zcs W t))=false:=g
  simp only [Bool.or_eq_false_iff] at g
  exact zqj h wp.a.c2 wp.a.tree (li g.1.1.1).1
 ·have:zdr W t c=false:=by
   unfold zdr
   rw [show ((((((tkk W t).state != 1)||((tkk W t).cpu==c))||((gi W.cpus (tkk W t).cpu).cur==t))||(!zcs W t))||(!mHas (zd8 W (tkk W t).group (tkk W t).mask) c))=true from g]
   rfl
  rw [this]; exact ⟨rfl,hx⟩
 have g:((((((tkk W t).state != 1)||((tkk W t).cpu==c))||((gi W.cpus (tkk W t).cpu).cur==t))||(!zcs W t))||(!mHas (zd8 W (tkk W t).group (tkk W t).mask) c))=false:=g
 have eC:zdr W t c = !dryP W (tkk W t).group c:=by unfold zdr; rw [g]; rfl
 simp only [Bool.or_eq_false_iff] at g
 obtain ⟨hu,_,_⟩:=li g.1.1.1.1
 rw [eC]
 have hbn:∀x∈[b,b1],wr0.heap.size≤x:=by
  intro x hm
  simp only [List.mem_cons,List.not_mem_nil,or_false] at hm
  rcases hm with rfl | rfl
  ·exact hb
  ·exact hb1
 refine (zzz (h.ext hx1) wp.a.tree t0 t1 hu).mono fun e w2 ⟨o,c',he,hO,hx2⟩=>⟨_,_,_,he,za9 hx2 hs1,?_⟩
 have hplen:=zahm W (tkk W t).group
 have s2:Sc wr0 [b,b1] w2:=⟨hx1.trans hx2,hbn⟩
 have hO2:Ob encI 1 ty_int wr1.heap.size [b,b1] w2 o c' (upP W (tkk W t).group):=Ob.of hO hs1
 refine zd6 (upP W (tkk W t).group).length 0 rfl (fun k w3=>k≤(upP W (tkk W t).group).length∧Sc wr0 [b,b1] w3∧Ob encI 1 ty_int wr1.heap.size [b,b1] w3 o c' (upP W (tkk W t).group)∧∀j:Nat,j<k→dryD W (gi (upP W (tkk W t).group) (j:Int)) c=false)
  (fun w3 hx3 _=>⟨Nat.zero_le _,s2.step hx3,hO2.step hx3,fun j hj=>absurd hj (Nat.not_lt_zero j)⟩) fun k w3 _ ⟨hk,s3,hO3,hI⟩=>⟨fun hlt => ?_,fun hge wr hx => ?_⟩
 ·have hlt:=of_decide_eq_true hlt
  have hR:=hO3.rd zbt.len
  have hgm:=zvd (l:=upP W (tkk W t).group) (i:=(k:Int)) (by omega) hlt
  have hW3:=(h.wide (cs:=[b,b1]) fun x hm=>.inr (hbn x hm)).ext s3.ext.of_nil
  refine ⟨hR.ix zgs (by omega) hlt,_,hR (k:Int) (by omega) hlt,_,zow hW3 wp.a (zaj1 wp.a.tree hu _ hgm) c0 c1,fun gd wr hx=>⟨?_,(s3.step hx).ext⟩,fun gd=>⟨⟨by omega,by omega⟩,fun wr hx _=>zae (by omega) ⟨by omega,s3.step hx,hO3.step hx,fun j hj => ?_⟩⟩⟩
  ·have:dryP W (tkk W t).group c=true:=List.any_eq_true.2 ⟨_,hgm,gd⟩
   rw [this]; rfl
  ·by_cases hjk:j<k
   ·exact hI j hjk
   ·have:j=k:=by omega
    subst this; exact gd
 ·have hge:=of_decide_eq_false hge
  have hkn:k=(upP W (tkk W t).group).length:=by omega
  have:dryP W (tkk W t).group c=false:=by
   cases hd:dryP W (tkk W t).group c with
   | false=>rfl
   | true =>
    obtain ⟨x,hx,hdx⟩:=List.any_eq_true.1 hd
    obtain ⟨j,hj,hjx⟩:=List.getElem_of_mem hx
    have:=hI j (by omega)
    rw [zd9 hj,hjx,hdx] at this
    cases this
  rw [this]; exact ⟨rfl,(s3.step hx).ext⟩
theorem zos {t c:Int} (h:WPt bs w p W m) (wp:WldP W) (t0:0≤t) (t1:t<(W.tasks.length:Int)) (c0:0≤c) (c1:c<(W.cpus.length:Int)):zab bs Tryz.prog zdh #[.agg #[.pointer p,.int .i64 c],.int .i64 t] w (.bool (zdr W t c)) :=
 zp1 p c t fun wr hx=>by
  have h:=(h.ext hx).less (cs:=[]) (by simp)
  have li:((tkk W t).state != 1)=false→zad W.groups (tkk W t).group=true∧0≤(tkk W t).cpu∧(tkk W t).cpu<(W.cpus.length:Int):=fun hs=>wp.li t0 t1 (by simpa using hs)
  refine fun _ _=>⟨h.some,_,_,_,h.tasks,h.rd.t.ix zbb t0 t1,_,_,_,_,_,_,_,_,_,h.rd.t t t0 t1,fun _ _=>⟨fun g => ?_,fun g => ?_⟩⟩
  ·have g:(((tkk W t).state != 1)||((tkk W t).cpu==c))=true:=g
   have:zdr W t c=false:=by unfold zdr; rw [g]; rfl
   rw [this]
  have g1:(((tkk W t).state != 1)||((tkk W t).cpu==c))=false:=g
  have g2:=g1
  simp only [Bool.or_eq_false_iff] at g2
  obtain ⟨hu,k0,k1⟩:=li g2.1
  have eL:(((tkk W t).cpu==(tkk W t).cpu)&&zcs W t)=zcs W t:=by rw [beq_self_eq_true,Bool.true_and]
  have hin:=zjw (c:=(tkk W t).cpu) h wp.a t0 t1 k0 k1 (fun hs=>(wp.li t0 t1 hs).1)
  rw [eL] at hin
  refine ⟨p,_,zby,fun _ _=>⟨zcs W t,hin,_,fun _=>zj6 h k0 k1,fun _ => ?_,(gi W.cpus (tkk W t).cpu).cur,fun _ => ?_,_,fun _=>zqc h wp.a.c2 wp.a.tree t0 t1 hu,_,fun _=>zqb,fun g => ?_,fun g => ?_⟩⟩
  ·obtain ⟨a,ha,_⟩:=(h.rd.c _ k0 k1).get 0 _ rfl
   rw [ha]; rfl
  ·exact zpd (h.rd.c _ k0 k1) (j:=1) rfl
  ·have g:((((!zcs W t))||((gi W.cpus (tkk W t).cpu).cur==t))||(!mHas (zd8 W (tkk W t).group (tkk W t).mask) c))=true:=g
   have:zdr W t c=false:=by
    unfold zdr
    rw [g1,Bool.false_or]
    revert g
    cases zcs W t <;> cases ((gi W.cpus (tkk W t).cpu).cur==t) <;> cases mHas (zd8 W (tkk W t).group (tkk W t).mask) c <;> simp
   rw [this]
  have g:((((!zcs W t))||((gi W.cpus (tkk W t).cpu).cur==t))||(!mHas (zd8 W (tkk W t).group (tkk W t).mask) c))=false:=g
  have eC:zdr W t c = !dryP W (tkk W t).group c:=by
   unfold zdr
   rw [g1,Bool.false_or]
   revert g
   cases zcs W t <;> cases ((gi W.cpus (tkk W t).cpu).cur==t) <;> cases mHas (zd8 W (tkk W t).group (tkk W t).mask) c <;> simp
  rw [eC]
  have ht:=wp.a.tree
  refine ⟨fun vs=>∃x:Int,vs=[.int .i64 x]∧((x = -1∧dryP W (tkk W t).group c=false)∨(zad W.groups x=true∧dryP W x c=dryP W (tkk W t).group c)),fun vs=>if zcw 0 vs = -1 then 0 else (dep 3 W.groups (zcw 0 vs)).toNat+1,⟨_,rfl,.inr ⟨hu,rfl⟩⟩,?_⟩
  rintro x ⟨x',he,hI⟩
  simp only [List.cons.injEq,Value.int.injEq,true_and,and_true] at he
  subst he
  refine ⟨fun hne => ?_,fun heq => ?_⟩
  ·have hne:x≠-1:=by simpa using hne
   rcases hI with ⟨h1,_⟩ | ⟨hux,hI⟩
   ·exact absurd h1 hne
   ·obtain ⟨x0,x1,_⟩:=zac.1 hux
    refine ⟨_,zud h wp.a hux c0 c1,fun gd => ?_,fun gd=>⟨h.some,_,_,_,h.groups,h.rd.g.ix x0 x1,_,h.rd.g.parent x0 x1,?_,?_⟩⟩
    ·have:dryP W (tkk W t).group c=true:=by
      rw [←hI]
      by_cases hz:x=0
      ·subst hz; rw [z8x,gd]
      ·rw [z8y ht hux hz,gd]; rfl
     rw [this]; rfl
    ·by_cases hz:x=0
     ·subst hz
      exact ⟨_,rfl,.inl ⟨ht.rp,by rw [←hI,z8x,gd]⟩⟩
     ·refine ⟨_,rfl,.inr ⟨(zgy ht hux hz).1,?_⟩⟩
      rw [←hI,z8y ht hux hz,gd]; rfl
    ·show (if (gi W.groups x).parent = -1 then 0 else (dep 3 W.groups (gi W.groups x).parent).toNat+1)<(if x = -1 then 0 else (dep 3 W.groups x).toNat+1)
     rw [if_neg hne]
     by_cases hz:x=0
     ·subst hz; rw [if_pos ht.rp]; omega
     ·obtain ⟨_,_,_,d,e,e2,_⟩:=zgy ht hux hz
      split <;> omega
  ·have heq:x = -1:=by simpa using heq
   rcases hI with ⟨_,h2⟩ | ⟨hux,_⟩
   ·rw [h2]; rfl
   ·have:=(zac.1 hux).1
    omega
end
end Go.Proofs.YtajdcjidpolloaaGreatDoor
