/- Part 15 of what the law FnExactWorldRun needs: the engine, the functions' propositions, the contracts. -/
import Derived.Test.YthhmnlcimojhlaaGreatDoorFnExactWorldRunPn
import Derived.Laws.BytesArg
namespace Go.Proofs.YthhmnlcimojhlaaGreatDoor
open Go.RowKit
set_option linter.unusedVariables false
set_option linter.unusedSimpArgs false
set_option maxRecDepth 10000
theorem zaig {k:Int} (h:0<k):0≤Int.tdiv k 10∧Int.tdiv k 10<k:=by
 rw [Int.tdiv_eq_ediv_of_nonneg (by omega)]
 omega
theorem zaks {k:Int} (h:0<k):0≤Int.tmod k 10∧Int.tmod k 10≤9:=by
 rw [Int.tmod_eq_emod_of_nonneg (by omega)]
 omega
def digs (k:Int) (out:ByteArray):ByteArray:=if h:0<k then digs (Int.tdiv k 10) (strOfNums [48+Int.tmod k 10]++out) else out
termination_by k.toNat
decreasing_by
 have:=zaig h
 omega
def mtx (k:Int):ByteArray:=if k≤0 then ⟨[109,48].toArray⟩ else ⟨[109].toArray⟩++digs k ⟨[].toArray⟩
theorem zajv:Tryz.prog.underlying zqc=some (.slice zu4):=by kernel_rfl
theorem u_u8:Tryz.prog.underlying zu4=some (.int .u8):=by kernel_rfl
theorem zaku:Tryz.prog.underlying zfa=some .string:=by kernel_rfl
theorem z1u {k:Int} (hk:k≤1000000000000000000) {w:World} {bs:List Nat}:zab bs Tryz.prog zf5 #[.int .i64 k] w (.string (mtx k)) :=
 zos fun wr _=>zwr k (R:=fun v w'=>v = .string (mtx k)∧ExtX [] wr w') (by
  refine ⟨fun g w1 hx=>⟨by unfold mtx; rw [if_pos (of_decide_eq_true g)],hx⟩,fun g => ?_⟩
  have g:=of_decide_eq_false g
  have hmt:mtx k=⟨[109].toArray⟩++digs k ⟨[].toArray⟩:=by unfold mtx; rw [if_neg g]
  refine ⟨fun vs w1=>∃(k1:Int) (out:ByteArray),vs=[.int .i64 k1,.string out]∧0≤k1∧(out.size:Int)+k1≤k∧digs k1 out=digs k ⟨[].toArray⟩∧ExtX [] wr w1,fun vs _=>(zd1 0 vs).toNat,fun w1 hx _=>⟨k,_,rfl,by omega,by simp [ByteArray.size],rfl,hx⟩,?_⟩
  rintro k1 out wv _ ⟨k1',out',he,h0,hs,hd,hX⟩
  simp only [List.cons.injEq,Value.int.injEq,Value.string.injEq,true_and,and_true] at he
  obtain ⟨rfl,rfl⟩:=he
  refine ⟨fun gk => ?_,fun gk => ?_⟩
  ·have gk:0<k1:=of_decide_eq_true gk
   have hm:=zaks gk
   have hd10:=zaig gk
   refine ⟨by decide,⟨by omega,by omega⟩,⟨by show (0:Int)≤_; omega,by show _≤(255:Int); omega⟩,fun b wb hxb hb hcell _ wr2 hx2 _ => ?_⟩
   have hc:=zat hcell hx2 (by simp)
   have hrun:=run_convert_bytes_arg (P:=Tryz.prog) wr2 zqc zu4 zajv u_u8 b 0 1 1 [48+Int.tmod k1 10] rfl (fun i hi=>by
    have:i=0:=by omega
    subst this
    rw [Nat.add_zero,zi8 hc]
    rfl) zfa zaku
   have hsz:(strOfNums [48+Int.tmod k1 10]++out).size=1+out.size:=by rw [ByteArray.size_append,strOfNums_size]; rfl
   refine ⟨_,wr2,hrun,zby,?_,⟨by decide,⟨by omega,by omega⟩⟩,fun wr3 hx3 _=>⟨⟨Int.tdiv k1 10,_,rfl,hd10.1,?_,?_,((hX.trans hxb).trans hx2).trans hx3⟩,?_⟩⟩
   ·rw [strOfNums_size,List.length_singleton]; omega
   ·rw [hsz]; omega
   ·rw [←hd]
    conv=>rhs; rw [digs]
    rw [dif_pos gk]
   ·show (Int.tdiv k1 10).toNat<k1.toNat
    omega
  ·have gk:¬0<k1:=of_decide_eq_false gk
   refine ⟨by rw [show (ByteArray.mk [109].toArray).size=1 from rfl]; omega,fun wr4 hx4=>⟨?_,hX.trans hx4⟩⟩
   rw [hmt,←hd,digs,dif_neg gk])
theorem zyt {α:Type} [Inhabited α] {l:List α} {i:Int} (h0:0≤i) (h1:i<(l.length:Int)):l.set i.toNat (gi l i)=l:=by
 obtain ⟨k,rfl⟩:=Int.eq_ofNat_of_zero_le h0
 rw [ze4 (by omega),Int.toNat_natCast,List.set_getElem_self]
def mkG (G:Grp) (K:Int):Grp:=⟨(Int.tmod (K) 3==0),K+1,mtx (K+1+1),K+1+1+1,K+1+1+1+1,K+1+1+1+1+1,K+1+1+1+1+1+1,K+1+1+1+1+1+1+1,⟨K+1+1+1+1+1+1+1+1,K+1+1+1+1+1+1+1+1+1,K+1+1+1+1+1+1+1+1+1+1,zj9 G.band.locals.length (K+1+1+1+1+1+1+1+1+1+1+1),zkh G.band.dry.length (K+1+1+1+1+1+1+1+1+1+1+1+1*(G.band.locals.length:Int))⟩,zki G.shelves.length (K+1+1+1+1+1+1+1+1+1+1+1+1*(G.band.locals.length:Int)+1*(G.band.dry.length:Int))⟩
def nxK (G:Grp) (K:Int):Int:=K+1+1+1+1+1+1+1+1+1+1+1+1*(G.band.locals.length:Int)+1*(G.band.dry.length:Int)+5*(G.shelves.length:Int)
def gK (gs:List Grp) (k:Int):Nat→Int
 | 0=>k
 | i+1=>nxK (gi gs (i:Int)) (gK gs k i)
def znb (gs:List Grp) (k:Int):Nat→List Grp
 | 0=>gs
 | i+1=>(znb gs k i).set i (mkG (gi gs (i:Int)) (gK gs k i))
theorem zn7 (gs:List Grp) (k:Int):∀i,(znb gs k i).length=gs.length
 | 0=>rfl
 | i+1=>by simp only [znb]; rw [List.length_set,zn7 gs k i]
theorem z4k {gs:List Grp} {k:Int}:∀(i:Nat) (j:Nat),i≤gs.length→gi (znb gs k i) (j:Int)=if j<i then mkG (gi gs (j:Int)) (gK gs k j) else gi gs (j:Int)
 | 0,j,_=>by rw [if_neg (by omega)]; rfl
 | i+1,j,h=>by
  simp only [znb]
  have:=zba (znb gs k i) (mkG (gi gs (i:Int)) (gK gs k i)) (i:=(i:Int)) (by omega) (by rw [zn7]; omega) (j:=(j:Int)) (by omega)
  rw [Int.toNat_natCast] at this
  rw [this,z4k i j (by omega)]
  by_cases e:i=j
  ·subst e; rw [if_pos rfl,if_pos (by omega)]
  ·rw [if_neg (by omega)]
   by_cases h2:j<i
   ·rw [if_pos h2,if_pos (by omega)]
   ·rw [if_neg h2,if_neg (by omega)]
theorem zut {gs:List Grp} {k:Int} (hs:∀i:Int,0≤i→i<(gs.length:Int)→SmG (gi gs i)):∀i:Nat,i≤gs.length→k≤gK gs k i∧gK gs k i≤k+(i:Int)*8000000
 | 0,_=>by simp only [gK]; omega
 | i+1,h=>by
  have ih:=zut (k:=k) hs i (by omega)
  have s:=hs (i:Int) (by omega) (by omega)
  have h1:=s.lo
  have h2:=s.dr
  have h3:=s.sh
  simp only [gK,nxK]
  omega
section
variable {n base:Nat} {W:Wld} {m:MW} {w w':World} {G G':Grp} {i:Int}
theorem MWd.grRd (h:MWd n base w (zau W i G) m) (i0:0≤i) (i1:i<(W.groups.length:Int)):zaa [] w m.gO (Int.toNat i*14) (encG G (m.ms i.toNat)):=by
 have:=(h.rd (bs:=[]) (by simp)).g.cells i i0 (by show i<(((W.groups.set i.toNat G).length:Nat):Int); rw [List.length_set]; exact i1)
 rwa [ze9 i0 i1 i0,if_pos rfl] at this
theorem MWd.grOwn (h:MWd n base w (zau W i G) m) (i0:0≤i) (i1:i<(n:Int)) (hl:W.groups.length=n):OwnM base w (G,m.ms i.toNat):=by
 have:=h.each i0 i1
 rwa [ze9 i0 (by omega) i0,if_pos rfl] at this
theorem MWd.grSto (h:MWd n base w (zau W i G) m) (i0:0≤i) (i1:i<(n:Int)) (hl:W.groups.length=n) (e1:G'.band.locals=G.band.locals) (e2:G'.band.dry=G.band.dry) (e3:G'.shelves=G.shelves) {j:Nat} {vs:List Value}
  (he:encG G' (m.ms i.toNat)=(encG G (m.ms i.toNat)).take j++vs++(encG G (m.ms i.toNat)).drop (j+vs.length)) (hj:j+vs.length≤14):MWd n base (sto w m.gO (Int.toNat i*14+j) vs) (zau W i G') m:=by
 have hg:gi (zau W i G).groups i=G:=by rw [ze9 i0 (by omega) i0,if_pos rfl]
 have this:MWd n base _ (zau (zau W i G) i G') m:=h.stoG0 i0 i1 (g:=G') (by rw [hg]; exact e1) (by rw [hg]; exact e2) (by rw [hg]; exact e3) (by rw [hg]; exact he) hj
 rwa [show zau (zau W i G) i G'=zau W i G' by unfold zau; rw [List.set_set]] at this
theorem MWd.grIn {bs:List Nat} (h:MWd n base w (zau W i G) m) (i0:0≤i) (i1:i<(n:Int)) (hl:W.groups.length=n) (hx:ExtX bs w w') (hb:∀x∈bs,x∈zag (m.ms i.toNat)) (hp:OwnM base w' (G',m.ms i.toNat)) (he:encG G' (m.ms i.toNat)=encG G (m.ms i.toNat)):MWd n base w' (zau W i G') m:=by
 have hg:gi (zau W i G).groups i=G:=by rw [ze9 i0 (by omega) i0,if_pos rfl]
 have this:MWd n base _ (zau (zau W i G) i G') m:=h.in i0 i1 hx hb hp (by rw [hg]; exact he)
 rwa [show zau (zau W i G) i G'=zau W i G' by unfold zau; rw [List.set_set]] at this
set_option maxHeartbeats 1000000 in
theorem z6t {k:Int} (h:MWd n base w W m) (hln:W.groups.length≤1048576) (hs:∀i:Int,0≤i→i<(W.groups.length:Int)→SmG (gi W.groups i)) (hk:0≤k) (hk2:k≤10000000000000000) :
  Calls Tryz.prog zgx #[.slice m.gO W.groups.length m.gC,.int .i64 k] w fun e w'=>e = .returned (.int .i64 (gK W.groups k W.groups.length))∧MWd n base w' { W with groups:=znb W.groups k W.groups.length } m∧ExtX (zax n m) w w':=by
 refine (zse m.gO W.groups.length m.gC k (R:=fun v w'=>v = .int .i64 (gK W.groups k W.groups.length)∧MWd n base w' { W with groups:=znb W.groups k W.groups.length } m∧ExtX (zax n m) w w') ?_).mono fun e w' ⟨v,he,hv,h1⟩=>⟨by rw [he,hv],h1⟩
 have hnl:=h.len
 refine ⟨fun vs w1=>∃(i:Nat),vs=[.int .i64 (gK W.groups k i),.int .i64 (i:Int)]∧i≤W.groups.length∧MWd n base w1 { W with groups:=znb W.groups k i } m∧ExtX (zax n m) w w1,zc5 W.groups.length 1,fun w1 hx _=>⟨0,rfl,Nat.zero_le _,h.ext0 hx,hx.of_nil⟩,?_⟩
 rintro k1 i1 wv _ ⟨i,he,hi,hM,hX⟩
 simp only [List.cons.injEq,Value.int.injEq,true_and,and_true] at he
 obtain ⟨rfl,rfl⟩:=he
 have hr:=zut (k:=k) hs i hi
 refine ⟨fun hlt => ?_,fun hge => ?_⟩
 ·have hlt:=of_decide_eq_true hlt
  have sm:=hs (i:Int) (by omega) hlt
  have s1:=sm.lo
  have s2:=sm.dr
  have s3:=sm.sh
  have hG0:=z4k (gs:=W.groups) (k:=k) i i hi
  rw [if_neg (by omega)] at hG0
  have hlen:(znb W.groups k i).length=n:=by rw [zn7,hnl]
  have hM0:MWd n base wv (zau { W with groups:=znb W.groups k i } (i:Int) (gi W.groups (i:Int))) m:=by
   have e:zau { W with groups:=znb W.groups k i } (i:Int) (gi W.groups (i:Int))={ W with groups:=znb W.groups k i }:=by
    unfold zau
    dsimp only
    rw [←hG0,zyt (by omega) (by rw [zn7]; exact hlt)]
   rw [e]; exact hM
  have hdef:({ W with groups:=znb W.groups k (i+1) }:Wld)=zau { W with groups:=znb W.groups k i } (i:Int) (mkG (gi W.groups (i:Int)) (gK W.groups k i)):=by
   unfold zau
   simp only [znb,Int.toNat_natCast]
  have hnx:gK W.groups k (i+1)=nxK (gi W.groups (i:Int)) (gK W.groups k i):=rfl
  have hKr:gK W.groups k i≤50000000000000000:=by omega
  have hK0:0≤gK W.groups k i:=by omega
  have i0:(0:Int)≤(i:Int):=by omega
  have i1:(i:Int)<(n:Int):=by omega
  generalize ({ W with groups:=znb W.groups k i }:Wld)=W1 at hM hM0 hdef
  have hl1:W1.groups.length=n:=hM.len
  clear hG0 hlen hM
  generalize gi W.groups (i:Int)=G at hM0 hdef hnx s1 s2 s3
  generalize gK W.groups k i=K at hKr hK0 hnx hdef ⊢
  have hix:Ix m.gO W.groups.length (i:Int):=by
   have:=(hM0.rd (bs:=[]) (by simp)).g.ix (i:=(i:Int)) i0 (by show (i:Int)<(((W1.groups.set (Int.toNat (i:Int)) G).length:Nat):Int); rw [List.length_set]; omega)
   rw [show (zau W1 (i:Int) G).groups.length=W.groups.length by show (W1.groups.set (Int.toNat (i:Int)) G).length=_; rw [List.length_set]; omega] at this
   exact this
  have hM1:=hM0.grSto i0 i1 hl1 (G':={ G with used:=(Int.tmod (K) 3==0) }) rfl rfl rfl (j:=0) (vs:=[.bool (Int.tmod K 3==0)]) rfl (by simp)
  have hM2:=hM1.grSto i0 i1 hl1 (G':={ G with used:=(Int.tmod (K) 3==0),parent:=K+1 }) rfl rfl rfl (j:=1) (vs:=[.int .i64 (K+1)]) rfl (by simp)
  have hM3:=hM2.grSto i0 i1 hl1 (G':={ G with used:=(Int.tmod (K) 3==0),parent:=K+1,name:=mtx (K+1+1) }) rfl rfl rfl (j:=2) (vs:=[.string (mtx (K+1+1))]) rfl (by simp)
  have hM4:=hM3.grSto i0 i1 hl1 (G':={ G with used:=(Int.tmod (K) 3==0),parent:=K+1,name:=mtx (K+1+1),weight:=K+1+1+1 }) rfl rfl rfl (j:=3) (vs:=[.int .i64 (K+1+1+1)]) rfl (by simp)
  have hM5:=hM4.grSto i0 i1 hl1 (G':={ G with used:=(Int.tmod (K) 3==0),parent:=K+1,name:=mtx (K+1+1),weight:=K+1+1+1,cpus:=K+1+1+1+1 }) rfl rfl rfl (j:=4) (vs:=[.int .i64 (K+1+1+1+1)]) rfl (by simp)
  have hM6:=hM5.grSto i0 i1 hl1 (G':={ G with used:=(Int.tmod (K) 3==0),parent:=K+1,name:=mtx (K+1+1),weight:=K+1+1+1,cpus:=K+1+1+1+1,period:=K+1+1+1+1+1 }) rfl rfl rfl (j:=5) (vs:=[.int .i64 (K+1+1+1+1+1)]) rfl (by simp)
  have hM7:=hM6.grSto i0 i1 hl1 (G':={ G with used:=(Int.tmod (K) 3==0),parent:=K+1,name:=mtx (K+1+1),weight:=K+1+1+1,cpus:=K+1+1+1+1,period:=K+1+1+1+1+1,next:=K+1+1+1+1+1+1 }) rfl rfl rfl (j:=6) (vs:=[.int .i64 (K+1+1+1+1+1+1)]) rfl (by simp)
  have hM8:=hM7.grSto i0 i1 hl1 (G':={ G with used:=(Int.tmod (K) 3==0),parent:=K+1,name:=mtx (K+1+1),weight:=K+1+1+1,cpus:=K+1+1+1+1,period:=K+1+1+1+1+1,next:=K+1+1+1+1+1+1,sum:=K+1+1+1+1+1+1+1 }) rfl rfl rfl (j:=7) (vs:=[.int .i64 (K+1+1+1+1+1+1+1)]) rfl (by simp)
  have hM9:=hM8.grSto i0 i1 hl1 (G':={ G with used:=(Int.tmod (K) 3==0),parent:=K+1,name:=mtx (K+1+1),weight:=K+1+1+1,cpus:=K+1+1+1+1,period:=K+1+1+1+1+1,next:=K+1+1+1+1+1+1,sum:=K+1+1+1+1+1+1+1,band:={ G.band with quota:=K+1+1+1+1+1+1+1+1 } }) rfl rfl rfl (j:=8) (vs:=[.int .i64 (K+1+1+1+1+1+1+1+1)]) rfl (by simp)
  have hM10:=hM9.grSto i0 i1 hl1 (G':={ G with used:=(Int.tmod (K) 3==0),parent:=K+1,name:=mtx (K+1+1),weight:=K+1+1+1,cpus:=K+1+1+1+1,period:=K+1+1+1+1+1,next:=K+1+1+1+1+1+1,sum:=K+1+1+1+1+1+1+1,band:={ G.band with quota:=K+1+1+1+1+1+1+1+1,pool:=K+1+1+1+1+1+1+1+1+1 } }) rfl rfl rfl (j:=9) (vs:=[.int .i64 (K+1+1+1+1+1+1+1+1+1)]) rfl (by simp)
  have hM11:=hM10.grSto i0 i1 hl1 (G':={ G with used:=(Int.tmod (K) 3==0),parent:=K+1,name:=mtx (K+1+1),weight:=K+1+1+1,cpus:=K+1+1+1+1,period:=K+1+1+1+1+1,next:=K+1+1+1+1+1+1,sum:=K+1+1+1+1+1+1+1,band:={ G.band with quota:=K+1+1+1+1+1+1+1+1,pool:=K+1+1+1+1+1+1+1+1+1,spent:=K+1+1+1+1+1+1+1+1+1+1 } }) rfl rfl rfl (j:=10) (vs:=[.int .i64 (K+1+1+1+1+1+1+1+1+1+1)]) rfl (by simp)
  have hc11:=hM11.grRd i0 (by omega)
  have hX11:ExtX (zax n m) wv _:=((((((((((subG (n:=n) (m:=m) (w:=wv) (k:=Int.toNat (i:Int)*14+0) (vs:=[.bool (Int.tmod K 3==0)])).trans (subG (n:=n) (m:=m) (k:=Int.toNat (i:Int)*14+1) (vs:=[.int .i64 (K+1)]))).trans (subG (n:=n) (m:=m) (k:=Int.toNat (i:Int)*14+2) (vs:=[.string (mtx (K+1+1))]))).trans (subG (n:=n) (m:=m) (k:=Int.toNat (i:Int)*14+3) (vs:=[.int .i64 (K+1+1+1)]))).trans (subG (n:=n) (m:=m) (k:=Int.toNat (i:Int)*14+4) (vs:=[.int .i64 (K+1+1+1+1)]))).trans (subG (n:=n) (m:=m) (k:=Int.toNat (i:Int)*14+5) (vs:=[.int .i64 (K+1+1+1+1+1)]))).trans (subG (n:=n) (m:=m) (k:=Int.toNat (i:Int)*14+6) (vs:=[.int .i64 (K+1+1+1+1+1+1)]))).trans (subG (n:=n) (m:=m) (k:=Int.toNat (i:Int)*14+7) (vs:=[.int .i64 (K+1+1+1+1+1+1+1)]))).trans (subG (n:=n) (m:=m) (k:=Int.toNat (i:Int)*14+8) (vs:=[.int .i64 (K+1+1+1+1+1+1+1+1)]))).trans (subG (n:=n) (m:=m) (k:=Int.toNat (i:Int)*14+9) (vs:=[.int .i64 (K+1+1+1+1+1+1+1+1+1)]))).trans (subG (n:=n) (m:=m) (k:=Int.toNat (i:Int)*14+10) (vs:=[.int .i64 (K+1+1+1+1+1+1+1+1+1+1)]))
  refine ⟨by decide,hix,wrG hM0 (bs:=[]) (by simp) i0 i1 (j:=0) (k:=1) (by decide),⟨by omega,by omega⟩,hix,wrG hM1 (bs:=[]) (by simp) i0 i1 (j:=1) (k:=1) (by decide),⟨by omega,by omega⟩,_,z1u (by omega),hix,wrG hM2 (bs:=[]) (by simp) i0 i1 (j:=2) (k:=1) (by decide),⟨by omega,by omega⟩,hix,wrG hM3 (bs:=[]) (by simp) i0 i1 (j:=3) (k:=1) (by decide),⟨by omega,by omega⟩,hix,wrG hM4 (bs:=[]) (by simp) i0 i1 (j:=4) (k:=1) (by decide),⟨by omega,by omega⟩,hix,wrG hM5 (bs:=[]) (by simp) i0 i1 (j:=5) (k:=1) (by decide),⟨by omega,by omega⟩,hix,wrG hM6 (bs:=[]) (by simp) i0 i1 (j:=6) (k:=1) (by decide),⟨by omega,by omega⟩,hix,wrG hM7 (bs:=[]) (by simp) i0 i1 (j:=7) (k:=1) (by decide),⟨by omega,by omega⟩,hix,wrG hM8 (bs:=[]) (by simp) i0 i1 (j:=8) (k:=1) (by decide),⟨by omega,by omega⟩,hix,wrG hM9 (bs:=[]) (by simp) i0 i1 (j:=9) (k:=1) (by decide),⟨by omega,by omega⟩,hix,wrG hM10 (bs:=[]) (by simp) i0 i1 (j:=10) (k:=1) (by decide),⟨by omega,by omega⟩,hix,_,_,_,za3 (hc11.get 11 _ rfl),fun wr1 hx1 _ => ?_⟩
  have hN1:=hM11.ext0 hx1
  have hO1:=hN1.grOwn i0 i1 hl1
  refine Calls.mono (zaa1 (k:=K+1+1+1+1+1+1+1+1+1+1+1) hO1.loc s1 (by omega) (by omega)) ?_
  rintro e wv1 ⟨he1,hL1,hy1⟩
  have hN2:=hN1.grIn (G':={ { G with used:=(Int.tmod (K) 3==0),parent:=K+1,name:=mtx (K+1+1),weight:=K+1+1+1,cpus:=K+1+1+1+1,period:=K+1+1+1+1+1,next:=K+1+1+1+1+1+1,sum:=K+1+1+1+1+1+1+1,band:={ G.band with quota:=K+1+1+1+1+1+1+1+1,pool:=K+1+1+1+1+1+1+1+1+1,spent:=K+1+1+1+1+1+1+1+1+1+1 } } with band:={ ({ G with used:=(Int.tmod (K) 3==0),parent:=K+1,name:=mtx (K+1+1),weight:=K+1+1+1,cpus:=K+1+1+1+1,period:=K+1+1+1+1+1,next:=K+1+1+1+1+1+1,sum:=K+1+1+1+1+1+1+1,band:={ G.band with quota:=K+1+1+1+1+1+1+1+1,pool:=K+1+1+1+1+1+1+1+1+1,spent:=K+1+1+1+1+1+1+1+1+1+1 } }:Grp).band with locals:=zj9 G.band.locals.length (K+1+1+1+1+1+1+1+1+1+1+1) } }) i0 i1 hl1 hy1 (fun x hx=>by simp [zag]; exact .inl hx) ⟨hL1,hO1.dry.ext hy1 (hO1.dry.ty_ne hO1.loc (by decide)),hO1.shl.ext hy1 (hO1.shl.ty_ne hO1.loc (by decide))⟩ (by simp [encG,zef])
  have hc2:=hN2.grRd i0 (by omega)
  refine ⟨_,he1,zby,hix,_,_,_,za3 (hc2.get 12 _ rfl),fun wr2 hx2 _ => ?_⟩
  have hN3:=hN2.ext0 hx2
  have hO3:=hN3.grOwn i0 i1 hl1
  refine Calls.mono (z8p (k:=K+1+1+1+1+1+1+1+1+1+1+1+1*(G.band.locals.length:Int)) hO3.dry s2 (by omega) (by omega)) ?_
  rintro e wv2 ⟨he2,hD1,hy2⟩
  have hN4:=hN3.grIn (G':={ mkG G K with shelves:=G.shelves }) i0 i1 hl1 hy2 (fun x hx=>by simp [zag]; exact .inr (.inl hx)) ⟨hO3.loc.ext hy2 (hO3.loc.ty_ne hO3.dry (by decide)),hD1,hO3.shl.ext hy2 (hO3.shl.ty_ne hO3.dry (by decide))⟩ (by simp [encG,mkG,zef,ze6])
  have hc4:=hN4.grRd i0 (by omega)
  refine ⟨_,he2,zby,hix,_,_,_,za3 (hc4.get 13 _ rfl),fun wr3 hx3 _ => ?_⟩
  have hN5:=hN4.ext0 hx3
  have hO5:=hN5.grOwn i0 i1 hl1
  refine Calls.mono (z6u (k:=K+1+1+1+1+1+1+1+1+1+1+1+1*(G.band.locals.length:Int)+1*(G.band.dry.length:Int)) hO5.shl s3 (by omega) (by omega)) ?_
  rintro e wv3 ⟨he3,hS1,hy3⟩
  have hN6:=hN5.grIn (G':=mkG G K) i0 i1 hl1 hy3 (fun x hx=>by simp [zag]; exact .inr (.inr hx)) ⟨hO5.loc.ext hy3 (hO5.loc.ty_ne hO5.shl (by decide)),hO5.dry.ext hy3 (hO5.dry.ty_ne hO5.shl (by decide)),hS1⟩ (by simp [encG,mkG,ze7])
  refine ⟨_,he3,zby,⟨by omega,by omega⟩,fun w4 hx4 _=>⟨⟨i+1,?_,by omega,?_,?_⟩,?_⟩⟩
  ·rw [hnx]; rfl
  ·rw [hdef]; exact hN6.ext0 hx4
  ·have m1:∀x∈zaq (m.ms (Int.toNat (i:Int))).lO,x∈zax n m:=fun x hx=>zhf (k:=Int.toNat (i:Int)) (by omega) (by simp [zag]; exact .inl (by simpa using hx))
   have m2:∀x∈zaq (m.ms (Int.toNat (i:Int))).dO,x∈zax n m:=fun x hx=>zhf (k:=Int.toNat (i:Int)) (by omega) (by simp [zag]; exact .inr (.inl (by simpa using hx)))
   have m3:∀x∈zaq (m.ms (Int.toNat (i:Int))).sO,x∈zax n m:=fun x hx=>zhf (k:=Int.toNat (i:Int)) (by omega) (by simp [zag]; exact .inr (.inr (by simpa using hx)))
   exact (((((((hX.trans hX11).trans hx1.of_nil).trans (hy1.mono m1)).trans hx2.of_nil).trans (hy2.mono m2)).trans hx3.of_nil).trans (hy3.mono m3)).trans hx4.of_nil
  ·simp only [zc5,cntM,zd1,List.getElem?_cons_zero,List.getElem?_cons_succ]; omega
 ·have hge:=of_decide_eq_false hge
  have:i=W.groups.length:=by omega
  subst this
  exact fun w5 hx5=>⟨rfl,hM.ext0 hx5,hX.trans hx5.of_nil⟩
set_option maxHeartbeats 1000000 in
theorem z6p {gs gs0:List Grp} {ms:Nat→MG} {o:Option Addr} {c:Nat} {k:Int} {bs:List Nat} (h:RdG bs w o gs ms) (hl:gs.length=gs0.length) (hln:gs0.length≤1048576) (hm:∀i:Nat,i<gs0.length→gi gs (i:Int)=mkG (gi gs0 (i:Int)) (gK gs0 k i)) (hs:∀i:Int,0≤i→i<(gs0.length:Int)→SmG (gi gs0 i)) (hk:0≤k) (hk2:k≤10000000000000000) :
  zab bs Tryz.prog zgv #[.slice o gs0.length c,.int .i64 k] w (.int .i64 (gK gs0 k gs0.length)) :=
 zst o gs0.length c k fun wr hx=>by
  have h:=(h.ext hx).less (cs:=[]) (by simp)
  refine zq8 gs0.length 0 rfl (fun x i=>i≤gs0.length∧x=gK gs0 k i) ⟨Nat.zero_le _,rfl⟩ fun x i ⟨hi,hx1⟩=>⟨fun hlt => ?_,fun hge => ?_⟩
  ·subst hx1
   have hlt:=of_decide_eq_true hlt
   have hr:=zut (k:=k) hs i hi
   have sm:=hs (i:Int) (by omega) hlt
   have s1:=sm.lo
   have s2:=sm.dr
   have s3:=sm.sh
   have hg:=hm i (by omega)
   have hc:=h.cells (i:Int) (by omega) (by omega)
   have hix:Ix o gs0.length (i:Int):=by have:=h.ix (i:=(i:Int)) (by omega) (by omega); rwa [hl] at this
   have hLo:=h.locals (i:Int) (by omega) (by omega)
   have hDo:=h.dry (i:Int) (by omega) (by omega)
   have hSo:=h.shelves (i:Int) (by omega) (by omega)
   have e1:(gi gs (i:Int)).band.locals=zj9 (gi gs0 (i:Int)).band.locals.length (gK gs0 k i+1+1+1+1+1+1+1+1+1+1+1):=by rw [hg]; rfl
   have e2:(gi gs (i:Int)).band.dry=zkh (gi gs0 (i:Int)).band.dry.length (gK gs0 k i+1+1+1+1+1+1+1+1+1+1+1+1*((gi gs0 (i:Int)).band.locals.length:Int)):=by rw [hg]; rfl
   have e3:(gi gs (i:Int)).shelves=zki (gi gs0 (i:Int)).shelves.length (gK gs0 k i+1+1+1+1+1+1+1+1+1+1+1+1*((gi gs0 (i:Int)).band.locals.length:Int)+1*((gi gs0 (i:Int)).band.dry.length:Int)):=by rw [hg]; rfl
   have hI:=zaay (c:=(ms (Int.toNat (i:Int))).lC) (e1▸hLo) s1 (by omega) (by omega)
   have hB:=z8k (c:=(ms (Int.toNat (i:Int))).dC) (e2▸hDo) s2 (by omega) (by omega)
   have hS:=z6q (c:=(ms (Int.toNat (i:Int))).sC) (e3▸hSo) s3 (by omega) (by omega)
   have l1:(gi gs (i:Int)).band.locals.length=(gi gs0 (i:Int)).band.locals.length:=by rw [e1,zef]
   have l2:(gi gs (i:Int)).band.dry.length=(gi gs0 (i:Int)).band.dry.length:=by rw [e2,ze6]
   have l3:(gi gs (i:Int)).shelves.length=(gi gs0 (i:Int)).shelves.length:=by rw [e3,ze7]
   have c11:zaa [] wr o (Int.toNat (i:Int)*14+11) [.slice (ms (Int.toNat (i:Int))).lO (gi gs0 (i:Int)).band.locals.length (ms (Int.toNat (i:Int))).lC]:=by rw [←l1]; exact za3 (hc.get 11 _ rfl)
   have c12:zaa [] wr o (Int.toNat (i:Int)*14+12) [.slice (ms (Int.toNat (i:Int))).dO (gi gs0 (i:Int)).band.dry.length (ms (Int.toNat (i:Int))).dC]:=by rw [←l2]; exact za3 (hc.get 12 _ rfl)
   have c13:zaa [] wr o (Int.toNat (i:Int)*14+13) [.slice (ms (Int.toNat (i:Int))).sO (gi gs0 (i:Int)).shelves.length (ms (Int.toNat (i:Int))).sC]:=by rw [←l3]; exact za3 (hc.get 13 _ rfl)
   have f0:(gi gs (i:Int)).used=(Int.tmod (gK gs0 k i) 3==0):=by rw [hg]; rfl
   have f1:(gi gs (i:Int)).parent=gK gs0 k i+1:=by rw [hg]; rfl
   have f2:(gi gs (i:Int)).name=mtx (gK gs0 k i+1+1):=by rw [hg]; rfl
   have f3:(gi gs (i:Int)).weight=gK gs0 k i+1+1+1:=by rw [hg]; rfl
   have f4:(gi gs (i:Int)).cpus=gK gs0 k i+1+1+1+1:=by rw [hg]; rfl
   have f5:(gi gs (i:Int)).period=gK gs0 k i+1+1+1+1+1:=by rw [hg]; rfl
   have f6:(gi gs (i:Int)).next=gK gs0 k i+1+1+1+1+1+1:=by rw [hg]; rfl
   have f7:(gi gs (i:Int)).sum=gK gs0 k i+1+1+1+1+1+1+1:=by rw [hg]; rfl
   have f8:(gi gs (i:Int)).band.quota=gK gs0 k i+1+1+1+1+1+1+1+1:=by rw [hg]; rfl
   have f9:(gi gs (i:Int)).band.pool=gK gs0 k i+1+1+1+1+1+1+1+1+1:=by rw [hg]; rfl
   have f10:(gi gs (i:Int)).band.spent=gK gs0 k i+1+1+1+1+1+1+1+1+1+1:=by rw [hg]; rfl
   refine ⟨hix,_,za3 (hc.get 0 _ rfl),by decide,fun hb=>(by rw [f0] at hb; simp at hb),fun _=>⟨⟨by omega,by omega⟩,hix,_,za3 (hc.get 1 _ rfl),fun hb=>(by rw [f1] at hb; simp at hb),fun _=>⟨⟨by omega,by omega⟩,hix,_,za3 (hc.get 2 _ rfl),_,z1u (by omega),fun hb=>(by rw [f2,zik.2 rfl] at hb; cases hb),fun _=>⟨⟨by omega,by omega⟩,hix,_,za3 (hc.get 3 _ rfl),fun hb=>(by rw [f3] at hb; simp at hb),fun _=>⟨⟨by omega,by omega⟩,hix,_,za3 (hc.get 4 _ rfl),fun hb=>(by rw [f4] at hb; simp at hb),fun _=>⟨⟨by omega,by omega⟩,hix,_,za3 (hc.get 5 _ rfl),fun hb=>(by rw [f5] at hb; simp at hb),fun _=>⟨⟨by omega,by omega⟩,hix,_,za3 (hc.get 6 _ rfl),fun hb=>(by rw [f6] at hb; simp at hb),fun _=>⟨⟨by omega,by omega⟩,hix,_,za3 (hc.get 7 _ rfl),fun hb=>(by rw [f7] at hb; simp at hb),fun _=>⟨⟨by omega,by omega⟩,hix,_,za3 (hc.get 8 _ rfl),fun hb=>(by rw [f8] at hb; simp at hb),fun _=>⟨⟨by omega,by omega⟩,hix,_,za3 (hc.get 9 _ rfl),fun hb=>(by rw [f9] at hb; simp at hb),fun _=>⟨⟨by omega,by omega⟩,hix,_,za3 (hc.get 10 _ rfl),fun hb=>(by rw [f10] at hb; simp at hb),fun _=>⟨⟨by omega,by omega⟩,hix,_,_,_,c11,_,hI,fun hb=>(by have:=of_decide_eq_true hb; omega),fun _=>⟨hix,_,_,_,c12,_,hB,fun hb=>(by have:=of_decide_eq_true hb; omega),fun _=>⟨hix,_,_,_,c13,_,hS,fun hb=>(by have:=of_decide_eq_true hb; omega),fun _=>⟨⟨by omega,by omega⟩,zbp (by omega) ⟨by omega,rfl⟩⟩⟩⟩⟩⟩⟩⟩⟩⟩⟩⟩⟩⟩⟩⟩
  ·have hge:=of_decide_eq_false hge
   have:i=gs0.length:=by omega
   subst this
   rw [hx1]
end
end Go.Proofs.YthhmnlcimojhlaaGreatDoor
namespace Go.Proofs.YthhmnlcimojhlaaGreatDoor
open Go.RowKit
set_option linter.unusedVariables false
set_option linter.unusedSimpArgs false
set_option maxRecDepth 10000
def kC (W:Wld):Int:=1+5*(W.cpus.length:Int)
def kT (W:Wld):Int:=kC W+9*(W.tasks.length:Int)
def mK (W:Wld):Int:=gK W.groups (kT W) W.groups.length
def zag0 (W:Wld):Wld:={ W with cpus:=zje W.cpus.length 1,tasks:=zka W.tasks.length (kC W),groups:=znb W.groups (kT W) W.groups.length }
section
variable {n base:Nat} {W:Wld} {m:MW} {w w':World} {bs:List Nat}
theorem zads (sm:SmW W):0≤mK W:=by
 have:=zut (k:=kT W) sm.gs W.groups.length (Nat.le_refl _)
 unfold mK kT kC at *
 omega
theorem zxf (h:MWd n base w W m) (sm:SmW W) :
  Calls Tryz.prog zfh #[.agg (encW W m).toArray,.int .i64 1] w fun e w'=>e = .returned (.int .i64 (mK W))∧MWd n base w' (zag0 W) m∧ExtX (zax n m) w w':=by
 refine (zt8 W.now m.cO W.cpus.length m.cC m.tO W.tasks.length m.tC m.gO W.groups.length m.gC 1 (R:=fun v w'=>v = .int .i64 (mK W)∧MWd n base w' (zag0 W) m∧ExtX (zax n m) w w') ?_).mono fun e w' ⟨v,he,hv,h1⟩=>⟨by rw [he,hv],h1⟩
 have s1:=sm.c
 have s2:=sm.t
 have s3:=sm.g
 intro b hb wr hx hs
 have hnb:∀y∈zax n m,y∉[b]:=fun y hy hm=>by
  have:y=b:=by simpa using hm
  have:=(h.lt y hy).2
  omega
 have hM0:=h.ext0 hx
 refine Calls.mono (zaa0 hM0.c s1 (by decide) (by decide)) ?_
 rintro e wv ⟨he,hC,hy⟩
 have hyW:ExtX (zax n m) wr wv:=hy.mono fun y hy=>z1v hy
 have hM1:MWd n base wv { W with cpus:=zje W.cpus.length 1 } m:=⟨hC,hM0.t.ext hy (hM0.t.ty_ne hM0.c (by decide)),hM0.g.foreign hM0.c (by decide) (by decide) (by decide) (by decide) hy,hM0.len⟩
 refine ⟨_,he,zh7 hyW hs hnb,fun wr1 hx1 hs1 => ?_⟩
 have hM2:=hM1.ext hx1 hnb
 refine Calls.mono (z8q (k:=kC W) hM2.t s2 (by unfold kC; omega) (by unfold kC; omega)) ?_
 rintro e1 wv1 ⟨he1,hT,hy1⟩
 have hyW1:ExtX (zax n m) wr1 wv1:=hy1.mono fun y hy=>z1w hy
 have hM3:MWd n base wv1 { W with cpus:=zje W.cpus.length 1,tasks:=zka W.tasks.length (kC W) } m:=⟨hM2.c.ext hy1 (hM2.c.ty_ne hM2.t (by decide)),hT,hM2.g.foreign hM2.t (by decide) (by decide) (by decide) (by decide) hy1,hM2.len⟩
 refine ⟨_,he1,zh7 hyW1 hs1 hnb,fun wr2 hx2 hs2 => ?_⟩
 have hM4:=hM3.ext hx2 hnb
 refine Calls.mono (z6t (W:={ W with cpus:=zje W.cpus.length 1,tasks:=zka W.tasks.length (kC W) }) (k:=kT W) hM4 s3 sm.gs (by unfold kT kC; omega) (by unfold kT kC; omega)) ?_
 rintro e2 wv2 ⟨he2,hG,hy2⟩
 refine ⟨_,he2,zh7 hy2 hs2 hnb,fun wr3 hx3=>⟨rfl,hG.ext hx3 hnb,?_⟩⟩
 have hone:∀y∈[b],w.heap.size≤y:=fun y hm=>by
  have:y=b:=by simpa using hm
  omega
 exact ((((((hx.of_nil.trans hyW).fresh hx1 fun y hm=>.inl (hone y hm)).trans hyW1).fresh hx2 fun y hm=>.inl (hone y hm)).trans hy2).fresh hx3 fun y hm=>.inl (hone y hm))
theorem zxb (h:RdW bs w (zag0 W) m) (sm:SmW W):zab bs Tryz.prog zfg #[.agg (encW W m).toArray,.int .i64 1] w (.int .i64 (mK W)) :=
 zul W.now m.cO W.cpus.length m.cC m.tO W.tasks.length m.tC m.gO W.groups.length m.gC 1 fun wr hx=>by
  have h:=(h.ext hx).less (cs:=[]) (by simp)
  have s1:=sm.c
  have s2:=sm.t
  have s3:=sm.g
  have hp:=zads sm
  intro b hb
  refine ⟨_,zaax (k:=1) h.c s1 (by decide) (by decide),fun g => ?_,fun _=>⟨_,z8l (k:=kC W) h.t s2 (by unfold kC; omega) (by unfold kC; omega),fun g => ?_,fun _=>⟨mK W,z6p (gs0:=W.groups) (k:=kT W) h.g (zn7 _ _ _) s3 (fun i hi => ?_) sm.gs (by unfold kT kC; omega) (by unfold kT kC; omega),fun g => ?_,fun _=>rfl⟩⟩⟩
  ·have:=of_decide_eq_true g; omega
  ·have:=of_decide_eq_true g; unfold kC at this; omega
  ·have:=z4k (gs:=W.groups) (k:=kT W) W.groups.length i (Nat.le_refl _)
   rw [if_pos hi] at this
   exact this
  ·have:=of_decide_eq_true g; omega
theorem zags {D:Wld} {M:MW} {w0:World} (h:RdW [] w0 D M) (s:Sc w0 bs w) (hs:∀x∈bs,x<w.heap.size) (sm:SmW D) :
  Calls Tryz.prog zc0 #[.agg (encW D M).toArray] w fun e w'=>∃m',e = .returned (.agg (encW D m').toArray)∧OW D.groups.length w.heap.size bs w' D m'∧ExtX [] w w' :=
 (zadi (h.ext s.ext) sm).mono fun e w' ⟨m',he,hO,hx⟩=>⟨m',he,OW.of (MWd.of hO rfl) hs,hx⟩
theorem eqWW {A:Wld} {ma mb:MW} (ha:RdW bs w A ma) (hb:RdW bs w A mb) (hs:SmW A):zab bs Tryz.prog zcz #[.agg (encW A ma).toArray,.agg (encW A mb).toArray] w (.bool true):=by
 have:=zac9 ha hb hs
 rwa [decide_eq_true rfl] at this
end
theorem zajm:SmW z7x:=⟨by decide,by decide,by decide,fun i a b=>by simp [z7x] at b; omega⟩
theorem zahh {W:Wld} (ha:WA W) (hn:∀i:Int,0≤i→i<8→(gi W.groups i).name.size≤1048576):SmW W:=by
 have h1:=ha.c2
 have h2:=ha.t
 have h3:=ha.gl
 refine ⟨by omega,by omega,by omega,fun i a b => ?_⟩
 have:=zup ha a (by omega)
 exact ⟨hn i a (by omega),by omega,by omega,by omega⟩
theorem zak7 {W W':Wld} (sm:SmW W) (ha:WA W') (hf:zcj W.groups W'.groups):SmW W':=zahh ha fun i a b=>by
 rw [hf.n]
 have hl:=ha.gl
 rw [hf.len] at hl
 exact (sm.gs i a (by omega)).nm
theorem zaj0 {W W':Wld} {bar:Int} (sm:SmW W) (h:zet W=true→bar=0→SmW W'):SmW (ansD W bar W').1:=by
 unfold ansD
 split
 ·exact zajm
 ·rename_i hW
  split
  ·exact sm
  ·rename_i hb
   exact h (by simpa using hW) (by simpa using hb)
theorem zaia {K:Int} {W W1:Wld} (sm:SmW W) (hS:SW K W1) (hK:0≤K) (hf:zcj W.groups W1.groups):SmW (zao W1) :=
 zak7 sm (zl3 hS hK).1.a (hf.trans (zl3 hS hK).2.g)
end Go.Proofs.YthhmnlcimojhlaaGreatDoor
namespace Go.Proofs.YthhmnlcimojhlaaGreatDoor
open Go.RowKit
set_option linter.unusedVariables false
set_option linter.unusedSimpArgs false
set_option maxRecDepth 10000
theorem zakr {W:Wld} {t:Int} {x:Tsk} (t0:0≤t) (t1:t<(W.tasks.length:Int)):tkk (setTk W t x) t=x:=by
 show gi (W.tasks.set t.toNat x) t=x
 rw [zba _ _ t0 t1 t0,if_pos rfl]
theorem set_set {W:Wld} {t:Int} {x y:Tsk}:setTk (setTk W t x) t y=setTk W t y:=by simp [setTk]
section
variable {W:Wld} {m:MW} {w:World} {bar:Int}
set_option maxHeartbeats 1000000 in
end
end Go.Proofs.YthhmnlcimojhlaaGreatDoor
namespace Go.Proofs.YthhmnlcimojhlaaGreatDoor
open Go.RowKit
set_option linter.unusedVariables false
set_option linter.unusedSimpArgs false
set_option maxRecDepth 10000
section
variable {W W':Wld} {m:MW} {w:World} {bar:Int}
theorem Done.pre {base pb:Nat} {ex:List Nat} {w0 w w':World} {W':Wld} {m m':MW} (hx:ExtX [] w0 w) (h:Done base pb ex w m w' W' m'):Done base pb ex w0 m w' W' m' :=
 ⟨h.own,h.pt,hx.of_nil.trans h.ext,fun x hy=>(h.sub x hy).imp id fun hz=>Nat.le_trans hx.size hz⟩
theorem Done.post {base pb:Nat} {ex:List Nat} {w w' w1:World} {W':Wld} {m m':MW} (h:Done base pb ex w m w' W' m') (hx:ExtX [] w' w1):Done base pb ex w m w1 W' m' :=
 ⟨h.own.ext0 hx,zat h.pt hx (by simp),h.ext.trans hx.of_nil,h.sub⟩
theorem Mp.grf {base pb:Nat} {bs:List Nat} {w0:World} {m0:MW} (h:Mp base pb bs w0 m0 w W m) {g:Int} (u0:0≤g) (u1:g<8) {G:Grp} (e1:G.band.locals=(gi W.groups g).band.locals) (e2:G.band.dry=(gi W.groups g).band.dry) (e3:G.shelves=(gi W.groups g).shelves) {j:Nat} {vs:List Value}
  (he:encG G (m.ms g.toNat)=(encG (gi W.groups g) (m.ms g.toNat)).take j++vs++(encG (gi W.groups g) (m.ms g.toNat)).drop (j+vs.length)) (hj:j+vs.length≤14) :
  Mp base pb bs w0 m0 (Go.Proofs.YthhmnlcimojhlaaGreatDoor.sto w m.gO (Int.toNat g*14+j) vs) (zau W g G) m :=
 h.deed (h.own.stoG0 u0 u1 e1 e2 e3 he hj) subG (by simp [encW,zau])
end
end Go.Proofs.YthhmnlcimojhlaaGreatDoor
namespace Go.Proofs.YthhmnlcimojhlaaGreatDoor
open Go.RowKit
set_option linter.unusedVariables false
set_option linter.unusedSimpArgs false
set_option maxRecDepth 10000
structure RelF (W W':Wld):Prop where
 n:W'.now=W.now
 c:W'.cpus.length=W.cpus.length
 t:W'.tasks.length=W.tasks.length
 g:W'.groups=W.groups
theorem RelF.trans {A B C:Wld} (h:RelF A B) (k:RelF B C):RelF A C:=⟨k.n.trans h.n,k.c.trans h.c,k.t.trans h.t,k.g.trans h.g⟩
end Go.Proofs.YthhmnlcimojhlaaGreatDoor
namespace Go.Proofs.YthhmnlcimojhlaaGreatDoor
open Go.RowKit
set_option linter.unusedVariables false
set_option linter.unusedSimpArgs false
set_option maxRecDepth 10000
section
variable {base:Nat} {W W':Wld} {m:MW} {w:World} {bar:Int}
theorem z8b (W:Wld) (t:Int) (x:Tsk) (m:MW):encW (setTk W t x) m=encW W m:=by simp [encW,setTk]
section
variable {pb:Nat}
end
end
end Go.Proofs.YthhmnlcimojhlaaGreatDoor
namespace Go.Proofs.YthhmnlcimojhlaaGreatDoor
open Go.RowKit
set_option linter.unusedVariables false
set_option linter.unusedSimpArgs false
set_option maxRecDepth 10000
def upP (W:Wld) (g:Int):List Int:=zdb W.groups g++[0]
theorem zahu (W:Wld):upP W 0=[0]:=by unfold upP; rw [show zdb W.groups 0=[] from zcf W.groups 3]; rfl
theorem zahv {W:Wld} (ht:zfu W.groups) {g:Int} (hu:zad W.groups g=true) (hz:g≠0):upP W g=g::upP W (gi W.groups g).parent:=by
 unfold upP
 rw [zdz ht hu hz,List.cons_append]
theorem z5g (gs:List Grp):∀(f:Nat) (g:Int),(zo9 f gs g).length≤f
 | 0,_=>Nat.le_refl _
 | f+1,g=>by
  simp only [zo9]
  split
  ·simp
  ·have:=z5g gs f (gi gs g).parent
   simp; omega
theorem zajw (W:Wld) (g:Int):(upP W g).length≤4:=by
 unfold upP
 have:=z5g W.groups 3 g
 simp; omega
section
variable {W:Wld} {m:MW} {w:World} {bs:List Nat} {p:Option Addr}
def zaed (W:Wld) (g:Int):List Int:=if g=0 then [] else upP W (gi W.groups g).parent
theorem z7i {W:Wld} (ht:zfu W.groups) {g:Int} (hu:zad W.groups g=true):g::zaed W g=upP W g:=by
 unfold zaed
 by_cases hz:g=0
 ·subst hz; rw [if_pos rfl,zahu]
 ·rw [if_neg hz,zahv ht hu hz]
theorem zxl {t:Int} (h:RdW [] w W m) (ht:zfu W.groups) (t0:0≤t) (t1:t<(W.tasks.length:Int)) (hu:zad W.groups (tkk W t).group=true) :
  Calls Tryz.prog zi5 #[.agg (encW W m).toArray,.int .i64 t] w fun e w'=>∃o c',e = .returned (.slice o (upP W (tkk W t).group).length c')∧Own encI 1 ty_int w.heap.size w' o c' (upP W (tkk W t).group)∧ExtX [] w w':=by
 refine (zwy W.now m.cO W.cpus.length m.cC m.tO W.tasks.length m.tC m.gO W.groups.length m.gC t (R:=fun v w'=>∃o c',v = .slice o (upP W (tkk W t).group).length c'∧Own encI 1 ty_int w.heap.size w' o c' (upP W (tkk W t).group)∧ExtX [] w w') ?_).mono fun e w' ⟨v,he,o,c',hv,h1⟩=>⟨o,c',by rw [he,hv],h1⟩
 intro b hb
 refine ⟨h.t.ix zc6 t0 t1,_,h.t.f t0 t1 (j:=1) rfl,fun b1 wb hx1 hb1 hcell hn => ?_⟩
 have hlen:=zajw W (tkk W t).group
 have hO0:Own encI 1 ty_int w.heap.size wb (some ⟨b1,0,none⟩) 1 [(tkk W t).group]:=.inr ⟨b1,[],rfl,hb1,hcell,by simp [encI],by simp⟩
 have hbn:∀x∈[b],w.heap.size≤x:=by simpa using hb
 refine ⟨fun vs w1=>∃(g:Int) (l:List Int) (o:Option Addr) (c':Nat),vs=[.int .i64 g,.slice o l.length c']∧zad W.groups g=true∧l++zaed W g=upP W (tkk W t).group∧Sc w [b] w1∧Ob encI 1 ty_int w.heap.size [b] w1 o c' l,fun vs _=>(dep 3 W.groups (zd1 0 vs)).toNat,
  fun wr hx _=>⟨_,[(tkk W t).group],_,1,rfl,hu,z7i ht hu,(Sc.mk hx1 hbn).step hx,⟨hO0.ext hx (by simp [zaq]; exact fun e=>hn (by simp [e])),by simp [zaq]; exact fun e=>hn (by simp [e])⟩⟩,?_⟩
 rintro g oO oL oC w1 hs1 ⟨g',l,o',c',he,hug,hI,s1,hO⟩
 simp only [List.cons.injEq,Value.int.injEq,Value.slice.injEq,true_and,and_true] at he
 obtain ⟨rfl,rfl,rfl,rfl⟩:=he
 have hg:=((h.wide (cs:=[b]) fun x hm=>.inr (hbn x hm)).ext s1.ext.of_nil).g
 have hll:l.length≤4:=by
  have:=congrArg List.length hI
  simp at this
  omega
 refine ⟨fun hz => ?_,fun hz wr hx => ?_⟩
 ·have hz:g≠0:=by simpa using hz
  obtain ⟨hp,a,b',d,e,e2,hd⟩:=zgj ht hug hz
  refine ⟨hg.ix a b',_,hg.parent a b',fun b2 hb2 wr1 hx2 hs2 hcell2 => ?_⟩
  have s2:=s1.put hx2 hb2
  have hO2:=hO.put hx2 hb2
  obtain ⟨o2,c2,w2,hrun,hk2,hO3,hx3⟩:=hO2.app1 zcq zmx (x:=(gi W.groups g).parent) hs2 s2.ext.size hcell2 (oneI _) (by omega) (by decide) zb5 #[false,false]
  have s3:=s2.call hx3 fun x hm=>(hO2.own.lt x hm).1
  refine ⟨_,_,_,w2,hrun,hk2,fun wr2 hx4 _=>⟨⟨_,l++[(gi W.groups g).parent],o2,c2,rfl,hp,?_,(s3.step hx4).sub (by simp),(hO3.step hx4).sub (by simp)⟩,?_⟩⟩
  ·rw [List.append_assoc,List.singleton_append,z7i ht hp,←hI]
   unfold zaed
   rw [if_neg hz]
  ·show (dep 3 W.groups (gi W.groups g).parent).toNat<(dep 3 W.groups g).toNat
   omega
 ·have hz:g=0:=by simpa using hz
  subst hz
  have hl:l=upP W (tkk W t).group:=by
   rw [←hI]
   unfold zaed
   rw [if_pos rfl,List.append_nil]
  subst hl
  exact ⟨oO,oC,rfl,(hO.step hx).own,(s1.step hx).ext⟩
end
end Go.Proofs.YthhmnlcimojhlaaGreatDoor
namespace Go.Proofs.YthhmnlcimojhlaaGreatDoor
open Go.RowKit
set_option linter.unusedVariables false
set_option linter.unusedSimpArgs false
set_option maxRecDepth 10000
theorem zae8 (cs:List Cpu) {c:Int} (c0:0≤c):∀k:Nat,k≤4→c<(k:Int)→(gi cs c).up=true→mHas (upsN cs k) c=true
 | 0,_,h,_=>by omega
 | k+1,hk,h,hu=>by
  have hl:=zy2 cs k (by omega)
  have hb:bitN k≤8:=by
   have:k=0∨k=1∨k=2∨k=3:=by omega
   rcases this with rfl | rfl | rfl | rfl <;> decide
  have key:=z9q ⟨k,by omega⟩ ⟨(upsN cs k).toNat,by omega⟩ ⟨c.toNat,by omega⟩
  rw [show ((⟨(upsN cs k).toNat,by omega⟩:Fin 8).val:Int)=upsN cs k by show (((upsN cs k).toNat:Nat):Int)=upsN cs k; omega,show ((⟨c.toNat,by omega⟩:Fin 4).val:Int)=c by show ((c.toNat:Nat):Int)=c; omega] at key
  simp only [upsN]
  by_cases e:c=(k:Int)
  ·subst e
   rw [if_pos hu,key hl.2]
   simp
  ·have ih:=zae8 cs c0 k (by omega) (by omega) hu
   split
   ·rw [key hl.2,ih]; simp
   ·exact ih
theorem zae9 {cs:List Cpu} (h4:cs.length≤4) {c:Int} (c0:0≤c) (c1:c<(cs.length:Int)) (hu:(gi cs c).up=true):upsD cs≠0:=fun e=>by
 have h:=zae8 cs c0 cs.length h4 c1 hu
 rw [show upsN cs cs.length=0 from e] at h
 have hr:=zl0 h
 have:c=0∨c=1∨c=2∨c=3:=by omega
 rcases this with rfl | rfl | rfl | rfl <;> exact absurd h (by decide)
theorem SW.setCp {K:Int} {W:Wld} (h:SW K W) {c:Int} (c0:0≤c) (c1:c<(W.cpus.length:Int)) {x:Cpu} (hu:upsD (W.cpus.set c.toNat x)≠0) (h1 : -1≤x.cur) (h2:x.cur<12):SW K (setCp W c x):=by
 have hl:(W.cpus.set c.toNat x).length=W.cpus.length:=List.length_set
 have hg:∀d:Int,0≤d→gi (W.cpus.set c.toNat x) d=if c=d then x else gi W.cpus d:=fun d d0=>zba _ _ c0 c1 d0
 refine ⟨h.a.cp hl hu,fun t a b n => ?_,h.tv,fun k d u a b => ?_,fun d a b => ?_⟩
 ·show _∧_∧_<(((W.cpus.set c.toNat x).length:Nat):Int)
  rw [hl]
  exact h.t t a b n
 ·have b:d<(((W.cpus.set c.toNat x).length:Nat):Int):=b
  rw [hl] at b
  exact h.s k d u a b
 ·have b:d<(((W.cpus.set c.toNat x).length:Nat):Int):=b
  rw [hl] at b
  show _≤(gi (W.cpus.set c.toNat x) d).cur∧(gi (W.cpus.set c.toNat x) d).cur<12
  rw [hg _ a]
  split
  ·exact ⟨h1,h2⟩
  ·exact h.cu d a b
theorem z8a (W:Wld) (c:Int) (x:Cpu) (m:MW):encW (setCp W c x) m=encW W m:=by simp [encW,setCp]
section
variable {W W':Wld} {m:MW} {w:World}
end
end Go.Proofs.YthhmnlcimojhlaaGreatDoor
namespace Go.Proofs.YthhmnlcimojhlaaGreatDoor
open Go.RowKit
set_option linter.unusedVariables false
set_option linter.unusedSimpArgs false
set_option maxRecDepth 10000
theorem zael (W:Wld) (t:Int) (x:Tsk):(setTk W t x).tasks.length=W.tasks.length:=by simp [setTk]
section
variable {base pb:Nat} {W W':Wld} {m:MW} {w:World}
end
end Go.Proofs.YthhmnlcimojhlaaGreatDoor
namespace Go.Proofs.YthhmnlcimojhlaaGreatDoor
open Go.RowKit
set_option linter.unusedVariables false
set_option linter.unusedSimpArgs false
set_option maxRecDepth 10000
section
variable {W W':Wld} {m:MW} {w:World} {bar:Int}
structure Mn (base pb:Nat) (w0:World) (m0:MW) (w:World) (W:Wld) (m:MW):Prop where
 own:MWd 8 base w W m
 pt:w.heap[pb]? = some (.cells (encW W m).toArray zak (0,0))
 pn:pb∉zax 8 m
 ext:ExtX (pb::zax 8 m0) w0 w
 sub:∀x∈zax 8 m,x∈zax 8 m0∨w0.heap.size≤x
section
variable {base pb:Nat} {w0 w':World} {m0 m':MW}
theorem Mn.start (h:PW base pb w W m):Mn base pb w m w W m:=⟨h.own,h.pt,h.pn,ExtX.refl _ _,fun _ hx=>.inl hx⟩
end
end
end Go.Proofs.YthhmnlcimojhlaaGreatDoor
namespace Go.Proofs.YthhmnlcimojhlaaGreatDoor
open Go.RowKit
set_option linter.unusedVariables false
set_option linter.unusedSimpArgs false
set_option maxRecDepth 10000
def pthR (W:Wld) (t:Int):List Int:=zdb W.groups (tkk W t).group++[0]
def tkG (W:Wld) (c g:Int):Wld×Bool:=if (gi W.groups g).band.quota=0 then (W,true) else (setBd W g (zc1 (gi W.groups g).band c).1,decide ((zc1 (gi W.groups g).band c).2≠2))
def tkL (c:Int):List Int→Wld→Wld×Bool
 | [],W=>(W,true)
 | g::l,W=>if (tkG W c g).2=true then tkL c l (tkG W c g).1 else ((tkG W c g).1,false)
def mstG (W:Wld) (c g n:Int):Int:=if (gi W.groups g).band.quota>0 then minI n (gi (gi W.groups g).band.locals c) else n
def mstL (W:Wld) (c:Int):List Int→Int→Int
 | [],n=>n
 | g::l,n=>mstL W c l (mstG W c g n)
def chS (W:Wld) (c n g:Int):Shf:={ shf W g c with v:=if g≠0 then (shf W g c).v+zc2 n (shf W g c).w else (shf W g c).v,sum:=(shf W g c).sum+n }
def chB (W:Wld) (c n g:Int):Bnd:=if (gi W.groups g).band.quota>0 then (zc8 (gi W.groups g).band ⟨2,c,n⟩).1 else (gi W.groups g).band
def chA (W:Wld) (c n g:Int):Wld:=setSh W g c (chS W c n g)
def chU (W:Wld) (c n g:Int):Grp:={ gi (chA W c n g).groups g with sum:=(gi W.groups g).sum+n }
def chG (W:Wld) (c n g:Int):Wld:=setBd (zau (chA W c n g) g (chU W c n g)) g (chB W c n g)
def chL (c n:Int):List Int→Wld→Wld
 | [],W=>W
 | g::l,W=>chL c n l (chG W c n g)
def chT (W:Wld) (t n:Int):Tsk:={ tkk W t with v:=(tkk W t).v+zc2 n (zav (tkk W t).nice),sum:=(tkk W t).sum+n,used:=(tkk W t).used+n }
def chC (W:Wld) (c n:Int):Cpu:={ gi W.cpus c with busy:=(gi W.cpus c).busy+n,ran:=(gi W.cpus c).ran+n }
def chW (W:Wld) (c t n:Int):Wld:=setCp (chL c n (pthR W t) (setTk W t (chT W t n))) c (chC W c n)
def zkl (W:Wld) (c t:Int):Cpu:=if t≠(gi W.cpus c).cur∨(gi W.cpus c).ran≥50 then { gi W.cpus c with cur:=t,ran:=0 } else gi W.cpus c
def zeo (W:Wld) (c t:Int):Wld:=setCp W c (zkl W c t)
def idlC (W:Wld) (c n:Int):Cpu:={ gi W.cpus c with idle:=(gi W.cpus c).idle+n }
def tkW (W:Wld) (c:Int):Wld×Bool:=tkL c (pthR W (zai W c)) (zeo W c (zai W c))
def rndM (W:Wld) (c left:Int):Int:=mstL (tkW W c).1 c (pthR W (zai W c)) left
def rndW (W:Wld) (c left:Int):Wld×Int :=
 if (tkW W c).2=true then (zao (chW (tkW W c).1 c (zai W c) (rndM W c left)),left - rndM W c left) else (zao (endW (tkW W c).1 c),left)
def runN (c:Int):Nat→Wld→Int→Wld
 | 0,W,_=>W
 | f+1,W,left=>if left≤0 then zao W else if zai W c<0 then zao (endW (setCp W c (idlC W c left)) c) else runN c f (rndW W c left).1 (rndW W c left).2
structure TkP (K c:Int) (W W':Wld):Prop where
 sw:SW K W'
 o:zlu W W'
 q:∀i:Int,0≤i→(gi W'.groups i).band.quota=(gi W.groups i).band.quota
 l:∀i:Int,0≤i→gi (gi W.groups i).band.locals c>0→gi (gi W'.groups i).band.locals c>0
 p:∀i:Int,0≤i→phiB (gi W'.groups i).band c≤phiB (gi W.groups i).band c
 su:SumC W W'
theorem TkP.refl {K c:Int} {W:Wld} (h:SW K W):TkP K c W W:=⟨h,zlu.refl _,fun _ _=>rfl,fun _ _ h=>h,fun _ _=>Nat.le_refl _,SumC.refl _⟩
theorem TkP.trans {K c:Int} {A B C:Wld} (h:TkP K c A B) (k:TkP K c B C):TkP K c A C:=⟨k.sw,h.o.trans k.o,fun i hi=>(k.q i hi).trans (h.q i hi),fun i hi g=>k.l i hi (h.l i hi g),fun i hi=>Nat.le_trans (k.p i hi) (h.p i hi),h.su.trans k.su⟩
theorem zaew {b:Bnd} (h:BndP b) {c:Int} (c0:0≤c) (c1:c<(b.locals.length:Int)):(gi b.locals c>0→(zc1 b c).1=b)∧((zc1 b c).2≠2→gi (zc1 b c).1.locals c>0):=by
 unfold zc1
 split
 ·rename_i hp
  exact ⟨fun _=>rfl,fun _=>hp⟩
 ·rename_i hn
  refine ⟨fun h=>absurd h hn,fun h2 => ?_⟩
  show gi (b.locals.set c.toNat (minI 20 b.pool)) c>0
  rw [zba _ _ c0 c1 c0,if_pos rfl]
  have hm:=z4l h.p1
  by_cases e:minI 20 b.pool=0
  ·exact absurd (if_pos e) h2
  ·omega
theorem zae1 {K c:Int} {W:Wld} (sw:SW K W) (c0:0≤c) (c1:c<(W.cpus.length:Int)) {g:Int} (hu:zad W.groups g=true) (hd:(gi W.groups g).band.quota≠0→gi (gi W.groups g).band.dry c=false) :
  TkP K c W (tkG W c g).1∧((tkG W c g).2=true→((gi W.groups g).band.quota≠0→gi (gi (tkG W c g).1.groups g).band.locals c>0)∧∀i:Int,0≤i→((gi W.groups i).band.quota≠0→gi (gi W.groups i).band.dry c=false)→(gi W.groups i).band.quota≠0→gi (gi (tkG W c g).1.groups i).band.dry c=false)
   ∧ ((tkG W c g).2=false→phiB (gi (tkG W c g).1.groups g).band c<phiB (gi W.groups g).band c):=by
 obtain ⟨u0,u1,hg⟩:=sw.a.u hu
 have hgl:=sw.a.gl
 unfold tkG
 split
 ·rename_i hq
  exact ⟨TkP.refl sw,fun _=>⟨fun h=>absurd hq h,fun i _ h h2=>h h2⟩,fun h=>by cases h⟩
 ·rename_i hq
  obtain ⟨hb,hbl,_⟩:=hg.band hq
  have hcl:c<((gi W.groups g).band.locals.length:Int):=by omega
  obtain ⟨hb2,hl2,hq2⟩:=zahn hb c0 hcl
  obtain ⟨p1,p2,p3⟩:=zag9 c0 hcl hb.dl (hd hq)
  obtain ⟨l1,l2⟩:=zaew hb c0 hcl
  have ha:=sw.a.setBd (g:=g) hu hq hb2 (by rw [hl2]; exact hbl) hq2
  have e:∀i:Int,0≤i→gi (setBd W g (zc1 (gi W.groups g).band c).1).groups i=if g=i then { gi W.groups g with band:=(zc1 (gi W.groups g).band c).1 } else gi W.groups i:=fun i hi=>ze9 u0 (by omega) hi
  have ob:=zrc (W:=W) (b:=(zc1 (gi W.groups g).band c).1) u0 (by omega)
  refine ⟨⟨(sw.sf.onlyB ob ha).w,ob,fun i hi => ?_,fun i hi h => ?_,fun i hi => ?_,zaid _ _ _⟩,fun h => ?_,fun h => ?_⟩
  ·show (gi (setBd W g _).groups i).band.quota=_
   rw [e i hi]; split
   ·rename_i e; subst e; exact hq2
   ·rfl
  ·show gi (gi (setBd W g _).groups i).band.locals c>0
   rw [e i hi]; split
   ·rename_i e; subst e
    show gi (zc1 (gi W.groups g).band c).1.locals c>0
    rw [l1 h]; exact h
   ·exact h
  ·show phiB (gi (setBd W g _).groups i).band c≤_
   rw [e i hi]; split
   ·rename_i e; subst e; exact p1
   ·exact Nat.le_refl _
  ·have h:(zc1 (gi W.groups g).band c).2≠2:=of_decide_eq_true h
   refine ⟨fun _ => ?_,fun i hi h1 h2 => ?_⟩
   ·show gi (gi (setBd W g _).groups g).band.locals c>0
    rw [e g u0,if_pos rfl]
    exact l2 h
   ·show gi (gi (setBd W g _).groups i).band.dry c=false
    rw [e i hi]; split
    ·rename_i e; subst e; exact p3 h
    ·exact h1 h2
  ·have h:(zc1 (gi W.groups g).band c).2=2:=Decidable.byContradiction fun hn=>of_decide_eq_false h hn
   show phiB (gi (setBd W g _).groups g).band c<_
   rw [e g u0,if_pos rfl]
   exact p2 h
theorem zaih {K c:Int} (c0:0≤c):∀(l:List Int) {W:Wld},SW K W→c<(W.cpus.length:Int)→(∀g∈l,zad W.groups g=true)→(∀g∈l,(gi W.groups g).band.quota≠0→gi (gi W.groups g).band.dry c=false) →
  TkP K c W (tkL c l W).1∧((tkL c l W).2=true→∀g∈l,(gi W.groups g).band.quota≠0→gi (gi (tkL c l W).1.groups g).band.locals c>0)∧((tkL c l W).2=false→∃g∈l,phiB (gi (tkL c l W).1.groups g).band c<phiB (gi W.groups g).band c)
 | [],W,sw,_,_,_=>⟨TkP.refl sw,fun _ g hg=>(by cases hg),fun h=>by cases h⟩
 | g::l,W,sw,c1,hu,hd=>by
  obtain ⟨a,b,d⟩:=zae1 sw c0 c1 (hu g List.mem_cons_self) (hd g List.mem_cons_self)
  simp only [tkL]
  by_cases h2:(tkG W c g).2=true
  ·rw [if_pos h2]
   obtain ⟨b1,b2⟩:=b h2
   have h0:∀x∈l,0≤x:=fun x hx=>(zac.1 (hu x (List.mem_cons_of_mem _ hx))).1
   obtain ⟨a',b',d'⟩:=zaih c0 l (W:=(tkG W c g).1) a.sw (by rw [a.o.c]; exact c1) (fun x hx=>by rw [a.o.g.usd]; exact hu x (List.mem_cons_of_mem _ hx)) fun x hx hq=>by
    rw [a.q x (h0 x hx)] at hq
    exact b2 x (h0 x hx) (hd x (List.mem_cons_of_mem _ hx)) hq
   refine ⟨a.trans a',fun h x hx hq => ?_,fun h => ?_⟩
   ·rcases List.mem_cons.1 hx with e | e
    ·subst e
     exact a'.l x (zac.1 (hu x List.mem_cons_self)).1 (b1 hq)
    ·exact b' h x e (by rw [a.q x (h0 x e)]; exact hq)
   ·obtain ⟨x,hx,hlt⟩:=d' h
    exact ⟨x,List.mem_cons_of_mem _ hx,Nat.lt_of_lt_of_le hlt (a.p x (h0 x hx))⟩
  ·rw [if_neg h2]
   exact ⟨a,fun h=>(by cases h),fun _=>⟨g,List.mem_cons_self,d (by simpa using h2)⟩⟩
theorem z61 {W:Wld} {c:Int}:∀(l:List Int) (n:Int),1≤n→(∀g∈l,(gi W.groups g).band.quota>0→gi (gi W.groups g).band.locals c>0)→1≤mstL W c l n∧mstL W c l n≤n
 | [],n,h,_=>⟨h,Int.le_refl _⟩
 | g::l,n,h,hl=>by
  simp only [mstL]
  have hm:1≤mstG W c g n∧mstG W c g n≤n:=by
   unfold mstG
   split
   ·rename_i hq
    have:=hl g List.mem_cons_self hq
    unfold minI
    split <;> omega
   ·exact ⟨h,Int.le_refl _⟩
  have:=z61 l (mstG W c g n) hm.1 fun x hx=>hl x (List.mem_cons_of_mem _ hx)
  omega
theorem zma (n w:Int) (h0:0≤n) (h1:n≤100):0≤zc2 n w∧zc2 n w≤lagB:=by
 by_cases h:1≤w∧w≤20
 ·rw [zu6 h0 (by omega) h.1 h.2]
  have hs:=z7s h.1 h.2
  refine ⟨Int.mul_nonneg h0 (by omega),?_⟩
  calc n*stp w≤100*stp w:=Int.mul_le_mul_of_nonneg_right h1 (by omega)
   _≤100*232792560:=Int.mul_le_mul_of_nonneg_left hs.2 (by decide)
   _≤lagB:=by decide
 ·rw [zy4 (by omega)]; exact ⟨Int.le_refl _,by decide⟩
theorem zabz {b:Bnd} (h:BndP b) {c n:Int} (c0:0≤c) (c1:c<(b.locals.length:Int)):BndP (zc8 b ⟨2,c,n⟩).1∧(zc8 b ⟨2,c,n⟩).1.locals.length=b.locals.length∧(zc8 b ⟨2,c,n⟩).1.quota=b.quota∧phiB (zc8 b ⟨2,c,n⟩).1 c=phiB b c:=by
 have e:zc8 b ⟨2,c,n⟩=zfo b c n:=by
  unfold zc8
  rw [if_neg (show ¬(2:Int)=4 by decide),if_neg (by rw [zaz.2 (by show 0≤c∧c≤_; omega)]; decide),if_neg (show ¬(2:Int)=1 by decide),if_pos rfl]
 rw [e]
 obtain ⟨a,b',d⟩:=zaep h (n:=n) c0 c1
 exact ⟨a,b',d,zad7 c0 c1⟩
structure ChP (K S c n:Int) (W W':Wld):Prop where
 sw:SW K W'
 rb:RB S W'
 now:W'.now=W.now
 t:W'.tasks=W.tasks
 cp:W'.cpus=W.cpus
 g:zcj W.groups W'.groups
 p:∀i:Int,0≤i→phiB (gi W'.groups i).band c=phiB (gi W.groups i).band c
theorem zaca {K S c n:Int} {W:Wld} (sw:SW K W) (rb:RB S W) (hS:S+n≤100000000000000000) (c0:0≤c) (c1:c<(W.cpus.length:Int)) {g:Int} (hu:zad W.groups g=true) (n0:0≤n) (n1:n≤100):ChP (K+lagB) (S+n) c n W (chG W c n g):=by
 obtain ⟨u0,u1,hg⟩:=sw.a.u hu
 have hgl:=sw.a.gl
 have hsl:=sw.a.sl hu
 have hsr:=sw.s g c hu c0 c1
 have hv:=zma n (shf W g c).w n0 n1
 have hlg:0≤lagB:=by decide
 have ea:∀{i:Int},0≤i→gi (chA W c n g).groups i=if g=i then { gi W.groups g with shelves:=(gi W.groups g).shelves.set c.toNat (chS W c n g) } else gi W.groups i:=fun hi=>ze9 u0 (by omega) hi
 have eg:∀i:Int,0≤i→gi (chG W c n g).groups i=if g=i then { gi W.groups g with shelves:=(gi W.groups g).shelves.set c.toNat (chS W c n g),sum:=(gi W.groups g).sum+n,band:=chB W c n g } else gi W.groups i:=fun i hi=>by
  have hl1:g<((zau (chA W c n g) g (chU W c n g)).groups.length:Int):=by
   have:(zau (chA W c n g) g (chU W c n g)).groups.length=W.groups.length:=by simp [zau,chA,setSh]
   rw [this]; omega
  have hl2:g<((chA W c n g).groups.length:Int):=by
   have:(chA W c n g).groups.length=W.groups.length:=by simp [zau,chA,setSh]
   rw [this]; omega
  unfold chG setBd
  rw [ze9 u0 hl1 hi,ze9 u0 hl2 hi,ze9 u0 hl2 u0,if_pos rfl,ea hi]
  split
  ·unfold chU
   rw [ea u0,if_pos rfl]
  ·rfl
 have es:∀i d:Int,0≤i→0≤d→shf (chG W c n g) i d=if g=i∧c=d then chS W c n g else shf W i d:=fun i d hi hd=>by
  rw [←zkc (W:=W) (s:=chS W c n g) u0 (by omega) c0 (by omega) hi hd]
  unfold shf
  show gi (gi (chG W c n g).groups i).shelves d=gi (gi (chA W c n g).groups i).shelves d
  rw [eg i hi,ea hi]
  split <;> rfl
 have hT:zcj W.groups (chG W c n g).groups:=by
  have t1:=zh0 (W:=W) (g:=g) (c:=c) (s:=chS W c n g) u0 (by omega)
  have t2:=zoj (W:=chA W c n g) (g:=g) (x:=chU W c n g) u0 (by show g<((chA W c n g).groups.length:Int); rw [show (chA W c n g).groups.length=W.groups.length from t1.len]; omega) rfl rfl rfl
  have t3:=zoj (W:=zau (chA W c n g) g (chU W c n g)) (g:=g) (x:={ gi (zau (chA W c n g) g (chU W c n g)).groups g with band:=chB W c n g }) u0 (by rw [t2.len,show (chA W c n g).groups.length=W.groups.length from t1.len]; omega) rfl rfl rfl
  exact (t1.trans t2).trans t3
 have hB:(chB W c n g).quota=(gi W.groups g).band.quota∧phiB (chB W c n g) c=phiB (gi W.groups g).band c∧((gi W.groups g).band.quota=0→chB W c n g=(gi W.groups g).band)∧((gi W.groups g).band.quota≠0→BndP (chB W c n g)∧(chB W c n g).locals.length=W.cpus.length):=by
  unfold chB
  split
  ·rename_i hq
   obtain ⟨hb,hbl,_⟩:=hg.band (by omega)
   obtain ⟨a,b,d,e⟩:=zabz hb (n:=n) c0 (by omega)
   exact ⟨d,e,fun h=>by omega,fun _=>⟨a,by rw [b]; exact hbl⟩⟩
  ·rename_i hq
   refine ⟨rfl,rfl,fun _=>rfl,fun h => ?_⟩
   obtain ⟨hb,hbl,_⟩:=hg.band h
   exact ⟨hb,hbl⟩
 have hrg:=rb.g g hu
 have hW:WA (chG W c n g):=by
  have hl:=sw.a
  refine ⟨hl.n1,hl.n2,hl.c1,hl.c2,hl.t,hT.tree hl.tree,hl.ups,fun k k0 k1 => ?_⟩
  unfold GrpP
  rw [eg k k0]
  split
  ·rename_i e
   subst e
   refine ⟨fun h => ?_,fun _=>⟨hg.w1,hg.w2,hg.m,hg.m0,zl6.2 ⟨by show 0≤(gi W.groups g).sum+n; omega,by show (gi W.groups g).sum+n≤_; omega⟩,by show (List.set _ _ _).length=_; rw [List.length_set]; exact hg.len,fun h=>⟨(hg.root h).1,(hg.root h).2.1,by show (chB W c n g).quota=0; rw [hB.1]; exact (hg.root h).2.2⟩,fun h => ?_,fun h => ?_⟩⟩
   ·have h:(gi W.groups g).used=false:=h
    rw [(zac.1 hu).2.2] at h; cases h
   ·have h:(chB W c n g).quota=0:=h
    rw [hB.1] at h
    have:=hg.none h
    exact ⟨by show ztf (chB W c n g)=true; rw [hB.2.2.1 h]; exact this.1,this.2⟩
   ·have h:(chB W c n g).quota≠0:=h
    rw [hB.1] at h
    obtain ⟨_,_,hp⟩:=hg.band h
    exact ⟨(hB.2.2.2 h).1,(hB.2.2.2 h).2,hp⟩
  ·have:=hl.grp k k0 k1
   exact ⟨this.1,fun hu=>by have:=this.2 hu; exact ⟨this.w1,this.w2,this.m,this.m0,this.s,this.len,this.root,this.none,this.band⟩⟩
 refine ⟨⟨hW,fun t a b m => ?_,fun t a b => ?_,fun k d u a b => ?_,sw.cu⟩,⟨rb.n,fun t a b => ?_,fun k d u a b => ?_,fun k u => ?_,fun d a b => ?_⟩,rfl,rfl,rfl,hT,fun i hi => ?_⟩
 ·rw [hT.usd]; exact sw.t t a b m
 ·have:=sw.tv t a b
  exact ⟨this.1,by show (tkk W t).v≤_; omega⟩
 ·rw [hT.usd] at u
  have hk:=(zac.1 u).1
  have h:=sw.s k d u a b
  rw [es k d hk a]
  split
  ·refine ⟨hsr.1,by show (shf W g c).floor≤_; omega,?_,?_,hsr.2.2.2.2.1,hsr.2.2.2.2.2⟩
   ·show 0≤if g≠0 then (shf W g c).v+zc2 n (shf W g c).w else (shf W g c).v
    split <;> omega
   ·show (if g≠0 then (shf W g c).v+zc2 n (shf W g c).w else (shf W g c).v)≤_
    split <;> omega
  ·exact ⟨h.1,by omega,h.2.2.1,by omega,h.2.2.2.2.1,h.2.2.2.2.2⟩
 ·have:=rb.t t a b
  exact ⟨this.1,by show (tkk W t).sum≤_; omega,this.2.2.1,by show (tkk W t).used≤_; omega⟩
 ·rw [hT.usd] at u
  have hk:=(zac.1 u).1
  have h:=rb.s k d u a b
  rw [es k d hk a]
  split
  ·have h2:=rb.s g c hu c0 c1
   exact ⟨by show 0≤(shf W g c).sum+n; omega,by show (shf W g c).sum+n≤_; omega⟩
  ·exact ⟨h.1,by omega⟩
 ·rw [hT.usd] at u
  have h:=rb.g k u
  rw [eg k (zac.1 u).1]
  split
  ·exact ⟨by show 0≤(gi W.groups g).sum+n; omega,by show (gi W.groups g).sum+n≤_; omega⟩
  ·exact ⟨h.1,by omega⟩
 ·have:=rb.c d a b
  exact ⟨this.1,by show (gi W.cpus d).busy≤_; omega,this.2.2.1,this.2.2.2.1,this.2.2.2.2⟩
 ·rw [eg i hi]
  split
  ·rename_i e; subst e; exact hB.2.1
  ·rfl
end Go.Proofs.YthhmnlcimojhlaaGreatDoor
namespace Go.Proofs.YthhmnlcimojhlaaGreatDoor
open Go.RowKit
set_option linter.unusedVariables false
set_option linter.unusedSimpArgs false
set_option maxRecDepth 10000
theorem RB.mono {S S':Int} {W:Wld} (h:RB S W) (k:S≤S'):RB S' W :=
 ⟨h.n,fun t a b=>by have:=h.t t a b; omega,fun k c u a b=>by have:=h.s k c u a b; omega,fun k u=>by have:=h.g k u; omega,fun c a b=>by have:=h.c c a b; omega⟩
theorem RB.setCp {S:Int} {W:Wld} (h:RB S W) {c:Int} (c0:0≤c) (c1:c<(W.cpus.length:Int)) {x:Cpu} (hx:0≤x.busy∧x.busy≤S∧0≤x.idle∧x.idle≤50000000000000000∧0≤x.ran∧x.ran≤149):RB S (setCp W c x):=by
 have hl:(W.cpus.set c.toNat x).length=W.cpus.length:=List.length_set
 refine ⟨h.n,h.t,fun k d u a b => ?_,h.g,fun d a b => ?_⟩
 ·have b:d<(((W.cpus.set c.toNat x).length:Nat):Int):=b
  rw [hl] at b
  exact h.s k d u a b
 ·have b:d<(((W.cpus.set c.toNat x).length:Nat):Int):=b
  rw [hl] at b
  show _≤(gi (W.cpus.set c.toNat x) d).busy∧(gi (W.cpus.set c.toNat x) d).busy≤_∧_≤(gi (W.cpus.set c.toNat x) d).idle∧(gi (W.cpus.set c.toNat x) d).idle≤_∧_≤(gi (W.cpus.set c.toNat x) d).ran∧(gi (W.cpus.set c.toNat x) d).ran≤_
  rw [zba _ _ c0 c1 a]
  split
  ·exact hx
  ·exact h.c d a b
theorem RB.setTk {S:Int} {W:Wld} (h:RB S W) (hl:W.tasks.length=12) {t:Int} (t0:0≤t) (t1:t<12) {x:Tsk} (hx:0≤x.sum∧x.sum≤S∧0≤x.used∧x.used≤S):RB S (setTk W t x):=by
 refine ⟨h.n,fun u a b => ?_,h.s,h.g,h.c⟩
 show _≤(gi (W.tasks.set t.toNat x) u).sum∧(gi (W.tasks.set t.toNat x) u).sum≤_∧_≤(gi (W.tasks.set t.toNat x) u).used∧(gi (W.tasks.set t.toNat x) u).used≤_
 rw [zba _ _ t0 (by omega) a]
 split
 ·exact hx
 ·exact h.t u a b
theorem ChP.trans {K S K' S' c n:Int} {A B C:Wld} (h:ChP K S c n A B) (k:ChP K' S' c n B C):ChP K' S' c n A C :=
 ⟨k.sw,k.rb,k.now.trans h.now,k.t.trans h.t,k.cp.trans h.cp,h.g.trans k.g,fun i hi=>(k.p i hi).trans (h.p i hi)⟩
theorem zah1 {c n:Int} (c0:0≤c) (n0:0≤n) (n1:n≤100):∀(l:List Int) {K S:Int} {W:Wld},SW K W→RB S W→S+100*(l.length:Int)≤100000000000000000→c<(W.cpus.length:Int)→(∀g∈l,zad W.groups g=true) →
  ChP (K+lagB*(l.length:Int)) (S+100*(l.length:Int)) c n W (chL c n l W)
 | [],K,S,W,sw,rb,_,_,_=>⟨sw.mono (by simp),rb.mono (by simp),rfl,rfl,rfl,zcj.refl _,fun _ _=>rfl⟩
 | g::l,K,S,W,sw,rb,hS,c1,hu=>by
  rw [List.length_cons] at hS ⊢
  have h1:=zaca sw rb (by omega) c0 c1 (hu g List.mem_cons_self) n0 n1
  have h2:=zah1 c0 n0 n1 l (W:=chG W c n g) h1.sw (h1.rb.mono (show S+n≤S+100 by omega)) (by omega) (by rw [h1.cp]; exact c1) fun x hx=>by rw [h1.g.usd]; exact hu x (List.mem_cons_of_mem _ hx)
  have h3:=h1.trans h2
  exact ⟨h3.sw.mono (by simp only [lagB]; omega),h3.rb.mono (by omega),h3.now,h3.t,h3.cp,h3.g,h3.p⟩
theorem zajh {W W':Wld} {c:Int} (h:∀i:Int,0≤i→phiB (gi W'.groups i).band c=phiB (gi W.groups i).band c):phiW W' c=phiW W c :=
 Nat.le_antisymm (zsv (fun k _=>Nat.le_of_eq (h k (by omega))) 8 (Nat.le_refl _)) (zsv (fun k _=>Nat.le_of_eq (h k (by omega)).symm) 8 (Nat.le_refl _))
theorem z5h {W:Wld} (ha:WA W) {t:Int} (hu:zad W.groups (tkk W t).group=true):(∀g∈pthR W t,zad W.groups g=true)∧(pthR W t).length≤4:=by
 refine ⟨fun g hg => ?_,?_⟩
 ·rcases List.mem_append.1 hg with h | h
  ·exact (zym ha.tree _ hu g h).1
  ·rw [List.mem_singleton.1 h]; exact ha.root
 ·have:=z5g W.groups 3 (tkk W t).group
  unfold pthR
  rw [List.length_append]
  show (zo9 3 W.groups (tkk W t).group).length+1≤4
  omega
theorem z8x {W W':Wld} (ht:W'.tasks=W.tasks) (hT:zcj W.groups W'.groups) (t:Int):pthR W' t=pthR W t:=by
 unfold pthR
 rw [ztj ht,z5f hT]
def runK (f:Nat):Int:=zb2+(400 - (f:Int))*346860914400
def runS (f:Nat):Int:=zb2+(400 - (f:Int))*500
structure RunI (f:Nat) (c:Int) (W0 W:Wld) (left:Int):Prop where
 sw:SW (runK f) W
 rb:RB (runS f) W
 dm:Dm W c
 c0:0≤c
 c1:c<(W.cpus.length:Int)
 up:(gi W.cpus c).up=true
 now:W.now=W0.now
 len:W.cpus.length=W0.cpus.length
 l0:0≤left
 l1:left≤100
 f1:left+phiW W c<(f:Int)
 f2:f≤400
theorem z5j {f:Nat} (h:f≤400):zb2≤runK f∧runK f≤50200000000000000:=by
 unfold runK zb2; omega
theorem z8y {f:Nat} (h:f≤400):zb2≤runS f∧runS f≤50000000000200000:=by
 unfold runS zb2; omega
theorem zabk {W:Wld} (wp:WldP W) (r:z2b W) {c n:Int} (c0:0≤c) (c1:c<(W.cpus.length:Int)) (up:(gi W.cpus c).up=true) (n0:0≤n) (n1:n≤100):RunI 400 c W W n:=by
 have hp:=zaji W c
 exact ⟨(zak8 wp r).mono (by unfold runK; omega),(zak6 wp r).mono (by unfold runS; omega),zakz wp c0 c1,c0,c1,up,rfl,rfl,n0,n1,by omega,Nat.le_refl _⟩
theorem zyu {K S:Int} {c t:Int} {W:Wld} (sw:SW K W) (rb:RB S W) (c0:0≤c) (c1:c<(W.cpus.length:Int)) (up:(gi W.cpus c).up=true) (t0:0≤t) (t1:t<12) :
  SW K (zeo W c t)∧RB S (zeo W c t)∧(gi (zeo W c t).cpus c).up=true∧(gi (zeo W c t).cpus c).ran<50∧(gi (zeo W c t).cpus c).cur=t∧(zeo W c t).cpus.length=W.cpus.length:=by
 have e:gi (zeo W c t).cpus c=zkl W c t:=(zba _ _ c0 c1 c0).trans (if_pos rfl)
 have hl:(zeo W c t).cpus.length=W.cpus.length:=List.length_set
 have hup:(zkl W c t).up=true:=by unfold zkl; split <;> exact up
 have hr:=rb.c c c0 c1
 have hcu:=sw.cu c c0 c1
 refine ⟨sw.setCp c0 c1 (zae9 (c:=c) (by rw [List.length_set]; exact sw.a.c2) c0 (by rw [List.length_set]; exact c1) (by rw [show gi (W.cpus.set c.toNat (zkl W c t)) c=_ from e]; exact hup)) ?_ ?_,rb.setCp c0 c1 ?_,by rw [e]; exact hup,?_,?_,hl⟩
 ·unfold zkl; split
  ·show -1≤t; omega
  ·exact hcu.1
 ·unfold zkl; split
  ·exact t1
  ·exact hcu.2
 ·unfold zkl; split
  ·exact ⟨hr.1,hr.2.1,hr.2.2.1,hr.2.2.2.1,by show (0:Int)≤0; decide,by show (0:Int)≤149; decide⟩
  ·exact hr
 ·rw [e]
  unfold zkl; split
  ·show (0:Int)<50; decide
  ·omega
 ·rw [e]
  unfold zkl; split
  ·rfl
  ·rename_i h
   exact Decidable.byContradiction fun hn=>h (.inl fun e=>hn e.symm)
structure RndP (f:Nat) (c:Int) (W0 W:Wld) (left:Int):Prop where
 line:zaii W (zai W c) c
 us:zad W.groups (tkk W (zai W c)).group=true
 pin:∀g∈pthR W (zai W c),zad W.groups g=true
 len:(pthR W (zai W c)).length≤4
 s1:SW (runK (f+1)) (zeo W c (zai W c))
 r1:RB (runS (f+1)) (zeo W c (zai W c))
 ran:(gi (zeo W c (zai W c)).cpus c).ran<50
 tk:TkP (runK (f+1)) c (zeo W c (zai W c)) (tkW W c).1
 dr:∀g∈pthR W (zai W c),(gi (zeo W c (zai W c)).groups g).band.quota≠0→gi (gi (zeo W c (zai W c)).groups g).band.dry c=false
 m:(tkW W c).2=true→1≤rndM W c left∧rndM W c left≤left
 ch:(tkW W c).2=true→SW (runK (f+1)+5*lagB) (chW (tkW W c).1 c (zai W c) (rndM W c left))∧RB (runS (f+1)+500) (chW (tkW W c).1 c (zai W c) (rndM W c left))
 nx:RunI f c W0 (rndW W c left).1 (rndW W c left).2
 gt:zcj W.groups (rndW W c left).1.groups
theorem zacb {K S c t n:Int} {W:Wld} (sw:SW K W) (rb:RB S W) (hS:S+500≤100000000000000000) (c0:0≤c) (c1:c<(W.cpus.length:Int)) (up:(gi W.cpus c).up=true) (ran:(gi W.cpus c).ran<50) (t0:0≤t) (t1:t<12) (hu:zad W.groups (tkk W t).group=true) (n0:0≤n) (n1:n≤100) :
  SW (K+5*lagB) (chW W c t n)∧RB (S+500) (chW W c t n)∧phiW (chW W c t n) c=phiW W c∧(chW W c t n).now=W.now∧(chW W c t n).cpus.length=W.cpus.length∧(gi (chW W c t n).cpus c).up=true∧SW (K+lagB) (setTk W t (chT W t n))∧RB (S+100) (setTk W t (chT W t n))∧ChP (K+5*lagB) (S+500) c n (setTk W t (chT W t n)) (chL c n (pthR W t) (setTk W t (chT W t n))):=by
 have hv:=zma n (zav (tkk W t).nice) n0 n1
 have hlg:0≤lagB:=by decide
 have htv:=sw.tv t t0 t1
 have htr:=rb.t t t0 t1
 have hcr:=rb.c c c0 c1
 obtain ⟨hp1,hp2⟩:=z5h sw.a hu
 have s1:SW (K+lagB) (setTk W t (chT W t n)):=(sw.mono (K':=K+lagB) (by omega)).setTk t0 t1 (x:=chT W t n) (fun h=>sw.t t t0 t1 h) (by show 0≤(tkk W t).v+zc2 n (zav (tkk W t).nice); omega) (by show (tkk W t).v+zc2 n (zav (tkk W t).nice)≤_; omega)
 have r1:RB (S+100) (setTk W t (chT W t n)):=(rb.mono (S':=S+100) (by omega)).setTk sw.a.t t0 t1 (x:=chT W t n) ⟨by show 0≤(tkk W t).sum+n; omega,by show (tkk W t).sum+n≤_; omega,by show 0≤(tkk W t).used+n; omega,by show (tkk W t).used+n≤_; omega⟩
 have h0:=zah1 c0 n0 n1 (pthR W t) s1 r1 (by omega) c1 hp1
 have h2:ChP (K+5*lagB) (S+500) c n (setTk W t (chT W t n)) (chL c n (pthR W t) (setTk W t (chT W t n))):=⟨h0.sw.mono (by simp only [lagB]; omega),h0.rb.mono (by omega),h0.now,h0.t,h0.cp,h0.g,h0.p⟩
 have hcp:(chL c n (pthR W t) (setTk W t (chT W t n))).cpus=W.cpus:=h2.cp
 have e:gi (chW W c t n).cpus c=chC W c n:=by
  show gi ((chL c n (pthR W t) (setTk W t (chT W t n))).cpus.set c.toNat (chC W c n)) c=_
  rw [hcp]
  exact (zba _ _ c0 c1 c0).trans (if_pos rfl)
 have hlen:(chW W c t n).cpus.length=W.cpus.length:=by
  show ((chL c n (pthR W t) (setTk W t (chT W t n))).cpus.set c.toNat (chC W c n)).length=_
  rw [List.length_set,hcp]
 have hcu:=sw.cu c c0 c1
 refine ⟨h2.sw.setCp c0 (by rw [hcp]; exact c1) (x:=chC W c n) (zae9 (c:=c) ?_ c0 ?_ ?_) hcu.1 hcu.2,h2.rb.setCp c0 (by rw [hcp]; exact c1) (x:=chC W c n) ⟨by show 0≤(gi W.cpus c).busy+n; omega,by show (gi W.cpus c).busy+n≤_; omega,hcr.2.2.1,hcr.2.2.2.1,by show 0≤(gi W.cpus c).ran+n; omega,by show (gi W.cpus c).ran+n≤149; omega⟩,zajh (W':=chW W c t n) h2.p,h2.now,hlen,by rw [e]; exact up,s1,r1,h2⟩
 ·rw [List.length_set,hcp]; exact sw.a.c2
 ·rw [List.length_set,hcp]; exact c1
 ·rw [show gi ((chL c n (pthR W t) (setTk W t (chT W t n))).cpus.set c.toNat (chC W c n)) c=_ from e]; exact up
theorem z15 {K S c:Int} {W:Wld} (sw:SW K W) (rb:RB S W) (hK:0≤K) (c0:0≤c) (c1:c<(W.cpus.length:Int)) (up:(gi W.cpus c).up=true) :
  SW (K+stlB) (zao W)∧RB S (zao W)∧Dm (zao W) c∧(gi (zao W).cpus c).up=true∧(zao W).now=W.now∧(zao W).cpus.length=W.cpus.length∧phiW (zao W) c≤phiW W c:=by
 obtain ⟨s,f⟩:=zl3 sw hK
 have su:=zabn W
 exact ⟨s,rb.sum su f.g f.c,zaen sw hK c0 c1,by rw [su.u]; exact up,f.n,f.c,zabd sw hK c⟩
theorem zaee {f:Nat} {c left:Int} {W0 W:Wld} (h:RunI (f+1) c W0 W left) (hl:0<left) (hp:¬zai W c<0):RndP f c W0 W left:=by
 have hf:=h.f2
 have hh0:(0:Int)≤zb2:=by decide
 have hK:=z5j (f:=f+1) hf
 have hS:=z8y (f:=f+1) hf
 have c0:=h.c0
 have c1:=h.c1
 have eK:runK f=runK (f+1)+346860914400:=by unfold runK; omega
 have eS:runS f=runS (f+1)+500:=by unfold runS; omega
 have hline:=zad8 h.sw.a (h.sw.cu c c0 c1).2 h.dm.cu hp
 have hM:rndM W c left=mstL (tkW W c).1 c (pthR W (zai W c)) left:=rfl
 have hT:tkW W c=tkL c (pthR W (zai W c)) (zeo W c (zai W c)):=rfl
 have hR:rndW W c left=if (tkW W c).2=true then (zao (chW (tkW W c).1 c (zai W c) (rndM W c left)),left - rndM W c left) else (zao (endW (tkW W c).1 c),left):=rfl
 have t0:=hline.t0
 have t1:=hline.t1
 obtain ⟨us,_,_⟩:=h.sw.t _ t0 t1 (by rw [hline.st]; decide)
 obtain ⟨pin,plen⟩:=z5h h.sw.a us
 obtain ⟨s1,r1,u1,ran1,cu1,l1⟩:=zyu h.sw h.rb c0 c1 h.up t0 t1
 have hdr:∀g∈pthR W (zai W c),(gi (zeo W c (zai W c)).groups g).band.quota≠0→gi (gi (zeo W c (zai W c)).groups g).band.dry c=false:=fun g hg hq=>by
  have hq:(gi W.groups g).band.quota≠0:=hq
  show gi (gi W.groups g).band.dry c=false
  have hug:=pin g hg
  obtain ⟨u0,u8,hgu⟩:=h.sw.a.u hug
  rcases List.mem_append.1 hg with hg | hg
  ·have hon:=hline.on g hg
   have hz:=(zym h.sw.a.tree _ us g hg).2
   have:=h.dm.on g hug hz
   unfold onEq at this
   rw [hon] at this
   have hd:dryD W g c=false:=by
    cases hd:dryD W g c with
    | false=>rfl
    | true=>rw [hd] at this; simp at this
   unfold dryD at hd
   have:=(hgu.band hq).1.q1
   rw [decide_eq_true (by omega),Bool.true_and] at hd
   exact hd
  ·rw [List.mem_singleton.1 hg] at hq hgu
   exact absurd (hgu.root rfl).2.2 hq
 obtain ⟨tk,tl,tf⟩:=zaih c0 (pthR W (zai W c)) s1 (by rw [l1]; exact c1) pin hdr
 rw [←hT] at tk tl tf
 have eT:(tkW W c).1.tasks=W.tasks:=tk.o.t
 have eC:(tkW W c).1.cpus=(zeo W c (zai W c)).cpus:=tk.o.c
 have eG:zcj W.groups (tkW W c).1.groups:=tk.o.g
 have lT:(tkW W c).1.cpus.length=W.cpus.length:=by rw [eC,l1]
 have rT:RB (runS (f+1)) (tkW W c).1:=r1.sum tk.su tk.o.g (by rw [eC])
 have uT:zad (tkW W c).1.groups (tkk (tkW W c).1 (zai W c)).group=true:=by rw [eG.usd,ztj eT]; exact us
 have pT:pthR (tkW W c).1 (zai W c)=pthR W (zai W c):=z8x eT eG _
 have upT:(gi (tkW W c).1.cpus c).up=true:=by rw [eC]; exact u1
 have ranT:(gi (tkW W c).1.cpus c).ran<50:=by rw [eC]; exact ran1
 have phT:phiW (tkW W c).1 c≤phiW W c:=zsv (fun k _=>tk.p (k:Int) (by omega)) 8 (Nat.le_refl _)
 have hm:(tkW W c).2=true→1≤rndM W c left∧rndM W c left≤left:=fun ht=>by
  refine z61 _ left (by omega) fun g hg hq => ?_
  have g0:=(zac.1 (pin g hg)).1
  rw [tk.q g g0] at hq
  exact tl ht g hg (by omega)
 have hl1:=h.l1
 have hch:(tkW W c).2=true→_:=fun ht=>zacb (t:=zai W c) (n:=rndM W c left) tk.sw rT (by omega) c0 (by rw [lT]; exact c1) upT ranT t0 t1 uT (by have:=hm ht; omega) (by have:=hm ht; omega)
 refine ⟨hline,us,pin,plen,s1,r1,ran1,tk,hdr,hm,fun ht=>⟨(hch ht).1,(hch ht).2.1⟩,?_,?_⟩
 rotate_left
 ·rw [hR]
  by_cases ht:(tkW W c).2=true
  ·rw [if_pos ht]
   have a:=(hch ht).1
   have g1:zcj (tkW W c).1.groups (chW (tkW W c).1 c (zai W c) (rndM W c left)).groups:=(hch ht).2.2.2.2.2.2.2.2.g
   exact (eG.trans g1).trans (zl3 a (by simp only [lagB]; omega)).2.g
  ·rw [if_neg ht]
   have g1:zcj (tkW W c).1.groups (endW (tkW W c).1 c).groups:=zcj.refl _
   exact (eG.trans g1).trans (zl3 (tk.sw.endW c0 (by rw [lT]; exact c1)) (by omega)).2.g
 rw [hR]
 have hf1:=h.f1
 by_cases ht:(tkW W c).2=true
 ·rw [if_pos ht]
  obtain ⟨a,b,d,e1,e2,e3,_⟩:=hch ht
  obtain ⟨b1,b2,b3,b4,b5,b6,b7⟩:=z15 a b (by simp only [lagB]; omega) c0 (by rw [e2,lT]; exact c1) e3
  have hm:=hm ht
  exact ⟨b1.mono (by simp only [lagB,stlB]; omega),b2.mono (by omega),b3,c0,by rw [b6,e2,lT]; exact c1,b4,by rw [b5,e1,tk.o.n]; exact h.now,by rw [b6,e2,lT]; exact h.len,by show 0≤left - rndM W c left; omega,by show left - rndM W c left≤100; omega,by
   rw [d] at b7
   show left - rndM W c left+((phiW (zao (chW (tkW W c).1 c (zai W c) (rndM W c left))) c:Nat):Int)<_
   omega,by omega⟩
 ·rw [if_neg ht]
  have ht:(tkW W c).2=false:=by simpa using ht
  obtain ⟨g,hg,hlt⟩:=tf ht
  have g0:=zac.1 (pin g hg)
  have hgl:=h.sw.a.gl
  have hp1:phiW (tkW W c).1 c<phiW W c:=by
   refine zad6 (fun k _=>tk.p (k:Int) (by omega)) (j:=g.toNat) ?_ 8 (by omega) (Nat.le_refl _)
   rw [show ((g.toNat:Nat):Int)=g by omega]
   exact hlt
  have ce:c<((tkW W c).1.cpus.length:Int):=by rw [lT]; exact c1
  have sE:=tk.sw.endW c0 ce
  have eE:gi (endW (tkW W c).1 c).cpus c=endC (gi (tkW W c).1.cpus c):=(zba _ _ c0 ce c0).trans (if_pos rfl)
  have lE:(endW (tkW W c).1 c).cpus.length=(tkW W c).1.cpus.length:=List.length_set
  obtain ⟨b1,b2,b3,b4,b5,b6,b7⟩:=z15 sE (rT.sum (zaer _ c) (zcj.refl _) lE) (by omega) c0 (by rw [lE]; exact ce) (by rw [eE]; exact upT)
  exact ⟨b1.mono (by simp only [lagB,stlB]; omega),b2.mono (by omega),b3,c0,by rw [b6,lE]; exact ce,b4,by rw [b5]; show (tkW W c).1.now=_; rw [tk.o.n]; exact h.now,by rw [b6,lE,lT]; exact h.len,h.l0,h.l1,by
   have b7:phiW (zao (endW (tkW W c).1 c)) c≤phiW (tkW W c).1 c:=b7
   show left+((phiW (zao (endW (tkW W c).1 c)) c:Nat):Int)<_
   omega,by omega⟩
end Go.Proofs.YthhmnlcimojhlaaGreatDoor
namespace Go.Proofs.YthhmnlcimojhlaaGreatDoor
open Go.RowKit
set_option linter.unusedVariables false
set_option linter.unusedSimpArgs false
set_option maxRecDepth 10000
theorem zahy {b:Bnd} {c:Int} (c0:0≤c) (c1:c<(b.locals.length:Int)):zc8 b ⟨1,c,0⟩=zc1 b c:=by
 unfold zc8
 rw [if_neg (show ¬(1:Int)=4 by decide),if_neg (by rw [zaz.2 (by show 0≤c∧c≤_; omega)]; decide),if_pos rfl]
theorem z8g {α:Type} [Inhabited α] {l:List α} {k:Nat} (h:k<l.length):l.drop k=gi l (k:Int)::l.drop (k+1):=by
 rw [List.drop_eq_getElem_cons h]
 congr 1
 unfold gi
 rw [Int.toNat_natCast,List.getD_eq_getElem?_getD,List.getElem?_eq_getElem h]; rfl
theorem z8h {α:Type} [Inhabited α] {l:List α} {k:Nat} (h:k<l.length):gi l (k:Int)∈l:=by
 have:=List.getElem_mem h
 unfold gi
 rw [Int.toNat_natCast,List.getD_eq_getElem?_getD,List.getElem?_eq_getElem h]; exact this
theorem zu2 {c g:Int} {l:List Int} {W:Wld}:tkL c (g::l) W=if (tkG W c g).2=true then tkL c l (tkG W c g).1 else ((tkG W c g).1,false):=rfl
section
variable {base:Nat} {W:Wld} {m:MW} {w:World}
theorem zms {pb n:Nat} {l:List Int} {pO:Option Addr} {pC:Nat} {w2:World} {bs:List Nat} {V:Wld} {m2:MW} (hp:Own encI 1 ty_int pb w pO pC l) (hpn:∀x∈zaq pO,x∉zax n m) (hM:Mv n base bs w m w2 V m2):Own encI 1 ty_int pb w2 pO pC l∧RdI bs w2 pO l:=by
 have h:=hp.ext hM.ext hpn
 exact ⟨h,h.rd zcq.len fun x hx hm=>by
  have:=(hp.lt x hx).2
  have:=hM.new x hm
  omega⟩
theorem Mv.put {n:Nat} {bs:List Nat} {w0 w w':World} {m0:MW} {b:Nat} (h:Mv n base bs w0 m0 w W m) (hx:ExtX bs w w') (hb:w.heap.size≤b):Mv n base (bs++[b]) w0 m0 w' W m:=(h.add hb).step (hx.mono fun x hm=>List.mem_append_left _ hm)
set_option maxHeartbeats 1000000 in
theorem z4h {K c:Int} {l:List Int} {pO:Option Addr} {pC pb:Nat} (h:MWd 8 base w W m) (sw:SW K W) (hbase:base≤w.heap.size) (hp:Own encI 1 ty_int pb w pO pC l) (hpn:∀x∈zaq pO,x∉zax 8 m) (hl4:l.length≤4) (c0:0≤c) (c1:c<(W.cpus.length:Int)) (hu:∀g∈l,zad W.groups g=true) (hd:∀g∈l,(gi W.groups g).band.quota≠0→gi (gi W.groups g).band.dry c=false) :
  Calls Tryz.prog zlm #[.agg (encW W m).toArray,.slice pO l.length pC,.int .i64 c] w fun e w'=>∃m',e = .returned (.tuple #[.agg (encW W m).toArray,.bool (tkL c l W).2])∧Mv 8 base [] w m w' (tkL c l W).1 m':=by
 refine (z3r W.now m.cO W.cpus.length m.cC m.tO W.tasks.length m.tC m.gO W.groups.length m.gC pO l.length pC c (R:=fun v w'=>∃m',v = .tuple #[.agg (encW W m).toArray,.bool (tkL c l W).2]∧Mv 8 base [] w m w' (tkL c l W).1 m') ?_).mono fun e w' ⟨v,he,m',hv,h3⟩=>⟨m',by rw [he,hv],h3⟩
 intro x hx x1 hx1
 have hgl:=sw.a.gl
 have hnew:=z5n hx hx1
 refine ⟨fun vs w2=>∃(k:Nat) (r:List Value) (V:Wld) (m2:MW),vs = .int .i64 (k:Int)::r∧k≤l.length∧Mv 8 base [x,x1] w m w2 V m2∧tkL c l W=tkL c (l.drop k) V∧SW K V∧zlu W V∧∀g∈l.drop k,(gi V.groups g).band.quota≠0→gi (gi V.groups g).band.dry c=false,
  zc5 l.length 0,fun wr hx3 _=>⟨0,_,W,m,rfl,Nat.zero_le _,(Mv.two h hx hx1).call0 hx3,rfl,sw,zlu.refl _,hd⟩,?_⟩
 rintro i1 ll l1O l1L l1C l2O l2L l2C l3O l3L l3C w2 hs2 ⟨k,r,V,m2,he,hk,hM2,hE,swV,oV,hdV⟩
 simp only [List.cons.injEq,Value.int.injEq,true_and] at he
 obtain ⟨rfl,_⟩:=he
 have hmg:m2.gO=m.gO:=by rw [hM2.hd]
 have hr:=hM2.rd
 have hglV:V.groups.length=8:=swV.a.gl
 obtain ⟨_,hpr⟩:=zms hp hpn hM2
 refine ⟨fun hlt => ?_,fun hge => ?_⟩
 ·have hlt':=of_decide_eq_true hlt
  have hlt:k<l.length:=by omega
  have hdr:=z8g hlt
  have hgu:=hu _ (z8h hlt)
  rw [hdr] at hE hdV
  have hug:zad V.groups (gi l (k:Int))=true:=by rw [oV.g.usd]; exact hgu
  have hpc:=hpr (k:Int) (by omega) (by omega)
  have hpix:=hpr.ix zex (i:=(k:Int)) (by omega) (by omega)
  have hdk:=hdV _ List.mem_cons_self
  generalize hgk:gi l (k:Int)=g at hE hdV hug hpc hdk hgu hdr
  obtain ⟨u0,u1,hgg⟩:=swV.a.u hug
  have hlt2:g<(V.groups.length:Int):=by omega
  have hix:Ix m.gO W.groups.length g:=by have:=hr.g.ix (i:=g) u0 hlt2; rwa [hglV,←hgl,hmg] at this
  have hrow:=hr.g.cells g u0 hlt2
  rw [hmg] at hrow
  refine ⟨hpix,g,hpc,hix,_,_,_,_,_,_,_,_,_,_,_,_,_,_,_,_,_,_,_,_,hrow,fun b4 hb4=>⟨hrow,hpc,rfl,fun g1 => ?_,fun g1 => ?_⟩⟩
  ·have g1:(gi V.groups g).band.quota=0:=by simpa using g1
   have hT:tkG V c g=(V,true):=by unfold tkG; rw [if_pos g1]
   rw [zu2,hT,if_pos rfl] at hE
   exact ⟨⟨by omega,by omega⟩,fun wr hx3 _=>⟨⟨k+1,_,V,m2,by simp; rfl,by omega,hM2.step hx3,hE,swV,oV,fun y hy=>hdV y (List.mem_cons_of_mem _ hy)⟩,zco (k:=k) rfl rfl hlt⟩⟩
  ·have g1:(gi V.groups g).band.quota≠0:=by simpa using g1
   obtain ⟨hb,hbl,_⟩:=hgg.band g1
   have hclV:c<(V.cpus.length:Int):=by rw [oV.c]; exact c1
   have hcl:c<((gi V.groups g).band.locals.length:Int):=by omega
   intro wr3 hx3 hs4
   have hM4:=hM2.put hx3 hb4
   have hr4:=hM4.rd0
   refine Calls.mono (zjd (op:=⟨1,c,0⟩) hb (hr4.g.locals g u0 hlt2) (hr4.g.dry g u0 hlt2)) ?_
   rintro e wv2 ⟨p,he,hO,hy⟩
   rw [zahy c0 hcl] at he hO
   have hM5:=hM4.call0 hy
   have hbs:base≤wr3.heap.size:=by have:=hM4.ext.size; omega
   have hOb:∀y∈zew p,wr3.heap.size≤y:=fun y hy=>(hO.lt y hy).1
   have hput:=hM5.own.putB (i:=g) u0 (by omega) (hO.mono hbs) (fun y hy hm=>by have:=hOb y hy; have:=(hM4.own.lt y hm).2; omega)
   have hwr:=wrG hM5.own hM5.nb (i:=g) u0 (by omega) (j:=8) (k:=5) (by decide)
   have hsz:=hM4.ext.size
   have hM6:=hM5.swap hput subG rfl fun y hy=>by
    rcases zrn y hy with h1 | h1
    ·exact .inl h1
    ·rcases zoc y h1 with h2 | h2
     ·have:=hOb y h2
      exact .inr ⟨by omega,fun hm=>by have:=hs4 y hm; omega⟩
     ·exact .inl (zhf (by omega) h2)
   rw [hmg] at hwr
   have hgO:m2.gO=m.gO:=hmg
   rw [hgO] at hM6
   obtain ⟨_,hpr5⟩:=zms hp hpn hM5
   have hpc5:=hpr5 (k:Int) (by omega) (by omega)
   rw [hgk] at hpc5
   have hTk:tkG V c g=(setBd V g (zc1 (gi V.groups g).band c).1,decide ((zc1 (gi V.groups g).band c).2≠2)):=by unfold tkG; rw [if_neg g1]
   obtain ⟨tk,t2,_⟩:=zae1 swV c0 hclV hug hdk
   rw [zu2] at hE
   refine ⟨_,_,_,_,_,_,_,_,_,_,he,za0 hy hs4,fun b5 hb5=>⟨hpix,g,hpc5,hix,hwr,fun g2 wr6 hx6 => ?_,fun g2=>⟨⟨by omega,by omega⟩,fun wr6 hx6 hs6=>⟨⟨k+1,_,setBd V g (zc1 (gi V.groups g).band c).1,_,by simp; rfl,by omega,(hM6.step hx6).sub' (by simp),?_,?_,?_,fun y hy hq => ?_⟩,zco (k:=k) rfl rfl hlt⟩⟩⟩⟩
   ·have g2:(zc1 (gi V.groups g).band c).2=2:=by simpa using g2
    have:(tkG V c g).2=false:=by rw [hTk]; simp [g2]
    rw [hE,this,if_neg (by decide),hTk]
    exact ⟨_,rfl,(hM6.step hx6).close⟩
   all_goals
    have g2:(zc1 (gi V.groups g).band c).2≠2:=by simpa using g2
    have ht2:(tkG V c g).2=true:=by rw [hTk]; simp [g2]
    have hT1:(tkG V c g).1=setBd V g (zc1 (gi V.groups g).band c).1:=by rw [hTk]
   ·rw [hE,if_pos ht2,hT1]
   ·rw [←hT1]; exact tk.sw
   ·rw [←hT1]; exact oV.trans tk.o
   ·have y0:=(zac.1 (hu y (List.mem_of_mem_drop hy))).1
    rw [←hT1] at hq ⊢
    rw [tk.q y y0] at hq
    exact (t2 ht2).2 y y0 (hdV y (List.mem_cons_of_mem _ hy)) hq
 ·have hge:=of_decide_eq_false hge
  have hk2:k=l.length:=by omega
  subst hk2
  rw [List.drop_length] at hE
  rw [hE]
  exact fun w3 hx3=>⟨m2,rfl,(hM2.step hx3).close⟩
theorem z4e {c n:Int} {l:List Int} {pO:Option Addr} {pC:Nat} {bs:List Nat} (h:RdW bs w W m) (ha:WA W) (hp:RdI bs w pO l) (hl4:l.length≤4) (c0:0≤c) (c1:c<(W.cpus.length:Int)) (hu:∀g∈l,zad W.groups g=true) :
  zab bs Tryz.prog zlk #[.agg (encW W m).toArray,.slice pO l.length pC,.int .i64 c,.int .i64 n] w (.int .i64 (mstL W c l n)) :=
 z5c W.now m.cO W.cpus.length m.cC m.tO W.tasks.length m.tC m.gO W.groups.length m.gC pO l.length pC c n fun wr hx=>by
  have h:=(h.ext hx).less (cs:=[]) (by simp)
  have hp:=(hp.ext hx).less (cs:=[]) (by simp)
  intro _ _
  refine zq8 l.length 0 rfl (fun y k=>k≤l.length∧mstL W c l n=mstL W c (l.drop k) y) ⟨Nat.zero_le _,rfl⟩ fun y k ⟨hk,hy⟩=>⟨fun hlt => ?_,fun hge => ?_⟩
  ·have hlt':=of_decide_eq_true hlt
   have hlt:k<l.length:=by omega
   have hdr:=z8g hlt
   have hgu:=hu _ (z8h hlt)
   rw [hdr] at hy
   have hpc:=hp (k:Int) (by omega) (by omega)
   generalize gi l (k:Int)=g at hy hpc hgu
   obtain ⟨u0,u1,hgg⟩:=ha.u hgu
   have hgl:=ha.gl
   have hyy:mstL W c (g::l.drop (k+1)) y=mstL W c (l.drop (k+1)) (mstG W c g y):=rfl
   rw [hyy] at hy
   refine ⟨hp.ix zex (i:=(k:Int)) (by omega) (by omega),g,hpc,h.g.ix u0 (by omega),_,_,_,_,_,_,_,_,_,h.g.band u0 (by omega),fun b1 hb1=>⟨h.g.band u0 (by omega),hpc,rfl,fun g1 => ?_,fun g1 => ?_⟩⟩
   ·have g1:=of_decide_eq_true g1
    obtain ⟨hb,hbl,_⟩:=hgg.band (by omega)
    have hLo:=h.g.locals g u0 (by omega)
    refine ⟨hLo.ix zex c0 (by omega),_,hLo c c0 (by omega),_,zn1,⟨by omega,by omega⟩,zbp (by omega) ⟨by omega,?_⟩⟩
    rw [hy]; unfold mstG; rw [if_pos g1]
   ·have g1:=of_decide_eq_false g1
    refine ⟨⟨by omega,by omega⟩,zbp (by omega) ⟨by omega,?_⟩⟩
    rw [hy]; unfold mstG; rw [if_neg g1]
  ·have hge:=of_decide_eq_false hge
   have:k=l.length:=by omega
   subst this
   rw [List.drop_length] at hy
   show Value.int .i64 y=_
   rw [hy]; rfl
end
end Go.Proofs.YthhmnlcimojhlaaGreatDoor
namespace Go.Proofs.YthhmnlcimojhlaaGreatDoor
open Go.RowKit
set_option linter.unusedVariables false
set_option linter.unusedSimpArgs false
set_option maxRecDepth 10000
theorem z9e {c n g:Int} {l:List Int} {W:Wld}:chL c n (g::l) W=chL c n l (chG W c n g):=rfl
theorem zwh (W:Wld) (c n g:Int):(chA W c n g).groups.length=W.groups.length:=by simp [chA,setSh,zau]
theorem z6a {W:Wld} {c n g:Int} (u0:0≤g) (u1:g<(W.groups.length:Int)):gi (chA W c n g).groups g={ gi W.groups g with shelves:=(gi W.groups g).shelves.set c.toNat (chS W c n g) }:=by
 unfold chA setSh
 rw [ze9 u0 u1 u0,if_pos rfl]
theorem z9f {W:Wld} {c n g:Int} (u0:0≤g) (u1:g<(W.groups.length:Int)):gi (zau (chA W c n g) g (chU W c n g)).groups g=chU W c n g:=by
 rw [ze9 u0 (by rw [zwh]; exact u1) u0,if_pos rfl]
theorem zur {W:Wld} {c n g:Int} (u0:0≤g) (u1:g<(W.groups.length:Int)):(chU W c n g).band=(gi W.groups g).band:=by
 unfold chU
 rw [z6a u0 u1]
theorem z3j {W:Wld} {c n g:Int} (u0:0≤g) (u1:g<(W.groups.length:Int)) (h:¬(gi W.groups g).band.quota>0):chG W c n g=zau (chA W c n g) g (chU W c n g):=by
 unfold chG chB
 rw [if_neg h,←zur (c:=c) (n:=n) u0 u1]
 have:=z9f (c:=c) (n:=n) u0 u1
 conv=>lhs; arg 3; rw [←this]
 exact zou u0 (by simp only [zau,List.length_set]; rw [zwh]; exact u1)
section
variable {base:Nat} {W:Wld} {m:MW} {w:World}
set_option maxHeartbeats 2000000 in
theorem zxk {K S t c n:Int} {pO:Option Addr} {pC pb:Nat} (h:MWd 8 base w W m) (hbase:base≤w.heap.size) (hp:Own encI 1 ty_int pb w pO pC (pthR W t)) (hpn:∀x∈zaq pO,x∉zax 8 m)
  (sw:SW K W) (rb:RB S W) (hK:0≤K∧K≤60000000000000000) (hS:0≤S∧S≤60000000000000000) (c0:0≤c) (c1:c<(W.cpus.length:Int)) (up:(gi W.cpus c).up=true) (ran:(gi W.cpus c).ran<50) (t0:0≤t) (t1:t<12) (hu:zad W.groups (tkk W t).group=true) (n0:0≤n) (n1:n≤100) :
  Calls Tryz.prog zi4 #[.agg (encW W m).toArray,.int .i64 t,.slice pO (pthR W t).length pC,.int .i64 c,.int .i64 n] w fun e w'=>∃m',e = .returned (.agg (encW (zao (chW W c t n)) m').toArray)∧Mv 8 base [] w m w' (zao (chW W c t n)) m':=by
 obtain ⟨sE,rE,_,_,hlE,_,s1,r1,cp1⟩:=zacb sw rb (by omega) c0 c1 up ran t0 t1 hu n0 n1
 obtain ⟨pin,plen⟩:=z5h sw.a hu
 refine (zwx W.now m.cO W.cpus.length m.cC m.tO W.tasks.length m.tC m.gO W.groups.length m.gC t pO (pthR W t).length pC c n (R:=fun v w'=>∃m',v = .agg (encW (zao (chW W c t n)) m').toArray∧Mv 8 base [] w m w' (zao (chW W c t n)) m') ?_).mono fun e w' ⟨v,he,m',hv,h3⟩=>⟨m',by rw [he,hv],h3⟩
 intro x hx x1 hx1
 have hgl:=sw.a.gl
 have htl:=sw.a.t
 have hlg:lagB=34686091440:=rfl
 have hr0:=h.rd (bs:=[]) (by simp)
 have hix:=hr0.t.ix zc6 t0 (by omega)
 have htv:=sw.tv t t0 t1
 have htr:=rb.t t t0 t1
 have hv:=zma n (zav (tkk W t).nice) n0 n1
 refine ⟨hix,_,_,_,_,_,_,_,_,_,hr0.t t t0 (by omega),fun x2 hx2=>⟨_,zg8,_,zdo,⟨?_,?_⟩,⟨?_,?_⟩,⟨?_,?_⟩,hix,wrT h (by simp) t0 (by omega) (j:=0) (by decide),?_⟩⟩
 ·show _≤(tkk W t).v+zc2 n (zav (tkk W t).nice); omega
 ·show (tkk W t).v+zc2 n (zav (tkk W t).nice)≤_; omega
 ·show _≤(tkk W t).sum+n; omega
 ·show (tkk W t).sum+n≤_; omega
 ·show _≤(tkk W t).used+n; omega
 ·show (tkk W t).used+n≤_; omega
 have eT:MWd 8 base (sto w m.tO (Int.toNat t*9) (encT (chT W t n))) (setTk W t (chT W t n)) m:=h.stoT t0 (by omega) (j:=0) (vs:=encT (chT W t n)) (x:=chT W t n) (by simp [encT]) (by simp [encT])
 have hM1:Mv 8 base [x,x1,x2] w m (sto w m.tO (Int.toNat t*9) (encT (chT W t n))) (setTk W t (chT W t n)) m:=((Mv.two h hx hx1).add hx2).deed eT subT
 refine ⟨fun vs w2=>∃(k:Nat) (V:Wld) (m2:MW),vs=[.int .i64 (k:Int)]∧k≤(pthR W t).length∧Mv 8 base [x,x1,x2] w m w2 V m2∧chL c n (pthR W t) (setTk W t (chT W t n))=chL c n ((pthR W t).drop k) V∧ChP (K+lagB+lagB*(k:Int)) (S+100+100*(k:Int)) c n (setTk W t (chT W t n)) V,
  zc5 (pthR W t).length 0,fun wr hx3 _=>⟨0,_,m,rfl,Nat.zero_le _,hM1.call0 hx3,rfl,⟨s1.mono (by simp),r1.mono (by simp),rfl,rfl,rfl,zcj.refl _,fun _ _=>rfl⟩⟩,?_⟩
 rintro i1 w2 hs2 ⟨k,V,m2,he,hk,hM2,hE,hC⟩
 simp only [List.cons.injEq,Value.int.injEq,true_and,and_true] at he
 subst he
 have hkk:0≤lagB*(k:Int)∧lagB*(k:Int)≤138744365760:=by simp only [lagB]; omega
 have hk1:lagB*((k+1:Nat):Int)=lagB*(k:Int)+lagB:=by simp only [lagB]; omega
 have hmg:m2.gO=m.gO:=by rw [hM2.hd]
 have hmc:m2.cO=m.cO:=by rw [hM2.hd]
 have hr:=hM2.rd
 have hglV:V.groups.length=8:=hC.sw.a.gl
 have hclV:V.cpus.length=W.cpus.length:=by rw [hC.cp]; rfl
 obtain ⟨_,hpr⟩:=zms hp hpn hM2
 refine ⟨fun hlt => ?_,fun hge => ?_⟩
 ·have hlt':=of_decide_eq_true hlt
  have hlt:k<(pthR W t).length:=by omega
  have hdr:=z8g hlt
  have hgu:=pin _ (z8h hlt)
  rw [hdr,z9e] at hE
  have hug:zad V.groups (gi (pthR W t) (k:Int))=true:=by rw [hC.g.usd]; exact hgu
  have hpc:=hpr (k:Int) (by omega) (by omega)
  have hpix:=hpr.ix zex (i:=(k:Int)) (by omega) (by omega)
  generalize hgk:gi (pthR W t) (k:Int)=g at hE hug hpc hgu hdr
  have hC2:=hC.trans (zaca hC.sw hC.rb (by omega) c0 (by rw [hclV]; exact c1) hug n0 n1)
  have hC3:ChP (K+lagB+lagB*((k+1:Nat):Int)) (S+100+100*((k+1:Nat):Int)) c n (setTk W t (chT W t n)) (chG V c n g):=⟨hC2.sw.mono (by omega),hC2.rb.mono (by omega),hC2.now,hC2.t,hC2.cp,hC2.g,hC2.p⟩
  obtain ⟨u0,u1,hgg⟩:=hC.sw.a.u hug
  have hlt2:g<(V.groups.length:Int):=by omega
  have hsl:=hC.sw.a.sl hug
  have hcs:c<((gi V.groups g).shelves.length:Int):=by omega
  have hixg:Ix m.gO W.groups.length g:=by have:=hr.g.ix (i:=g) u0 hlt2; rwa [hglV,←hgl,hmg] at this
  have hrow:=hr.g.cells g u0 hlt2
  rw [hmg] at hrow
  have hss:=hr.g.shelves g u0 hlt2
  have hsc:=hss c c0 hcs
  have hixs:=hss.ix zey c0 hcs
  have hsv:=hC.sw.s g c hug c0 (by rw [hclV]; exact c1)
  have hsr:=hC.rb.s g c hug c0 (by rw [hclV]; exact c1)
  have hgr:=hC.rb.g g hug
  have hv2:=zma n (shf V g c).w n0 n1
  refine ⟨hpix,g,hpc,hixg,_,_,_,_,_,_,_,_,_,_,_,_,_,_,_,_,_,_,_,_,hrow,fun b3 hb3=>⟨hrow,hpc,rfl,hixs,_,_,_,_,_,hsc,fun b4 hb4=>⟨hpix,g,hpc,?_⟩⟩⟩
  have eA:∀s:Shf,s=chS V c n g→MWd 8 base (sto w2 (m2.ms g.toNat).sO (Int.toNat c*5) (encS s)) (chA V c n g) m2:=fun s hs=>by
   subst hs
   exact hM2.own.stoS u0 (by omega) c0 hcs (j:=0) (vs:=encS (chS V c n g)) (x:=chS V c n g) (by simp [encS]) (by simp [encS])
  have hwrS:=wrS hM2.own hM2.nb (i:=g) u0 (by omega) c0 hcs (j:=0) (k:=5) (by decide)
  have hshl:=hr.g.shelf (i:=g) u0 hlt2
  rw [hmg] at hshl
  refine ⟨fun g1 => ?_,fun g1 => ?_⟩
  ·have g1:g≠0:=by simpa using g1
   have hs:(⟨(shf V g c).floor,(shf V g c).on,(shf V g c).v+zc2 n (shf V g c).w,(shf V g c).w,(shf V g c).sum+n⟩:Shf)=chS V c n g:=by unfold chS; rw [if_pos g1]
   have eA:=eA _ hs
   refine ⟨_,zdo,⟨?_,?_⟩,⟨?_,?_⟩,hpix,g,hpc,hixg,_,_,_,hshl,hixs,hwrS,hpix,g,?_,⟨?_,?_⟩,hixg,?_,?_⟩
   ·show _≤(shf V g c).v+zc2 n (shf V g c).w; omega
   ·show (shf V g c).v+zc2 n (shf V g c).w≤_; omega
   ·show _≤(shf V g c).sum+n; omega
   ·show (shf V g c).sum+n≤_; omega
   ·have:=(zms hp hpn (hM2.deed eA (subS (by omega)))).2 (k:Int) (by omega) (by omega)
    rw [hgk] at this
    exact this
   ·show _≤(gi V.groups g).sum+n; omega
   ·show (gi V.groups g).sum+n≤_; omega
   ·have:=wrG eA hM2.nb (i:=g) u0 (by omega) (j:=7) (k:=1) (by decide)
    rw [hmg] at this
    exact this
   have hM3:=((hM2.add hb3).add hb4).deed eA (subS (by omega))
   have eU:=eA.stoG0 (i:=g) u0 (by omega) (g:=chU V c n g) rfl rfl rfl (j:=7) (vs:=[.int .i64 ((gi V.groups g).sum+n)]) (by unfold chU; rw [z6a u0 hlt2]; rfl) (by simp)
   have hM4:=hM3.deed eU subG
   rw [hmg] at hM4
   have hM4:Mv 8 base [x,x1,x2,b3,b4] w m _ (zau (chA V c n g) g (chU V c n g)) m2:=hM4
   have hgb:=zur (c:=c) (n:=n) u0 hlt2
   have hgi:=z9f (c:=c) (n:=n) u0 hlt2
   have hl5:(zau (chA V c n g) g (chU V c n g)).groups.length=V.groups.length:=by simp only [zau,List.length_set]; exact zwh _ _ _ _
   have hnone:=z3j (c:=c) (n:=n) u0 hlt2
   have hdef:chG V c n g=setBd (zau (chA V c n g) g (chU V c n g)) g (chB V c n g):=rfl
   generalize zau (chA V c n g) g (chU V c n g)=V5 at hM4 hgi hl5 hnone hdef
   refine ⟨fun g2 wr1 hx3 hs3 => ?_,fun g2=>⟨⟨by omega,by omega⟩,fun wr1 hx3 _=>⟨⟨k+1,chG V c n g,m2,by simp,by omega,?_,hE,hC3⟩,zco (k:=k) rfl rfl hlt⟩⟩⟩
   ·have g2:(gi V.groups g).band.quota>0:=of_decide_eq_true g2
    have hB:chB V c n g=(zc8 (gi V.groups g).band ⟨2,c,n⟩).1:=by unfold chB; rw [if_pos g2]
    rw [hB] at hdef
    obtain ⟨hb,hbl,_⟩:=hgg.band (by omega)
    have hM6:Mv 8 base [x,x1,x2,b3,b4] w m wr1 V5 m2:=hM4.step (hx3.mono fun y hy=>by simp only [List.mem_cons,List.not_mem_nil,or_false] at hy ⊢; rcases hy with h | h | h <;> simp [h])
    have hr6:=hM6.rd0
    have hg5:g<(V5.groups.length:Int):=by rw [hl5]; exact hlt2
    have hLo:=hr6.g.locals g u0 hg5
    have hDo:=hr6.g.dry g u0 hg5
    rw [hgi,hgb] at hLo hDo
    refine Calls.mono (zjd (op:=⟨2,c,n⟩) hb hLo hDo) ?_
    rintro e wv2 ⟨p,he,hO,hy⟩
    have hM7:=hM6.call0 hy
    have hbs:base≤wr1.heap.size:=by have:=hM6.ext.size; omega
    have hOb:∀y∈zew p,wr1.heap.size≤y:=fun y hy=>(hO.lt y hy).1
    have hput:=hM7.own.putB (i:=g) u0 (by omega) (hO.mono hbs) (fun y hy hm=>by have:=hOb y hy; have:=(hM6.own.lt y hm).2; omega)
    have hwr:=wrG hM7.own hM7.nb (i:=g) u0 (by omega) (j:=8) (k:=5) (by decide)
    have hsz:=hM6.ext.size
    have hM8:=hM7.swap hput subG rfl fun y hy=>by
     rcases zrn y hy with h1 | h1
     ·exact .inl h1
     ·rcases zoc y h1 with h2 | h2
      ·have:=hOb y h2
       exact .inr ⟨by omega,fun hm=>by have:=hs3 y hm; omega⟩
      ·exact .inl (zhf (by omega) h2)
    rw [hmg] at hwr hM8
    rw [←hdef] at hM8
    have hpc7:=(zms hp hpn hM7).2 (k:Int) (by omega) (by omega)
    rw [hgk] at hpc7
    exact ⟨_,_,_,_,_,_,_,_,_,_,he,za0 hy hs3,fun b5 hb5=>⟨hpix,g,hpc7,hixg,hwr,⟨by omega,by omega⟩,fun wr6 hx6 _=>⟨⟨k+1,chG V c n g,_,by simp,by omega,(hM8.step hx6).sub' (by simp),hE,hC3⟩,zco (k:=k) rfl rfl hlt⟩⟩⟩
   ·have g2:¬(gi V.groups g).band.quota>0:=of_decide_eq_false g2
    rw [hnone g2]
    exact (hM4.sub' (cs:=[x,x1,x2]) (fun y hy=>by simp only [List.mem_cons,List.not_mem_nil,or_false] at hy ⊢; rcases hy with h | h | h <;> simp [h])).step hx3
  ·have g1:¬g≠0:=by simpa using g1
   have hs:(⟨(shf V g c).floor,(shf V g c).on,(shf V g c).v,(shf V g c).w,(shf V g c).sum+n⟩:Shf)=chS V c n g:=by unfold chS; rw [if_neg g1]
   have eA:=eA _ hs
   refine ⟨⟨?_,?_⟩,hpix,g,hpc,hixg,_,_,_,hshl,hixs,hwrS,hpix,g,?_,⟨?_,?_⟩,hixg,?_,?_⟩
   ·show _≤(shf V g c).sum+n; omega
   ·show (shf V g c).sum+n≤_; omega
   ·have:=(zms hp hpn (hM2.deed eA (subS (by omega)))).2 (k:Int) (by omega) (by omega)
    rw [hgk] at this
    exact this
   ·show _≤(gi V.groups g).sum+n; omega
   ·show (gi V.groups g).sum+n≤_; omega
   ·have:=wrG eA hM2.nb (i:=g) u0 (by omega) (j:=7) (k:=1) (by decide)
    rw [hmg] at this
    exact this
   have hM3:=((hM2.add hb3).add hb4).deed eA (subS (by omega))
   have eU:=eA.stoG0 (i:=g) u0 (by omega) (g:=chU V c n g) rfl rfl rfl (j:=7) (vs:=[.int .i64 ((gi V.groups g).sum+n)]) (by unfold chU; rw [z6a u0 hlt2]; rfl) (by simp)
   have hM4:=hM3.deed eU subG
   rw [hmg] at hM4
   have hM4:Mv 8 base [x,x1,x2,b3,b4] w m _ (zau (chA V c n g) g (chU V c n g)) m2:=hM4
   have hgb:=zur (c:=c) (n:=n) u0 hlt2
   have hgi:=z9f (c:=c) (n:=n) u0 hlt2
   have hl5:(zau (chA V c n g) g (chU V c n g)).groups.length=V.groups.length:=by simp only [zau,List.length_set]; exact zwh _ _ _ _
   have hnone:=z3j (c:=c) (n:=n) u0 hlt2
   have hdef:chG V c n g=setBd (zau (chA V c n g) g (chU V c n g)) g (chB V c n g):=rfl
   generalize zau (chA V c n g) g (chU V c n g)=V5 at hM4 hgi hl5 hnone hdef
   refine ⟨fun g2 wr1 hx3 hs3 => ?_,fun g2=>⟨⟨by omega,by omega⟩,fun wr1 hx3 _=>⟨⟨k+1,chG V c n g,m2,by simp,by omega,?_,hE,hC3⟩,zco (k:=k) rfl rfl hlt⟩⟩⟩
   ·have g2:(gi V.groups g).band.quota>0:=of_decide_eq_true g2
    have hB:chB V c n g=(zc8 (gi V.groups g).band ⟨2,c,n⟩).1:=by unfold chB; rw [if_pos g2]
    rw [hB] at hdef
    obtain ⟨hb,hbl,_⟩:=hgg.band (by omega)
    have hM6:Mv 8 base [x,x1,x2,b3,b4] w m wr1 V5 m2:=hM4.step (hx3.mono fun y hy=>by simp only [List.mem_cons,List.not_mem_nil,or_false] at hy ⊢; rcases hy with h | h | h <;> simp [h])
    have hr6:=hM6.rd0
    have hg5:g<(V5.groups.length:Int):=by rw [hl5]; exact hlt2
    have hLo:=hr6.g.locals g u0 hg5
    have hDo:=hr6.g.dry g u0 hg5
    rw [hgi,hgb] at hLo hDo
    refine Calls.mono (zjd (op:=⟨2,c,n⟩) hb hLo hDo) ?_
    rintro e wv2 ⟨p,he,hO,hy⟩
    have hM7:=hM6.call0 hy
    have hbs:base≤wr1.heap.size:=by have:=hM6.ext.size; omega
    have hOb:∀y∈zew p,wr1.heap.size≤y:=fun y hy=>(hO.lt y hy).1
    have hput:=hM7.own.putB (i:=g) u0 (by omega) (hO.mono hbs) (fun y hy hm=>by have:=hOb y hy; have:=(hM6.own.lt y hm).2; omega)
    have hwr:=wrG hM7.own hM7.nb (i:=g) u0 (by omega) (j:=8) (k:=5) (by decide)
    have hsz:=hM6.ext.size
    have hM8:=hM7.swap hput subG rfl fun y hy=>by
     rcases zrn y hy with h1 | h1
     ·exact .inl h1
     ·rcases zoc y h1 with h2 | h2
      ·have:=hOb y h2
       exact .inr ⟨by omega,fun hm=>by have:=hs3 y hm; omega⟩
      ·exact .inl (zhf (by omega) h2)
    rw [hmg] at hwr hM8
    rw [←hdef] at hM8
    have hpc7:=(zms hp hpn hM7).2 (k:Int) (by omega) (by omega)
    rw [hgk] at hpc7
    exact ⟨_,_,_,_,_,_,_,_,_,_,he,za0 hy hs3,fun b5 hb5=>⟨hpix,g,hpc7,hixg,hwr,⟨by omega,by omega⟩,fun wr6 hx6 _=>⟨⟨k+1,chG V c n g,_,by simp,by omega,(hM8.step hx6).sub' (by simp),hE,hC3⟩,zco (k:=k) rfl rfl hlt⟩⟩⟩
   ·have g2:¬(gi V.groups g).band.quota>0:=of_decide_eq_false g2
    rw [hnone g2]
    exact (hM4.sub' (cs:=[x,x1,x2]) (fun y hy=>by simp only [List.mem_cons,List.not_mem_nil,or_false] at hy ⊢; rcases hy with h | h | h <;> simp [h])).step hx3
 ·have hge:=of_decide_eq_false hge
  have hk2:k=(pthR W t).length:=by omega
  subst hk2
  rw [List.drop_length] at hE
  have hE:chL c n (pthR W t) (setTk W t (chT W t n))=V:=hE
  have hcV:V.cpus=W.cpus:=hC.cp
  have cV:c<(V.cpus.length:Int):=by rw [hclV]; exact c1
  have hixc:Ix m.cO W.cpus.length c:=by have:=hr.c.ix zep c0 cV; rwa [hclV,hmc] at this
  have hcr:=rb.c c c0 c1
  have e1:=hM2.own.stoC c0 cV (j:=3) (vs:=[.int .i64 ((gi W.cpus c).busy+n)]) (x:={ gi W.cpus c with busy:=(gi W.cpus c).busy+n }) (by rw [hcV]; rfl) (by simp)
  have hl1:(V.cpus.set c.toNat { gi W.cpus c with busy:=(gi W.cpus c).busy+n }).length=V.cpus.length:=List.length_set
  have hg1:gi (V.cpus.set c.toNat { gi W.cpus c with busy:=(gi W.cpus c).busy+n }) c={ gi W.cpus c with busy:=(gi W.cpus c).busy+n }:=(zba _ _ c0 cV c0).trans (if_pos rfl)
  have e2:=e1.stoC c0 (by simpa using cV) (j:=2) (vs:=[.int .i64 ((gi W.cpus c).ran+n)]) (x:=chC W c n) (by rw [hg1]; rfl) (by simp)
  have hb:=hr.c.f c0 cV (j:=3) rfl
  have hw1:=wrC hM2.own hM2.nb c0 cV (j:=3) (k:=1) (by decide)
  have hM3:=hM2.deed e1 subC
  have hrn:=hM3.rd.c.f c0 (by show c<((V.cpus.set c.toNat { gi W.cpus c with busy:=(gi W.cpus c).busy+n }).length:Int); rw [hl1]; exact cV) (j:=2) rfl
  have hw2:=wrC e1 hM2.nb c0 (by show c<((V.cpus.set c.toNat { gi W.cpus c with busy:=(gi W.cpus c).busy+n }).length:Int); rw [hl1]; exact cV) (j:=2) (k:=1) (by decide)
  rw [hmc] at hb hw1 hrn hw2
  rw [hcV] at hb
  rw [show gi ({ V with cpus:=V.cpus.set c.toNat { gi W.cpus c with busy:=(gi W.cpus c).busy+n } }:Wld).cpus c=_ from hg1] at hrn
  have hM4:=hM3.deed e2 subC
  have hW4:({ V with cpus:=(V.cpus.set c.toNat { gi W.cpus c with busy:=(gi W.cpus c).busy+n }).set c.toNat (chC W c n) }:Wld)=chW W c t n:=by
   unfold chW setCp
   rw [hE,List.set_set]
  rw [hmc] at hM4
  have hM4:Mv 8 base [x,x1,x2] w m _ ({ V with cpus:=(V.cpus.set c.toNat { gi W.cpus c with busy:=(gi W.cpus c).busy+n }).set c.toNat (chC W c n) }:Wld) m2:=hM4
  rw [hW4] at hM4
  refine ⟨hixc,_,hb,⟨?_,?_⟩,hixc,hw1,hixc,_,hrn,⟨?_,?_⟩,hixc,hw2,fun wr7 hx7 hs7 => ?_⟩
  ·show _≤(gi W.cpus c).busy+n; omega
  ·show (gi W.cpus c).busy+n≤_; omega
  ·show _≤(gi W.cpus c).ran+n; omega
  ·show (gi W.cpus c).ran+n≤_; omega
  have hM7:=hM4.step hx7
  have hsz:=hM7.ext.size
  have hcall:=zj8 hM7.own sE (by omega) (by omega) (by omega)
  rw [show encW (chW W c t n) m2=encW W m from hM7.encW_eq (by rw [show (chW W c t n).now=V.now from by rw [←hW4]]; exact hC.now) hlE (by rw [←hW4,show ({ V with cpus:=(V.cpus.set c.toNat { gi W.cpus c with busy:=(gi W.cpus c).busy+n }).set c.toNat (chC W c n) }:Wld).tasks=V.tasks from rfl,hC.t]; simp [setTk]) (by rw [←hW4]; exact hC.g.len)] at hcall
  refine Calls.mono hcall ?_
  rintro e wv ⟨m3,he,hy⟩
  exact ⟨_,_,_,_,_,_,_,_,_,_,he,hM7.kept hy hs7,fun wr8 hx8=>⟨m3,rfl,((hM7.call hy hs7).step hx8).close⟩⟩
end
end Go.Proofs.YthhmnlcimojhlaaGreatDoor
namespace Go.Proofs.YthhmnlcimojhlaaGreatDoor
open Go.RowKit
set_option linter.unusedVariables false
set_option linter.unusedSimpArgs false
set_option maxRecDepth 10000
theorem zadq {Q:Nat→Prop} (h:∃f,Q f):∃f,Q f∧∀g,Q g→f≤g:=by
 obtain ⟨f,hf⟩:=h
 induction f using Nat.strongRecOn with
 | ind f ih =>
  by_cases h:∃g,g<f∧Q g
  ·obtain ⟨g,hg,hq⟩:=h
   exact ih g hg hq
  ·exact ⟨f,hf,fun g hq=>Nat.le_of_not_lt fun hlt=>h ⟨g,hlt,hq⟩⟩
open Classical in
noncomputable def lstF (Q:Nat→Prop):Nat:=if h:∃f,Q f then (zadq h).choose else 0
theorem z6y {Q:Nat→Prop} (h:∃f,Q f):Q (lstF Q):=by
 unfold lstF
 rw [dif_pos h]
 exact (zadq h).choose_spec.1
theorem zadp {Q:Nat→Prop} {f:Nat} (h:Q f):lstF Q≤f:=by
 unfold lstF
 rw [dif_pos ⟨f,h⟩]
 exact (zadq ⟨f,h⟩).choose_spec.2 f h
noncomputable def runB (W:Wld) (c n:Int):Int:=if inB n 1 100=false∨zwi W c=false then 1 else if (gi W.cpus c).up=false then 6 else if z5i W=false then 10 else 0
def runW (W:Wld) (c n:Int):Wld:=runN c 400 W n
theorem z5k {c:Int} {f:Nat} {W:Wld} {left:Int} (h:left≤0):runN c (f+1) W left=zao W:=by
 rw [runN,if_pos h]
theorem zyo {c:Int} {f:Nat} {W:Wld} {left:Int} (h:¬left≤0) (hp:zai W c<0):runN c (f+1) W left=zao (endW (setCp W c (idlC W c left)) c):=by
 rw [runN,if_neg h,if_pos hp]
theorem zyp {c:Int} {f:Nat} {W:Wld} {left:Int} (h:¬left≤0) (hp:¬zai W c<0):runN c (f+1) W left=runN c f (rndW W c left).1 (rndW W c left).2:=by
 rw [runN,if_neg h,if_neg hp]
theorem zaeh {W:Wld} {c n:Int} (hW:zet W=true) (hb:runB W c n=0):inB n 1 100=true∧zwi W c=true∧(gi W.cpus c).up=true∧z5i W=true∧RunI 400 c W W n:=by
 unfold runB at hb
 split at hb
 ·cases hb
 ·rename_i h1
  split at hb
  ·cases hb
  ·rename_i h2
   split at hb
   ·cases hb
   ·rename_i h3
    have h1a:inB n 1 100=true:=by
     cases h:inB n 1 100 with
     | true=>rfl
     | false=>exact absurd (.inl h) h1
    have h1b:zwi W c=true:=by
     cases h:zwi W c with
     | true=>rfl
     | false=>exact absurd (.inr h) h1
    have h2:(gi W.cpus c).up=true:=by simpa using h2
    have h3:z5i W=true:=by simpa using h3
    obtain ⟨c0,c1⟩:=z76 h1b
    have:=zaz.1 h1a
    exact ⟨h1a,h1b,h2,h3,zabk (zcv.1 hW) (zcv.1 h3) c0 c1 h2 (by omega) (by omega)⟩
theorem z94 {f:Nat} {c left:Int} {W0 W:Wld} (h:RunI f c W0 W left):∃g,f=g+1:=by
 have h1:=h.f1
 have h2:=h.l0
 exact ⟨f - 1,by omega⟩
theorem zacz {f:Nat} {c left:Int} {W0 W:Wld} (h:RunI f c W0 W left):SW (runK f) (endW (setCp W c (idlC W c left)) c)∧SW (runK f) (setCp W c (idlC W c left))∧0≤(gi W.cpus c).idle+left∧(gi W.cpus c).idle+left≤60000000000000000:=by
 have c0:=h.c0
 have c1:=h.c1
 have hcu:=h.sw.cu c c0 c1
 have hl0:=h.l0
 have hl1:=h.l1
 have hr:=h.rb.c c c0 c1
 have s1:SW (runK f) (setCp W c (idlC W c left)):=h.sw.setCp c0 c1 (zae9 (c:=c) (by rw [List.length_set]; exact h.sw.a.c2) c0 (by rw [List.length_set]; exact c1) (by rw [show gi (W.cpus.set c.toNat (idlC W c left)) c=idlC W c left from (zba _ _ c0 c1 c0).trans (if_pos rfl)]; exact h.up)) hcu.1 hcu.2
 exact ⟨s1.endW c0 (by show c<((W.cpus.set c.toNat (idlC W c left)).length:Int); rw [List.length_set]; exact c1),s1,by omega,by omega⟩
section
variable {W:Wld} {m:MW} {w:World}
def RunS (y y1:Nat) (w0:World) (c n:Int) (W:Wld) (f:Nat) (vs:List Value) (w2:World):Prop :=
 ∃(V:Wld) (m2:MW) (left:Int),vs = .int .i64 left::encW V m2∧Wk 8 [y,y1] w0 w2 V m2∧RunI f c W V left∧runN c f V left=runW W c n
set_option maxHeartbeats 4000000 in
theorem zxg {c n:Int} (h:RdW [] w W m) (hl:LenW W) :
  Calls Tryz.prog zi0 #[.agg (encW W m).toArray,.int .i64 c,.int .i64 n] w fun e w'=>∃v,e = .returned v∧AnsW (ansD W (runB W c n) (runW W c n)) w v w':=by
 refine zwu W.now m.cO W.cpus.length m.cC m.tO W.tasks.length m.tC m.gO W.groups.length m.gC c n (R:=fun v w'=>AnsW (ansD W (runB W c n) (runW W c n)) w v w') ?_
 intro y hy y1 hy1
 have hm0:=zdp
 have hlc:=hl.c
 refine ⟨_,zpj h hl.c hl.t hl.g hl.f,fun g wr hx=>AnsW.bad (by simpa using g) hx,fun g wr hx2 hs2 => ?_⟩
 have hW:zet W=true:=by simpa using g
 have wp:=zcv.1 hW
 refine Calls.mono (z6w (h.ext hx2) wp.a) ?_
 rintro e wv ⟨m',he,hM,hy2⟩
 have hK:=Wk.begin hy hy1 hx2 hs2 hM hy2
 have hr:=hK.rd
 refine ⟨_,_,_,_,_,_,_,_,_,_,he,za0 hy2 hs2,_,zaw,fun _=>⟨by omega,by omega⟩,zwi W c,fun _=>zaw,fun g wr1 hx3 => ?_,fun g => ?_⟩
 ·have hb:runB W c n=1:=by
   unfold runB; rw [if_pos]
   simpa using g
  exact AnsW.no hW (by rw [hb]; decide) (hK.step hx3) hb
 have g:inB n 1 100=true∧zwi W c=true:=by simpa using g
 have hn1:¬(inB n 1 100=false∨zwi W c=false):=by rw [g.1,g.2]; simp
 obtain ⟨c0,c1⟩:=z76 g.2
 have hro:=zud hr hl
 refine ⟨hr.c.ix zep c0 c1,_,hr.c.f c0 c1 (j:=0) rfl,fun g2 wr1 hx3 => ?_,fun g2=>⟨_,hro,fun g3 wr1 hx3 => ?_,fun g3 => ?_⟩⟩
 ·have hb:runB W c n=6:=by unfold runB; rw [if_neg hn1,if_pos (by simpa using g2)]
  exact AnsW.no hW (by rw [hb]; decide) (hK.step hx3) hb
 ·have g2:(gi W.cpus c).up=true:=by simpa using g2
  have hr0:¬z5i W=true:=fun hr=>by
   rw [show decB (WldP W∧z2b W)=true from zcv.2 ⟨wp,zcv.1 hr⟩] at g3
   cases g3
  have hb:runB W c n=10:=by unfold runB; rw [if_neg hn1,if_neg (by rw [g2]; decide),if_pos (by simpa using hr0)]
  exact AnsW.no hW (by rw [hb]; decide) (hK.step hx3) hb
 have g2:(gi W.cpus c).up=true:=by simpa using g2
 have hr0:z5i W=true:=by
  have hd:decB (WldP W∧z2b W)=true:=by simpa using g3
  exact zcv.2 (zcv.1 hd).2
 have hb:runB W c n=0:=by unfold runB; rw [if_neg hn1,if_neg (by rw [g2]; decide),if_neg (by rw [hr0]; decide)]
 obtain ⟨_,_,_,_,hI0⟩:=zaeh hW hb
 refine ⟨fun vs _ w2=>∃(V:Wld) (m2:MW) (K:Int),vs=encW V m2∧Wk 8 [y,y1] w w2 V m2∧SW K V∧0≤K∧K≤60000000000000000∧zao V=runW W c n,?_,?_⟩
 ·refine ⟨fun vs w2=>∃f,RunS y y1 w c n W f vs w2,fun vs w2=>lstF fun f=>RunS y y1 w c n W f vs w2,fun wr hx3 _=>⟨400,W,m',n,rfl,hK.step hx3,hI0,rfl⟩,?_⟩
  intro left l0 l1O l1L l1C l2O l2L l2C l3O l3L l3C w2 hs3 hinv
  obtain ⟨f0,hf0⟩:∃f0,f0=lstF fun f=>RunS y y1 w c n W f [.int .i64 left,.int .i64 l0,.slice l1O l1L l1C,.slice l2O l2L l2C,.slice l3O l3L l3C] w2:=⟨_,rfl⟩
  have hS:=z6y hinv
  simp only [←hf0] at hS ⊢
  clear hf0 hinv
  obtain ⟨V,m2,left',hv,hK2,hI,hN⟩:=hS
  simp only [encW,List.cons.injEq,Value.int.injEq,Value.slice.injEq,true_and,and_true] at hv
  obtain ⟨rfl,rfl,⟨rfl,rfl,rfl⟩,⟨rfl,rfl,rfl⟩,rfl,rfl,rfl⟩:=hv
  obtain ⟨f,rfl⟩:=z94 hI
  have hnext:∀{vs:List Value} {w9:World},RunS y y1 w c n W f vs w9→(∃f,RunS y y1 w c n W f vs w9)∧(lstF fun f=>RunS y y1 w c n W f vs w9)<f+1:=fun hh=>⟨⟨f,hh⟩,Nat.lt_succ_of_le (zadp hh)⟩
  have hr2:=hK2.rd
  have hf:=hI.f2
  have hKu:=z5j hf
  have hSu:=z8y hf
  have hh0:(0:Int)≤zb2:=by decide
  have c1V:=hI.c1
  have hixc:=hr2.c.ix zep c0 c1V
  refine ⟨fun hlt => ?_,fun hge => ?_⟩
  ·have hlt:=of_decide_eq_true hlt
   refine ⟨_,z4g hr2 hI.sw.a c0 c1V,fun gp => ?_,fun gp => ?_⟩
   ·have gp:=of_decide_eq_true gp
    rw [zyo (by omega) gp] at hN
    obtain ⟨i1,i2,i3,i4⟩:=zacz hI
    have e1:MWd 8 w.heap.size _ (setCp V c (idlC V c left)) m2:=hK2.own.stoC c0 c1V (j:=4) (vs:=[.int .i64 ((gi V.cpus c).idle+left)]) (x:=idlC V c left) rfl (by simp)
    refine ⟨hixc,_,hr2.c.f c0 c1V (j:=4) rfl,⟨by omega,by omega⟩,hixc,wrC hK2.own hK2.nb c0 c1V (j:=4) (by decide),fun wr4 hx4 hs4 => ?_⟩
    have hK4:=(hK2.sto e1 subC).step hx4
    have hcall:=zn2 hK4.own c0 (by show c<((V.cpus.set c.toNat (idlC V c left)).length:Int); rw [List.length_set]; exact c1V)
    rw [z8a] at hcall
    refine Calls.mono hcall ?_
    rintro e2 wv2 ⟨he2,hy4⟩
    exact ⟨_,_,_,_,_,_,_,_,_,_,he2,hK4.kept hy4 hs4,fun wr5 hx5 _=>⟨_,m2,_,rfl,(hK4.deed hy4 hs4).step hx5,i1,by omega,by omega,hN⟩⟩
   ·have gp:=of_decide_eq_false gp
    rw [zyp (by omega) gp] at hN
    have hR:=zaee hI hlt gp
    have t0:=hR.line.t0
    have t1:=hR.line.t1
    have htl:V.tasks.length=12:=hI.sw.a.t
    refine ⟨fun _ _ w3=>Wk 8 [y,y1] w w3 (zeo V c (zai V c)) m2,?_,?_⟩
    ·refine ⟨hixc,_,hr2.c.f c0 c1V (j:=1) rfl,fun _=>hixc,_,fun _=>hr2.c.f c0 c1V (j:=2) rfl,fun g5 => ?_,fun g5 wr4 hx4 _ => ?_⟩
     ·have g5:zai V c≠(gi V.cpus c).cur∨(gi V.cpus c).ran≥50:=by simpa using g5
      have hS:zkl V c (zai V c)={ gi V.cpus c with cur:=zai V c,ran:=0 }:=by unfold zkl; rw [if_pos g5]
      have e1:=hK2.own.stoC c0 c1V (j:=1) (vs:=[.int .i64 (zai V c)]) (x:={ gi V.cpus c with cur:=zai V c }) rfl (by simp)
      have hl1:(V.cpus.set c.toNat { gi V.cpus c with cur:=zai V c }).length=V.cpus.length:=List.length_set
      have hg1:gi (V.cpus.set c.toNat { gi V.cpus c with cur:=zai V c }) c={ gi V.cpus c with cur:=zai V c }:=(zba _ _ c0 c1V c0).trans (if_pos rfl)
      have e2:=e1.stoC c0 (by simpa using c1V) (j:=2) (vs:=[.int .i64 0]) (x:=zkl V c (zai V c)) (by rw [hg1,hS]; rfl) (by simp)
      have hW2:({ V with cpus:=(V.cpus.set c.toNat { gi V.cpus c with cur:=zai V c }).set c.toNat (zkl V c (zai V c)) }:Wld)=zeo V c (zai V c):=by
       unfold zeo setCp
       rw [List.set_set]
      have hK3:=hK2.sto e1 subC
      have hK4:Wk 8 [y,y1] w _ ({ V with cpus:=(V.cpus.set c.toNat { gi V.cpus c with cur:=zai V c }).set c.toNat (zkl V c (zai V c)) }:Wld) m2:=hK3.sto e2 subC
      rw [hW2] at hK4
      exact ⟨hixc,wrC hK2.own hK2.nb c0 c1V (j:=1) (by decide),hixc,wrC e1 hK2.nb c0 (by show c<((V.cpus.set c.toNat { gi V.cpus c with cur:=zai V c }).length:Int); rw [hl1]; exact c1V) (j:=2) (by decide),fun wr4 hx4 _=>hK4.step hx4⟩
     ·have g5:¬(zai V c≠(gi V.cpus c).cur∨(gi V.cpus c).ran≥50):=by simpa using g5
      have hS:zeo V c (zai V c)=V:=by
       unfold zeo zkl setCp
       rw [if_neg g5,zyt c0 c1V]
      rw [hS]
      exact hK2.step hx4
    ·intro wv5 hs5 hK5 wr6 hx6 hs6
     have hK6:=hK5.step hx6
     have hcG:=zxl (t:=zai V c) (hK6.rd.less (cs:=[]) (by simp)) hR.s1.a.tree t0 (by show _<((V.tasks.length:Nat):Int); omega) hR.us
     have ecp:encW (zeo V c (zai V c)) m2=encW V m2:=z8a _ _ _ _
     rw [ecp] at hcG
     refine Calls.mono hcG ?_
     rintro e3 wv6 ⟨pO,pC,he3,hO,hy6⟩
     have hO:Own encI 1 ty_int wr6.heap.size wv6 pO pC (pthR V (zai V c)):=hO
     have he3:e3 = .returned (.slice pO (pthR V (zai V c)).length pC):=he3
     have hK7:=hK6.call0 hy6
     refine ⟨_,_,_,he3,za0 hy6 hs6,fun wr8 hx8 hs8 => ?_⟩
     have hK8:=hK7.step hx8
     have hpn0:∀z∈zaq pO,z∉[y,y1]:=fun z hz hm=>by
      have:=(hO.lt z hz).1
      have:=hs6 z hm
      omega
     have hO8:=hO.ext hx8 hpn0
     have hpn8:∀z∈zaq pO,z∉zax 8 m2:=fun z hz hm=>by
      have:=(hO.lt z hz).1
      have:=(hK6.own.lt z hm).2
      omega
     have hcT:=z4h hK8.own hR.s1 hK8.base hO8 hpn8 hR.len c0 (by rw [(zyu hI.sw hI.rb c0 c1V hI.up t0 t1).2.2.2.2.2]; exact c1V) hR.pin hR.dr
     rw [ecp] at hcT
     refine Calls.mono hcT ?_
     rintro e4 wv9 ⟨m3,he4,hy9⟩
     have hK9:Wk 8 [y,y1] w wv9 (tkW V c).1 m3:=hK8.deed hy9 hs8
     have hTk:tkL c (pthR V (zai V c)) (zeo V c (zai V c))=tkW V c:=rfl
     rw [hTk] at he4 hy9
     have hO9:=hO8.ext hy9.ext hpn8
     have hpn9:∀z∈zaq pO,z∉zax 8 m3:=fun z hz hm=>by
      rcases hy9.sub z hm with h1 | h1
      ·exact hpn8 z hz h1
      ·have:=(hO8.lt z hz).2
       omega
     have eC:(tkW V c).1.cpus=(zeo V c (zai V c)).cpus:=hR.tk.o.c
     have lT:(tkW V c).1.cpus.length=V.cpus.length:=by rw [eC]; exact (zyu hI.sw hI.rb c0 c1V hI.up t0 t1).2.2.2.2.2
     have cT:c<((tkW V c).1.cpus.length:Int):=by rw [lT]; exact c1V
     have e9:encW (tkW V c).1 m3=encW V m2:=by
      rw [hy9.encW_eq (W0:=zeo V c (zai V c)) hR.tk.o.n (by rw [eC]) (by rw [hR.tk.o.t]) hR.tk.o.g.len]
      exact ecp
     have rT:RB (runS (f+1)) (tkW V c).1:=hR.r1.sum hR.tk.su hR.tk.o.g (by rw [eC])
     have eT:(tkW V c).1.tasks=V.tasks:=hR.tk.o.t
     have eG:zcj V.groups (tkW V c).1.groups:=hR.tk.o.g
     have pT:pthR (tkW V c).1 (zai V c)=pthR V (zai V c):=z8x eT eG _
     have uT:zad (tkW V c).1.groups (tkk (tkW V c).1 (zai V c)).group=true:=by rw [eG.usd,ztj eT]; exact hR.us
     have upT:(gi (tkW V c).1.cpus c).up=true:=by rw [eC]; exact (zyu hI.sw hI.rb c0 c1V hI.up t0 t1).2.2.1
     have ranT:(gi (tkW V c).1.cpus c).ran<50:=by rw [eC]; exact hR.ran
     have hnx:=hR.nx
     refine ⟨_,_,_,_,_,_,_,_,_,_,_,he4,hK8.kept hy9 hs8,fun gt wr10 hx10 hs10 => ?_,fun gt => ?_⟩
     ·have gt:¬(tkW V c).2=true:=by simpa using gt
      have hRW:rndW V c left=(zao (endW (tkW V c).1 c),left):=by unfold rndW; rw [if_neg gt]
      rw [hRW] at hnx hN
      have hK10:=hK9.step hx10
      have hcE:=zn2 hK10.own c0 cT
      rw [e9] at hcE
      refine Calls.mono hcE ?_
      rintro e5 wv11 ⟨he5,hy11⟩
      refine ⟨_,_,_,_,_,_,_,_,_,_,he5,hK10.kept hy11 hs10,fun wr12 hx12 hs12 => ?_⟩
      have hK12:=(hK10.deed hy11 hs10).step hx12
      refine Calls.mono (zj8 hK12.own (hR.tk.sw.endW c0 cT) (by omega) (by omega) hK12.base) ?_
      rintro e6 wv13 ⟨m4,he6,hy13⟩
      generalize zao (endW (tkW V c).1 c)=V9 at he6 hy13 hnx hN
      exact ⟨_,_,_,_,_,_,_,_,_,_,he6,hK12.kept hy13 hs12,fun wr14 hx14 _=>hnext ⟨V9,m4,left,rfl,(hK12.deed hy13 hs12).step hx14,hnx,hN⟩⟩
     ·have gt:(tkW V c).2=true:=by simpa using gt
      have hRW:rndW V c left=(zao (chW (tkW V c).1 c (zai V c) (rndM V c left)),left - rndM V c left):=by unfold rndW; rw [if_pos gt]
      rw [hRW] at hnx hN
      obtain ⟨m1,m2'⟩:=hR.m gt
      have hl1:=hI.l1
      have hcM:=z4e (n:=left) hK9.rd hR.tk.sw.a (hO9.rd zcq.len hpn0) (pC:=pC) hR.len c0 cT (fun z hz=>by rw [eG.usd]; exact hR.pin z hz)
      rw [e9] at hcM
      refine ⟨_,hcM,fun wr10 hx10 hs10 => ?_⟩
      have hK10:=hK9.step hx10
      have hO10:Own encI 1 ty_int wr6.heap.size wr10 pO pC (pthR (tkW V c).1 (zai V c)):=by rw [pT]; exact hO9.ext hx10 hpn0
      have hcC:=zxk (t:=zai V c) (n:=rndM V c left) hK10.own hK10.base hO10 hpn9 hR.tk.sw rT ⟨by omega,by omega⟩ ⟨by omega,by omega⟩ c0 cT upT ranT t0 t1 uT (by omega) (by omega)
      rw [e9,pT] at hcC
      refine Calls.mono hcC ?_
      rintro e7 wv11 ⟨m4,he7,hy11⟩
      generalize zao (chW (tkW V c).1 c (zai V c) (rndM V c left))=V9 at he7 hy11 hnx hN
      exact ⟨_,_,_,_,_,_,_,_,_,_,he7,hK10.kept hy11 hs10,⟨by show _≤left - rndM V c left; omega,by show left - rndM V c left≤_; omega⟩,fun wr12 hx12 _=>hnext ⟨V9,m4,left - rndM V c left,rfl,(hK10.deed hy11 hs10).step hx12,hnx,hN⟩⟩
  ·have hge:=of_decide_eq_false hge
   rw [z5k (by omega)] at hN
   exact fun wr4 hx4 _=>⟨V,m2,_,rfl,hK2.step hx4,hI.sw,by omega,by omega,hN⟩
 ·rintro a0 a1O a1L a1C a2O a2L a2C a3O a3L a3C w2 hs3 ⟨V,m2,K,hv,hK2,sw,k0,k1,hN⟩ wr4 hx4 hs4
  simp only [encW,List.cons.injEq,Value.int.injEq,Value.slice.injEq,true_and,and_true] at hv
  obtain ⟨rfl,⟨rfl,rfl,rfl⟩,⟨rfl,rfl,rfl⟩,rfl,rfl,rfl⟩:=hv
  have hK4:=hK2.step hx4
  refine Calls.mono (zj8 hK4.own sw k0 (by omega) hK4.base) ?_
  rintro e3 wv3 ⟨m3,he3,hy5⟩
  rw [hN] at he3 hy5
  exact ⟨_,_,_,_,_,_,_,_,_,_,he3,hK4.kept hy5 hs4,fun wr8 hx8=>AnsW.ok hW hb ((hK4.deed hy5 hs4).step hx8)⟩
end
end Go.Proofs.YthhmnlcimojhlaaGreatDoor
namespace Go.Proofs.YthhmnlcimojhlaaGreatDoor
open Go.RowKit
set_option linter.unusedVariables false
set_option linter.unusedSimpArgs false
set_option maxRecDepth 10000
theorem zyr {W:Wld} {g:Int} {x y:Grp}:zau (zau W g x) g y=zau W g y:=by simp [zau,List.set_set]
def chH (W:Wld) (c n g:Int):Grp:={ gi W.groups g with shelves:=(gi W.groups g).shelves.set c.toNat (chS W c n g),sum:=(gi W.groups g).sum+n }
theorem chGU {W:Wld} {c n g:Int} (u0:0≤g) (u1:g<(W.groups.length:Int)):zau (chA W c n g) g (chU W c n g)=zau W g (chH W c n g):=by
 unfold chU
 rw [z6a u0 u1]
 exact zyr
def ch1 (W:Wld) (c n g:Int):Wld:=setSh W g c { shf W g c with sum:=(shf W g c).sum+n }
def ch2 (W:Wld) (c n g:Int):Wld:=zau (ch1 W c n g) g { gi (ch1 W c n g).groups g with sum:=(gi W.groups g).sum+n }
theorem zah0 {W:Wld} {c n g:Int} (u0:0≤g) (u1:g<(W.groups.length:Int)):gi (ch1 W c n g).groups g={ gi W.groups g with shelves:=(gi W.groups g).shelves.set c.toNat { shf W g c with sum:=(shf W g c).sum+n } }:=z99 u0 u1
theorem zab8 {W:Wld} {c n g:Int} (u0:0≤g) (u1:g<(W.groups.length:Int)):ch2 W c n g=zau W g { gi W.groups g with shelves:=(gi W.groups g).shelves.set c.toNat { shf W g c with sum:=(shf W g c).sum+n },sum:=(gi W.groups g).sum+n }:=by
 unfold ch2
 rw [zah0 u0 u1]
 exact zyr
theorem zain (W:Wld) (c n g:Int):(ch2 W c n g).groups.length=W.groups.length:=by simp [ch2,ch1,zau,setSh]
theorem zab9 {W:Wld} {c n g:Int} (u0:0≤g) (u1:g<(W.groups.length:Int)):gi (ch2 W c n g).groups g={ gi W.groups g with shelves:=(gi W.groups g).shelves.set c.toNat { shf W g c with sum:=(shf W g c).sum+n },sum:=(gi W.groups g).sum+n }:=by
 rw [zab8 u0 u1,ze9 u0 u1 u0,if_pos rfl]
theorem zaio {W:Wld} {c n g:Int} (u0:0≤g) (u1:g<(W.groups.length:Int)) (c0:0≤c) (c1:c<((gi W.groups g).shelves.length:Int)):shf (ch2 W c n g) g c={ shf W g c with sum:=(shf W g c).sum+n }:=by
 unfold shf
 rw [zab9 u0 u1]
 exact (zba _ _ c0 c1 c0).trans (if_pos rfl)
theorem zafz {W:Wld} {c n:Int} (u1:(0:Int)<(W.groups.length:Int)):ch2 W c n 0=zau (chA W c n 0) 0 (chU W c n 0):=by
 rw [zab8 (Int.le_refl _) u1,chGU (Int.le_refl _) u1]
 unfold chH chS
 rw [if_neg (by simp)]
theorem zafy {W:Wld} {c n g:Int} (u0:0≤g) (u1:g<(W.groups.length:Int)):setSh (ch2 W c n g) g c (chS W c n g)=zau (chA W c n g) g (chU W c n g):=by
 rw [chGU u0 u1]
 unfold setSh
 rw [zab9 u0 u1,zab8 u0 u1,zyr]
 dsimp only
 rw [List.set_set]
 rfl
def z1c (W:Wld) (g:Int):List Int:=if g = -1 then [] else zdb W.groups g++[0]
theorem zabj {W:Wld} (ht:zfu W.groups) {g:Int} (hu:zad W.groups g=true):z1c W g=g::z1c W (gi W.groups g).parent:=by
 have h0:=(zac.1 hu).1
 unfold z1c
 rw [if_neg (by omega)]
 by_cases hz:g=0
 ·subst hz
  rw [ht.rp,if_pos rfl,show zdb W.groups 0=[] from zcf _ _]; rfl
 ·have hp:=(zac.1 (zgj ht hu hz).1).1
  rw [zdz ht hu hz,if_neg (by omega)]; rfl
def muB (W:Wld) (vs:List Value) (_:World):Nat:=match vs with
 | [_,.int _ g]=>(zdb W.groups g).length
 | _=>0
def muC (W:Wld) (vs:List Value) (_:World):Nat:=match vs with
 | [.int _ g]=>(z1c W g).length
 | _=>0
section
variable {base pb:Nat} {W:Wld} {m:MW} {w:World}
set_option maxHeartbeats 4000000 in
theorem zta {K S t c left:Int} (h:PW base pb w W m) (sw:SW K W) (rb:RB S W) (hK:0≤K∧K≤60000000000000000) (hS:0≤S∧S≤60000000000000000) (c0:0≤c) (c1:c<(W.cpus.length:Int)) (up:(gi W.cpus c).up=true) (ran:(gi W.cpus c).ran<50) (t0:0≤t) (t1:t<12) (hu:zad W.groups (tkk W t).group=true)
  (n0:0≤mstL W c (pthR W t) left) (n1:mstL W c (pthR W t) left≤100) :
  Calls Tryz.prog zeq #[.agg #[.pointer (pA pb),.int .i64 c],.int .i64 t,.int .i64 left] w fun e w'=>e = .returned (.int .i64 (mstL W c (pthR W t) left))∧Mp base pb [] w m w' (chW W c t (mstL W c (pthR W t) left)) m:=by
 obtain ⟨sE,rE,_,_,hlE,_,s1,r1,cp1⟩:=zacb sw rb (by omega) c0 c1 up ran t0 t1 hu n0 n1
 obtain ⟨pin,plen⟩:=z5h sw.a hu
 have hM0:=Mp.start h
 have htl:=sw.a.t
 have hgl:=sw.a.gl
 have hlg:lagB=34686091440:=rfl
 generalize hN:mstL W c (pthR W t) left=n at sE rE hlE s1 r1 cp1 n0 n1
 refine (zsc (pA pb) c t left (R:=fun v w'=>v = .int .i64 n∧Mp base pb [] w m w' (chW W c t n) m) ?_).mono fun e w' ⟨v,he,hv,h3⟩=>⟨by rw [he,hv],h3⟩
 intro b hb
 have hM:=hM0.add hb
 have hp:=hM0.wpt
 have htv:=sw.tv t t0 t1
 have htr:=rb.t t t0 t1
 have hv:=zma n (zav (tkk W t).nice) n0 n1
 refine ⟨hp.some,_,_,_,hp.tasks,hp.rd.t.ix zc6 t0 (by omega),_,hp.rd.t.f t0 (by omega) (j:=1) rfl,?_⟩
 refine ⟨fun vs w2=>∃u g,vs=[.int .i64 u,.int .i64 g]∧zad W.groups g=true∧Mp base pb [b] w m w2 W m∧mstL W c (zdb W.groups g++[0]) u=n,muB W,fun wr hx _=>⟨left,_,rfl,hu,hM.call0 hx,hN⟩,?_⟩
 rintro u9 g9 w2 hs2 ⟨u,g,he,hug,hM2,hE⟩
 simp only [List.cons.injEq,Value.int.injEq,true_and,and_true] at he
 obtain ⟨rfl,rfl⟩:=he
 have hp2:=hM2.wpt
 obtain ⟨u0,u1,hgg⟩:=sw.a.u hug
 have hlt2:g9<(W.groups.length:Int):=by omega
 refine ⟨fun gz => ?_,fun gz => ?_⟩
 ·have gz:g9≠0:=by simpa using gz
  have hps:=zdz sw.a.tree hug gz
  have hup:=(zgj sw.a.tree hug gz).1
  rw [hps] at hE
  have hE:mstL W c (zdb W.groups (gi W.groups g9).parent++[0]) (mstG W c g9 u9)=n:=hE
  have hmu:∀{u':Int} {w8 w9:World},muB W [.int .i64 u',.int .i64 (gi W.groups g9).parent] w8<muB W [.int .i64 u9,.int .i64 g9] w9:=by
   intro u' w8 w9
   show (zdb W.groups (gi W.groups g9).parent).length<(zdb W.groups g9).length
   rw [hps]; exact Nat.lt_succ_self _
  refine ⟨hp2.some,_,_,_,hp2.groups,hp2.rd.g.ix u0 hlt2,_,_,_,_,_,_,_,_,_,hp2.rd.g.band u0 hlt2,fun b1 hb1=>⟨fun gq => ?_,fun gq => ?_⟩⟩
  ·have gq:(gi W.groups g9).band.quota>0:=of_decide_eq_true gq
   obtain ⟨hb3,hbl,_⟩:=hgg.band (by omega)
   have hLo:=hp2.rd.g.locals g9 u0 hlt2
   have hmG:mstG W c g9 u9=if gi (gi W.groups g9).band.locals c<u9 then gi (gi W.groups g9).band.locals c else u9:=by
    unfold mstG minI
    rw [if_pos gq]
    split <;> split <;> omega
   rw [hmG] at hE
   exact ⟨hLo.ix zex c0 (by omega),_,hLo c c0 (by omega),hp2.some,_,_,_,hp2.groups,hp2.rd.g.ix u0 hlt2,_,hp2.rd.g.parent u0 hlt2,fun wr1 hx1 _=>⟨⟨_,_,rfl,hup,hM2.step hx1,hE⟩,hmu⟩⟩
  ·have gq:¬(gi W.groups g9).band.quota>0:=of_decide_eq_false gq
   have hmG:mstG W c g9 u9=u9:=by unfold mstG; rw [if_neg gq]
   rw [hmG] at hE
   exact ⟨hp2.some,_,_,_,hp2.groups,hp2.rd.g.ix u0 hlt2,_,hp2.rd.g.parent u0 hlt2,fun wr1 hx1 _=>⟨⟨_,_,rfl,hup,hM2.step hx1,hE⟩,hmu⟩⟩
 have gz:g9=0:=by simpa using gz
 subst gz
 rw [show zdb W.groups 0=[] from zcf _ _,List.nil_append] at hE
 have hE:u9=n:=by
  have e0:mstL W c [0] u9=mstG W c 0 u9:=rfl
  rw [e0] at hE
  unfold mstG at hE
  rwa [if_neg (by have:=(hgg.root rfl).2.2; omega)] at hE
 subst hE
 clear hgg hlt2 u0 u1 hug
 have eA:MWd 8 base _ (setTk W t { tkk W t with v:=(tkk W t).v+zc2 u9 (zav (tkk W t).nice) }) m:=hM2.own.stoT t0 (by omega) (j:=5) (vs:=[.int .i64 ((tkk W t).v+zc2 u9 (zav (tkk W t).nice))]) (x:={ tkk W t with v:=(tkk W t).v+zc2 u9 (zav (tkk W t).nice) }) rfl (by simp)
 have hMA:=hM2.deed eA subT (z8b _ _ _ _)
 have gA:∀x:Tsk,gi (setTk W t x).tasks t=x:=fun x=>zakr t0 (by omega)
 have lA:∀x:Tsk,t<((setTk W t x).tasks.length:Int):=fun x=>by rw [zael]; omega
 have eB:MWd 8 base _ (setTk (setTk W t { tkk W t with v:=(tkk W t).v+zc2 u9 (zav (tkk W t).nice) }) t { tkk W t with v:=(tkk W t).v+zc2 u9 (zav (tkk W t).nice),sum:=(tkk W t).sum+u9 }) m:=hMA.own.stoT t0 (lA _) (j:=6) (vs:=[.int .i64 ((tkk W t).sum+u9)]) (x:={ tkk W t with v:=(tkk W t).v+zc2 u9 (zav (tkk W t).nice),sum:=(tkk W t).sum+u9 }) (by rw [gA]; rfl) (by simp)
 have hMB:=hMA.deed eB subT (z8b _ _ _ _)
 rw [set_set] at hMB
 have eC:MWd 8 base _ (setTk (setTk W t { tkk W t with v:=(tkk W t).v+zc2 u9 (zav (tkk W t).nice),sum:=(tkk W t).sum+u9 }) t (chT W t u9)) m:=hMB.own.stoT t0 (lA _) (j:=7) (vs:=[.int .i64 ((tkk W t).used+u9)]) (x:=chT W t u9) (by rw [gA]; rfl) (by simp)
 have hMC:=hMB.deed eC subT (z8b _ _ _ _)
 rw [set_set] at hMC
 have rA:=hMA.wpt.rd.t.f t0 (lA _) (j:=6) rfl
 rw [gA] at rA
 have rB:=hMB.wpt.rd.t.f t0 (lA _) (j:=7) rfl
 rw [gA] at rB
 have rC:=hMC.wpt.rd.t.f t0 (lA _) (j:=1) rfl
 rw [gA] at rC
 refine ⟨_,hp2.rd.t.f t0 (by omega) (j:=5) rfl,_,hp2.rd.t.f t0 (by omega) (j:=3) rfl,_,zj4,_,zdn,⟨?_,?_⟩,wrT hM2.own hM2.nb t0 (by omega) (j:=5) (by decide),_,rA,⟨?_,?_⟩,wrT hMA.own hMA.nb t0 (lA _) (j:=6) (by decide),_,rB,⟨?_,?_⟩,wrT hMB.own hMB.nb t0 (lA _) (j:=7) (by decide),_,rC,?_⟩
 ·show _≤(tkk W t).v+zc2 u9 (zav (tkk W t).nice); omega
 ·show (tkk W t).v+zc2 u9 (zav (tkk W t).nice)≤_; omega
 ·show _≤(tkk W t).sum+u9; omega
 ·show (tkk W t).sum+u9≤_; omega
 ·show _≤(tkk W t).used+u9; omega
 ·show (tkk W t).used+u9≤_; omega
 refine ⟨fun vs w2=>∃(k:Nat) (g:Int) (V:Wld),vs=[.int .i64 g]∧k+(z1c W g).length≤4∧(g≠-1→zad W.groups g=true)∧Mp base pb [b] w m w2 V m∧chL c u9 (pthR W t) (setTk W t (chT W t u9))=chL c u9 (z1c W g) V∧ChP (K+lagB+lagB*(k:Int)) (S+100+100*(k:Int)) c u9 (setTk W t (chT W t u9)) V,muC W,fun wr hx _=>⟨0,(tkk W t).group,_,rfl,?_,fun _=>hu,hMC.step hx,?_,⟨s1.mono (by simp),r1.mono (by simp),rfl,rfl,rfl,zcj.refl _,fun _ _=>rfl⟩⟩,?_⟩
 ·have hg0:=(zac.1 hu).1
  unfold z1c
  rw [if_neg (by omega)]
  have:(zdb W.groups (tkk W t).group++[0]).length≤4:=plen
  omega
 ·have hg0:=(zac.1 hu).1
  unfold z1c
  rw [if_neg (by omega)]; rfl
 rintro g9 w3 hs3 ⟨k,g,V,he,hk,hug,hM3,hE,hC⟩
 simp only [List.cons.injEq,Value.int.injEq,true_and,and_true] at he
 subst he
 have hp3:=hM3.wpt
 have hclV:V.cpus.length=W.cpus.length:=by rw [hC.cp]; rfl
 have hTG:zcj W.groups V.groups:=hC.g
 have hkk:0≤lagB*(k:Int)∧lagB*(k:Int)≤138744365760:=by simp only [lagB]; omega
 have hk1:lagB*((k+1:Nat):Int)=lagB*(k:Int)+lagB:=by simp only [lagB]; omega
 refine ⟨fun gz => ?_,fun gz => ?_⟩
 ·have gz:g9≠-1:=by simpa using gz
  have hug:=hug gz
  have hug':zad V.groups g9=true:=by rw [hTG.usd]; exact hug
  obtain ⟨u0,u1,hgg⟩:=hC.sw.a.u hug'
  have hglV:=hC.sw.a.gl
  have hlt2:g9<(V.groups.length:Int):=by omega
  have hsl:=hC.sw.a.sl hug'
  have cV:c<(V.cpus.length:Int):=by rw [hclV]; exact c1
  have hcs:c<((gi V.groups g9).shelves.length:Int):=by omega
  have hrs:=zabj sw.a.tree hug
  rw [hrs,List.length_cons] at hk
  rw [hrs,z9e] at hE
  have hC2:=hC.trans (zaca hC.sw hC.rb (by omega) c0 cV hug' n0 n1)
  have hC3:ChP (K+lagB+lagB*((k+1:Nat):Int)) (S+100+100*((k+1:Nat):Int)) c u9 (setTk W t (chT W t u9)) (chG V c u9 g9):=⟨hC2.sw.mono (by omega),hC2.rb.mono (by omega),hC2.now,hC2.t,hC2.cp,hC2.g,hC2.p⟩
  have hsv:=hC.sw.s g9 c hug' c0 cV
  have hsr:=hC.rb.s g9 c hug' c0 cV
  have hgr:=hC.rb.g g9 hug'
  have hv2:=zma u9 (shf V g9 c).w n0 n1
  have hsh:=hp3.sh u0 hlt2 c0 hcs
  have e1:MWd 8 base (sto w3 (shO m g9 c) (0+4) [.int .i64 ((shf V g9 c).sum+u9)]) (ch1 V c u9 g9) m:=hM3.own.shSto u0 u1 c0 hcs (j:=4) (vs:=[.int .i64 ((shf V g9 c).sum+u9)]) rfl (by simp)
  have ec1:encW (ch1 V c u9 g9) m=encW V m:=by simp [encW,ch1,setSh,zau]
  have hM4:=hM3.deed e1 (zabm u0 u1) ec1
  have hl1:(ch1 V c u9 g9).groups.length=V.groups.length:=by simp [ch1,setSh,zau]
  have hM5:Mp base pb [b] w m _ (ch2 V c u9 g9) m:=hM4.grf u0 u1 (G:={ gi (ch1 V c u9 g9).groups g9 with sum:=(gi V.groups g9).sum+u9 }) rfl rfl rfl (j:=7) (vs:=[.int .i64 ((gi V.groups g9).sum+u9)]) rfl (by simp)
  have hp4:=hM4.wpt
  have hsum:zaa [b] (sto w3 (shO m g9 c) (0+4) [.int .i64 ((shf V g9 c).sum+u9)]) m.gO (Int.toNat g9*14+7) [.int .i64 (gi V.groups g9).sum]:=by
   have:=(hp4.rd.g.cells g9 u0 (by rw [hl1]; exact hlt2)).get 7 _ rfl
   rwa [zah0 u0 hlt2] at this
  have hgrp4:=hp4.groups
  rw [hl1] at hgrp4
  have hix4:Ix m.gO V.groups.length g9:=hp3.rd.g.ix u0 hlt2
  have hwr4:=wrG hM4.own hM4.nb (i:=g9) u0 (by omega) (j:=7) (k:=1) (by decide)
  refine ⟨_,zbb hp3 u0 hlt2 c0 hcs,hsh.1,_,hsh.2 (j:=4) rfl,⟨by omega,by omega⟩,hsh.1,hM3.own.shWr hM3.nb u0 u1 c0 hcs (j:=4) (by decide),hp3.some,_,_,_,hgrp4,hix4,_,hsum,⟨by omega,by omega⟩,hix4,hwr4,fun _ _ w5=>Mp base pb [b] w m w5 (zau (chA V c u9 g9) g9 (chU V c u9 g9)) m,⟨fun g1 => ?_,fun g1 wr5 hx5 _ => ?_⟩,?_⟩
  ·have hp5:=hM5.wpt
   have hl2:=zain V c u9 g9
   have hs2:=zaio (n:=u9) u0 hlt2 c0 hcs
   have hcs2:c<((gi (ch2 V c u9 g9).groups g9).shelves.length:Int):=by
    rw [zab9 u0 hlt2]
    show c<(((gi V.groups g9).shelves.set c.toNat _).length:Int)
    rw [List.length_set]; exact hcs
   have hsh5:=hp5.sh u0 (by rw [hl2]; exact hlt2) c0 hcs2
   have v1:=hsh5.2 (j:=2) rfl
   have v2:=hsh5.2 (j:=3) rfl
   rw [hs2] at v1 v2
   have g1:g9≠0:=by simpa using g1
   have hsS:chS V c u9 g9={ shf V g9 c with v:=(shf V g9 c).v+zc2 u9 (shf V g9 c).w,sum:=(shf V g9 c).sum+u9 }:=by unfold chS; rw [if_pos g1]
   have e6:MWd 8 base _ (setSh (ch2 V c u9 g9) g9 c (chS V c u9 g9)) m:=hM5.own.shSto u0 u1 c0 hcs2 (j:=2) (vs:=[.int .i64 ((shf V g9 c).v+zc2 u9 (shf V g9 c).w)]) (by rw [hs2,hsS]; rfl) (by simp)
   have hM6:=hM5.deed e6 (zabm u0 u1) (by simp [encW,setSh,zau])
   rw [zafy u0 hlt2] at hM6
   exact ⟨hsh.1,_,v1,hsh.1,_,v2,_,zdn,⟨by show _≤(shf V g9 c).v+zc2 u9 (shf V g9 c).w; omega,by show (shf V g9 c).v+zc2 u9 (shf V g9 c).w≤_; omega⟩,hsh.1,hM5.own.shWr hM5.nb u0 u1 c0 hcs2 (j:=2) (by decide),fun wr5 hx5 _=>hM6.step hx5⟩
  ·have g1:g9=0:=by simpa using g1
   subst g1
   rw [←zafz hlt2]
   exact hM5.step hx5
  intro w5 hs5 hM6
  have hgb:=zur (c:=c) (n:=u9) u0 hlt2
  have hgi:=z9f (c:=c) (n:=u9) u0 hlt2
  have hl5:(zau (chA V c u9 g9) g9 (chU V c u9 g9)).groups.length=V.groups.length:=by simp only [zau,List.length_set]; exact zwh _ _ _ _
  have hnone:=z3j (c:=c) (n:=u9) u0 hlt2
  have hdef:chG V c u9 g9=setBd (zau (chA V c u9 g9) g9 (chU V c u9 g9)) g9 (chB V c u9 g9):=rfl
  have hpar:(gi (zau (chA V c u9 g9) g9 (chU V c u9 g9)).groups g9).parent=(gi W.groups g9).parent:=by
   rw [hgi]
   unfold chU
   rw [z6a u0 hlt2]
   exact hTG.p g9
  generalize zau (chA V c u9 g9) g9 (chU V c u9 g9)=V5 at hM6 hgi hl5 hnone hdef hpar
  have hp6:=hM6.wpt
  have hg5:g9<(V5.groups.length:Int):=by rw [hl5]; exact hlt2
  have hq5:=hp6.rd.g.quo (i:=g9) u0 hg5
  rw [hgi,hgb] at hq5
  have hmu:∀{w8 w9:World},muC W [.int .i64 (gi W.groups g9).parent] w8<muC W [.int .i64 g9] w9:=by
   intro w8 w9
   show (z1c W (gi W.groups g9).parent).length<(z1c W g9).length
   rw [hrs]; exact Nat.lt_succ_self _
  have hun:(gi W.groups g9).parent≠-1→zad W.groups (gi W.groups g9).parent=true:=fun hne=>by
   by_cases hz:g9=0
   ·subst hz; exact absurd sw.a.tree.rp hne
   ·exact (zgj sw.a.tree hug hz).1
  refine ⟨hp6.some,_,_,_,hp6.groups,hp6.rd.g.ix u0 hg5,_,hq5,fun g2 wr6 hx6 hs6 => ?_,fun g2 => ?_⟩
  ·have g2:(gi V.groups g9).band.quota>0:=of_decide_eq_true g2
   have hB:chB V c u9 g9=(zc8 (gi V.groups g9).band ⟨2,c,u9⟩).1:=by unfold chB; rw [if_pos g2]
   rw [hB] at hdef
   obtain ⟨hb3,hbl,_⟩:=hgg.band (by omega)
   have hM7:=hM6.step hx6
   have hown:MWd 8 base wr6 (setBd V5 g9 (gi V.groups g9).band) m:=by
    have:(gi V5.groups g9).band=(gi V.groups g9).band:=by rw [hgi,hgb]
    rw [←this,zou u0 hg5]; exact hM7.own
   refine Calls.mono (zxd (op:=⟨2,c,u9⟩) hown u0 u1 hb3) ?_
   rintro e7 wv7 ⟨he7,hB7,hX7⟩
   rw [←hdef] at hB7
   have ecc:encW (chG V c u9 g9) m=encW V5 m:=by rw [hdef]; simp [encW,setBd,zau]
   have hM8:=hM7.deed hB7 hX7 ecc
   have hp8:=hM8.wpt
   have hl8:(chG V c u9 g9).groups.length=V5.groups.length:=by rw [hdef]; simp [setBd,zau]
   have hpr8:=hp8.rd.g.parent (i:=g9) u0 (by rw [hl8]; exact hg5)
   have hpe:(gi (chG V c u9 g9).groups g9).parent=(gi W.groups g9).parent:=hC2.g.p g9
   rw [hpe] at hpr8
   have hgr8:=hp8.groups
   have hix8:=hp8.rd.g.ix (i:=g9) u0 (by rw [hl8]; exact hg5)
   exact ⟨_,he7,zh7 hX7 hs6 hM7.nb,hp8.some,_,_,_,hgr8,hix8,_,hpr8,fun wr7 hx7 _=>⟨⟨k+1,_,chG V c u9 g9,rfl,by omega,hun,hM8.step hx7,hE,hC3⟩,hmu⟩⟩
  ·have g2:¬(gi V.groups g9).band.quota>0:=of_decide_eq_false g2
   have hpr6:=hp6.rd.g.parent (i:=g9) u0 hg5
   rw [hpar] at hpr6
   refine ⟨hp6.some,_,_,_,hp6.groups,hp6.rd.g.ix u0 hg5,_,hpr6,fun wr7 hx7 _=>⟨⟨k+1,_,chG V c u9 g9,rfl,by omega,hun,?_,hE,hC3⟩,hmu⟩⟩
   rw [hnone g2]
   exact hM6.step hx7
 ·have gz:g9 = -1:=by simpa using gz
  subst gz
  have hE:chL c u9 (pthR W t) (setTk W t (chT W t u9))=V:=hE
  have hcV:V.cpus=W.cpus:=hC.cp
  have cV:c<(V.cpus.length:Int):=by rw [hclV]; exact c1
  have hcr:=rb.c c c0 c1
  have hs:=zmu (n:=Int.toNat c*5) (hp3.rd.c c c0 cV)
  have e1:=hM3.own.stoC c0 cV (j:=3) (vs:=[.int .i64 ((gi W.cpus c).busy+u9)]) (x:={ gi W.cpus c with busy:=(gi W.cpus c).busy+u9 }) (by rw [hcV]; rfl) (by simp)
  have hl1:(V.cpus.set c.toNat { gi W.cpus c with busy:=(gi W.cpus c).busy+u9 }).length=V.cpus.length:=List.length_set
  have hg1:gi (V.cpus.set c.toNat { gi W.cpus c with busy:=(gi W.cpus c).busy+u9 }) c={ gi W.cpus c with busy:=(gi W.cpus c).busy+u9 }:=(zba _ _ c0 cV c0).trans (if_pos rfl)
  have e2:=e1.stoC c0 (by simpa using cV) (j:=2) (vs:=[.int .i64 ((gi W.cpus c).ran+u9)]) (x:=chC W c u9) (by rw [hg1]; rfl) (by simp)
  have hM4:Mp base pb [b] w m _ ({ V with cpus:=V.cpus.set c.toNat { gi W.cpus c with busy:=(gi W.cpus c).busy+u9 } }:Wld) m:=hM3.deed e1 subC (by simp [encW])
  have hM5:Mp base pb [b] w m _ ({ V with cpus:=(V.cpus.set c.toNat { gi W.cpus c with busy:=(gi W.cpus c).busy+u9 }).set c.toNat (chC W c u9) }:Wld) m:=hM4.deed e2 subC (by simp [encW])
  have hW5:({ V with cpus:=(V.cpus.set c.toNat { gi W.cpus c with busy:=(gi W.cpus c).busy+u9 }).set c.toNat (chC W c u9) }:Wld)=chW W c t u9:=by
   unfold chW setCp
   rw [hE,List.set_set]
  rw [hW5] at hM5
  have hb3:=zfy (hp3.rd.c c c0 cV) (j:=3) rfl
  rw [hcV] at hb3
  have c4:c<((({ V with cpus:=V.cpus.set c.toNat { gi W.cpus c with busy:=(gi W.cpus c).busy+u9 } }:Wld).cpus.length:Nat):Int):=by show c<((V.cpus.set c.toNat _).length:Int); rw [hl1]; exact cV
  have hp4:=hM4.wpt
  have hr4:=zfy (hp4.rd.c c c0 c4) (j:=2) rfl
  rw [show gi ({ V with cpus:=V.cpus.set c.toNat { gi W.cpus c with busy:=(gi W.cpus c).busy+u9 } }:Wld).cpus c=_ from hg1] at hr4
  have hcp4:=zhw hp4 c0 c4
  refine ⟨_,zhw hp3 c0 cV,hs,_,hb3,⟨by show _≤(gi W.cpus c).busy+u9; omega,by show (gi W.cpus c).busy+u9≤_; omega⟩,hs,zmy.2 (wrC hM3.own hM3.nb c0 cV (by decide)),?_⟩
  rw [zkd]
  refine ⟨_,hcp4,hs,_,hr4,⟨by show _≤(gi W.cpus c).ran+u9; omega,by show (gi W.cpus c).ran+u9≤_; omega⟩,hs,zmy.2 (wrC e1 hM3.nb c0 c4 (by decide)),?_⟩
  rw [zkd]
  exact fun wr9 hx9=>⟨rfl,(hM5.step hx9).close⟩
end
end Go.Proofs.YthhmnlcimojhlaaGreatDoor
