/- Part 12 of what the law FnExactCpuBalance needs: the engine, the functions' propositions, the contracts. -/
import Derived.Test.YtajdcjidpolloaaGreatDoorFnExactCpuBalancePk
namespace Go.Proofs.YtajdcjidpolloaaGreatDoor
open Go.RowKit
set_option linter.unusedVariables false
set_option linter.unusedSimpArgs false
set_option maxRecDepth 10000
theorem zc9.lt {base:Nat} {w:World} {b:Bnd} {p:MG} (h:zc9 base w b p):∀x∈zgr p,base≤x∧x<w.heap.size:=fun x hx=>by
 rcases List.mem_append.1 hx with hx | hx
 ·exact h.loc.lt x hx
 ·exact h.dry.lt x hx
theorem zc9.ext {base:Nat} {w w':World} {b:Bnd} {p:MG} {bs:List Nat} (h:zc9 base w b p) (hx:ExtX bs w w') (hd:∀x∈zgr p,x∉bs):zc9 base w' b p :=
 ⟨h.loc.ext hx fun x hm=>hd x (List.mem_append_left _ hm),h.dry.ext hx fun x hm=>hd x (List.mem_append_right _ hm)⟩
theorem zc9.ext0 {base:Nat} {w w':World} {b:Bnd} {p:MG} (h:zc9 base w b p) (hx:ExtX [] w w'):zc9 base w' b p:=h.ext hx (by simp)
theorem zc9.extB {base:Nat} {w w':World} {b:Bnd} {p:MG} {bs:List Nat} (h:zc9 base w b p) (hx:ExtX bs w w') (hb:∀x∈bs,x<base):zc9 base w' b p:=h.ext hx fun x hm hm'=>by
 have:=(h.lt x hm).1
 have:=hb x hm'
 omega
theorem zc9.mono {base base':Nat} {w:World} {b:Bnd} {p:MG} (h:zc9 base w b p) (hb:base'≤base):zc9 base' w b p:=⟨h.loc.mono hb,h.dry.mono hb⟩
theorem zc9.stoL {base:Nat} {w:World} {b:Bnd} {p:MG} (h:zc9 base w b p) {c:Int} (c0:0≤c) (c1:c<(b.locals.length:Int)) (x:Int):zc9 base (sto w p.lO (Int.toNat c*1) [.int .i64 x]) { b with locals:=b.locals.set c.toNat x } p :=
 ⟨h.loc.sto zbt.len c0 c1 (j:=0) (vs:=[.int .i64 x]) (x:=x) rfl (by simp),h.dry.ext (h.loc.stoX _ _) (h.dry.ty_ne h.loc (by decide))⟩
theorem zc9.stoD {base:Nat} {w:World} {b:Bnd} {p:MG} (h:zc9 base w b p) {c:Int} (c0:0≤c) (c1:c<(b.dry.length:Int)) (x:Bool):zc9 base (sto w p.dO (Int.toNat c*1) [.bool x]) { b with dry:=b.dry.set c.toNat x } p :=
 ⟨h.loc.ext (h.dry.stoX _ _) (h.loc.ty_ne h.dry (by decide)),h.dry.sto zcj.len c0 c1 (j:=0) (vs:=[.bool x]) (x:=x) rfl (by simp)⟩
theorem zc9.xL {base:Nat} {w:World} {b:Bnd} {p:MG} (h:zc9 base w b p) (n:Nat) (vs:List Value):ExtX (zgr p) w (sto w p.lO n vs):=(h.loc.stoX n vs).mono fun x hx=>List.mem_append_left _ hx
theorem zc9.xD {base:Nat} {w:World} {b:Bnd} {p:MG} (h:zc9 base w b p) (n:Nat) (vs:List Value):ExtX (zgr p) w (sto w p.dO n vs):=(h.dry.stoX n vs).mono fun x hx=>List.mem_append_right _ hx
section
variable {b:Bnd} {m:MG} {w:World}
theorem ztd {α:Type} [Inhabited α] {l:List α} {i:Nat} (h:i<l.length):l.take i++[gi l (i:Int)]=l.take (i+1):=by
 rw [List.take_succ_eq_append_getElem h,zd9 h]
theorem zvj (h1:RdI [] w m.lO b.locals) (h2:RdB [] w m.dO b.dry) (hd:b.dry.length=b.locals.length) (hl:b.locals.length≤1048576) :
  Calls Tryz.prog zjt #[.agg (zcx b m).toArray] w fun e w'=>∃p,e = .returned (.agg (zcx b p).toArray)∧zc9 w.heap.size w' b p∧ExtX [] w w':=by
 refine (z81 b.quota b.pool b.spent m.lO b.locals.length m.lC m.dO b.dry.length m.dC (R:=fun v w'=>∃p,v = .agg (zcx b p).toArray∧zc9 w.heap.size w' b p∧ExtX [] w w') ?_).mono fun e w' ⟨v,he,p,hv,h3⟩=>⟨p,by rw [he,hv],h3⟩
 intro x hx0 x5 hx5 x6 hx6
 refine ⟨fun vs w1=>∃(i:Nat) (p:MG),vs=[.int .i64 (i:Int),.int .i64 b.quota,.int .i64 b.pool,.int .i64 b.spent,.slice p.lO (b.locals.take i).length p.lC,.slice p.dO (b.dry.take i).length p.dC]∧i≤b.locals.length∧Sc w [x,x5,x6] w1∧Ob encI 1 ty_int w.heap.size [x,x5,x6] w1 p.lO p.lC (b.locals.take i)∧Ob encB 1 zbi w.heap.size [x,x5,x6] w1 p.dO p.dC (b.dry.take i),
  zcv b.locals.length 0,fun wr hx _=>⟨0,⟨none,0,none,0,none,0⟩,by simp,Nat.zero_le _,(((Sc.start w).add hx0).add hx5 |>.add hx6).call0 hx,⟨.inl ⟨rfl,rfl,rfl⟩,by simp [zau]⟩,⟨.inl ⟨rfl,rfl,rfl⟩,by simp [zau]⟩⟩,?_⟩
 rintro c1 l l1 l2 l3O l3L l3C l4O l4L l4C wv hs ⟨i,p,he,hi,s1,hO,hD⟩
 simp only [List.cons.injEq,Value.int.injEq,Value.slice.injEq,true_and,and_true] at he
 obtain ⟨rfl,rfl,rfl,rfl,⟨rfl,rfl,rfl⟩,rfl,rfl,rfl⟩:=he
 refine ⟨fun hlt => ?_,fun hge => ?_⟩
 ·have hlt:=of_decide_eq_true hlt
  have hr1:=h1.scb s1
  refine ⟨hr1.ix zgs (by omega) hlt,_,hr1 i (by omega) hlt,fun b8 hb8=>⟨rfl,fun wr3 hx3 hs3 hcell => ?_⟩⟩
  have s2:=s1.put hx3 hb8
  have hO2:=hO.put hx3 hb8
  have hD2:=hD.put hx3 hb8
  obtain ⟨o2,c2,w2,hrun,hk2,hO3,hy2⟩:=hO2.app1 zbt ziw (x:=gi b.locals (i:Int)) hs3 s2.ext.size hcell (oneI _) (by rw [List.length_take]; omega) (by decide) zax #[false,false]
  rw [ztd (by omega)] at hrun hO3
  have s3:=s2.call hy2 fun x hm=>(hO2.own.lt x hm).1
  have hD3:=hD2.call hy2 (hD2.own.ty_ne hO2.own (by decide))
  have hr2:=h2.scb s3
  refine ⟨_,_,_,w2,hrun,hk2,hr2.ix zom (by omega) (by omega),_,hr2 i (by omega) (by omega),fun b9 hb9=>⟨rfl,fun wr4 hx4 hs4 hcell4 => ?_⟩⟩
  have s4:=s3.put hx4 hb9
  have hO4:=hO3.put hx4 hb9
  have hD4:=hD3.put hx4 hb9
  obtain ⟨o4,c4,w4,hrun4,hk4,hD5,hy4⟩:=hD4.app1 zcj zpb (x:=gi b.dry (i:Int)) hs4 s4.ext.size hcell4 (oneB _) (by rw [List.length_take]; omega) (by decide) zct #[false,false]
  rw [ztd (by omega)] at hrun4 hD5
  have s5:=s4.call hy4 fun x hm=>(hD4.own.lt x hm).1
  have hO5:=hO4.call hy4 (hO4.own.ty_ne hD4.own (by decide))
  refine ⟨_,_,_,w4,hrun4,hk4,⟨by omega,by omega⟩,fun w5 hx5 _=>⟨⟨i+1,⟨o2,c2,o4,c4,none,0⟩,rfl,by omega,(s5.step hx5).sub (by simp),(hO5.step hx5).sub (by simp),(hD5.step hx5).sub (by simp)⟩,?_⟩⟩
  simp only [zcv,cntM,zcw,List.getElem?_cons_zero]
  omega
 ·have hge:=of_decide_eq_false hge
  have e1:b.locals.take i=b.locals:=List.take_of_length_le (by omega)
  have e2:b.dry.take i=b.dry:=List.take_of_length_le (by omega)
  rw [e1] at hO ⊢
  rw [e2] at hD ⊢
  exact fun w2 hx2=>⟨p,rfl,⟨(hO.step hx2).own,(hD.step hx2).own⟩,(s1.step hx2).ext⟩
theorem zac5 (l:List Bool) (k:Nat) (h:k<l.length):(List.replicate k false++l.drop k).set k false=List.replicate (k+1) false++l.drop (k+1):=by
 rw [List.set_append,if_neg (by simp),List.length_replicate,Nat.sub_self,List.drop_eq_getElem_cons h,List.set_cons_zero,List.replicate_succ',List.append_assoc,List.singleton_append]
theorem zvk {base:Nat} (h:zc9 base w b m) (hl:b.dry.length≤1048576) :
  Calls Tryz.prog zju #[.agg (zcx b m).toArray] w fun e w'=>e = .returned (.agg (zcx b m).toArray)∧zc9 base w' { b with dry:=List.replicate b.dry.length false } m∧ExtX (zgr m) w w':=by
 refine (z82 b.quota b.pool b.spent m.lO b.locals.length m.lC m.dO b.dry.length m.dC (R:=fun v w'=>v = .agg (zcx b m).toArray∧zc9 base w' { b with dry:=List.replicate b.dry.length false } m∧ExtX (zgr m) w w') ?_).mono fun e w' ⟨v,he,hv,h3⟩=>⟨by rw [he,hv],h3⟩
 intro x hx0 x5 hx5
 have hnb:∀y∈zgr m,y∉[x,x5]:=fun y hy hm=>by
  have:=(h.lt y hy).2
  simp only [List.mem_cons,List.not_mem_nil,or_false] at hm
  rcases hm with rfl | rfl <;> omega
 have hfr:∀y∈[x,x5],w.heap.size≤y:=fun y hm=>by
  simp only [List.mem_cons,List.not_mem_nil,or_false] at hm
  rcases hm with rfl | rfl <;> assumption
 refine zd6 b.dry.length 0 rfl (fun k w1=>k≤b.dry.length∧zc9 base w1 { b with dry:=List.replicate k false++b.dry.drop k } m∧ExtX (zgr m) w w1) (fun w1 hx1 _=>⟨Nat.zero_le _,by simpa using h.ext0 hx1,hx1.of_nil⟩) fun k w1 hs ⟨hk,hO,hX⟩=>⟨fun hlt => ?_,fun hge => ?_⟩
 ·have hlt:=of_decide_eq_true hlt
  have hlen:(List.replicate k false++b.dry.drop k).length=b.dry.length:=by simp; omega
  have e1:=hO.stoD (c:=(k:Int)) (by omega) (by show (k:Int)<((List.replicate k false++b.dry.drop k).length:Int); rw [hlen]; exact hlt) false
  have e2:({ b with dry:=(List.replicate k false++b.dry.drop k).set k false }:Bnd)={ b with dry:=List.replicate (k+1) false++b.dry.drop (k+1) }:=by rw [zac5 _ _ (by omega)]
  have hix:=hO.dry.ix (i:=(k:Int)) (by omega) (by show (k:Int)<((List.replicate k false++b.dry.drop k).length:Int); rw [hlen]; exact hlt)
  have hwr:=hO.dry.wr zcj.len (bs:=[x,x5]) (fun y hy=>hnb y (List.mem_append_right _ hy)) (i:=(k:Int)) (by omega) (by show (k:Int)<((List.replicate k false++b.dry.drop k).length:Int); rw [hlen]; exact hlt) (j:=0) (n:=1) (by decide)
  refine ⟨by rw [←hlen]; exact hix,hwr,⟨by omega,by omega⟩,fun w2 hx2 _=>zae (by omega) ⟨by omega,?_,(hX.trans (hO.xD _ _)).fresh hx2 fun y hy=>.inl (hfr y hy)⟩⟩
  rw [Int.toNat_natCast] at e1
  have:=(e2▸e1:zc9 base (sto w1 m.dO (k*1) [.bool false]) { b with dry:=List.replicate (k+1) false++b.dry.drop (k+1) } m)
  exact this.ext (by rw [Int.toNat_natCast] at hx2; exact hx2) hnb
 ·have hge:=of_decide_eq_false hge
  have hk2:k=b.dry.length:=by omega
  subst hk2
  rw [List.drop_length,List.append_nil] at hO
  exact fun w2 hx2=>⟨rfl,hO.ext hx2 hnb,hX.fresh hx2 fun y hy=>.inl (hfr y hy)⟩
theorem zagj {p:Int} (h:0≤p):0≤minI 20 p∧minI 20 p≤p:=by unfold minI; split <;> omega
theorem z6s {op:QOp} (hb:BndP b) (h1:RdI [] w m.lO b.locals) (h2:RdB [] w m.dO b.dry) :
  Calls Tryz.prog zmg #[.agg (zcx b m).toArray,.agg (encO op).toArray] w fun e w'=>∃p,e = .returned (.tuple #[.agg (zcx (zfp b op).1 p).toArray,.int .i64 (zfp b op).2])∧zc9 w.heap.size w' (zfp b op).1 p∧ExtX [] w w':=by
 refine (z59 b.quota b.pool b.spent m.lO b.locals.length m.lC m.dO b.dry.length m.dC op.kind op.at' op.n (R:=fun v w'=>∃p,v = .tuple #[.agg (zcx (zfp b op).1 p).toArray,.int .i64 (zfp b op).2]∧zc9 w.heap.size w' (zfp b op).1 p∧ExtX [] w w') ?_).mono fun e w' ⟨v,he,p,hv,h3⟩=>⟨p,by rw [he,hv],h3⟩
 have hm9:=zbh
 have hl2:=hb.l2
 have hdl:=hb.dl
 have q1:=hb.q1
 have q2:=hb.q2
 have p1:=hb.p1
 have p2:=hb.p2
 have s1':=hb.s1
 have s2':=hb.s2
 intro x hx0 x5 hx5 x6 hx6
 have hok:=zso (bs:=[]) h1 h2 (by omega)
 rw [zb9.2 hb] at hok
 refine ⟨true,hok,fun h=>by simp at h,fun _ wr1 hx1 hs1 => ?_⟩
 have t1:=((((Sc.start w).add hx0).add hx5).add hx6).call0 hx1
 refine (zvj (h1.ext hx1) (h2.ext hx1) hdl (by omega)).mono fun e wv ⟨p,he,hO,hy1⟩=>⟨_,_,_,_,_,_,_,_,_,he,za9 hy1 hs1,fun g4 => ?_,fun g4 => ?_⟩
 ·have g4:op.kind=4:=by simpa using g4
  have t2:=t1.call0 hy1
  have hbl:∀y∈[x,x5,x6],y<wr1.heap.size:=hs1
  refine fun wr2 hx2 hs2=>⟨_,_,_,_,zql zbt ziw b.dry.length (by omega) (by omega) wr2,za9 (zbw _ _) hs2,fun wr3 hx3 hs3 => ?_⟩
  have hLo:=(ziu (enc:=encI) zbt.len ty_int b.dry.length (0:Int) wr2).ext hx3 fun y hy hm=>by
   have:y=wr2.heap.size:=by simpa [zau] using hy
   have:=hs2 y hm
   omega
  have hD3:Own encB 1 zbi wr1.heap.size wr3 p.dO p.dC b.dry:=((hO.extB hx2 hbl).ext0 (zbw wr2 _)).extB hx3 hbl |>.dry
  have hsz1:wr1.heap.size≤wr2.heap.size:=Nat.le_trans hy1.size hx2.size
  have hB3:zc9 wr1.heap.size wr3 { b with locals:=List.replicate b.dry.length 0 } ⟨some ⟨wr2.heap.size,0,none⟩,b.dry.length,p.dO,p.dC,none,0⟩:=⟨hLo.mono hsz1,hD3⟩
  have t3:=((t2.step hx2).call0 (zbw wr2 (.cells ((List.replicate b.dry.length (0:Int)).flatMap encI).toArray ty_int))).step hx3
  have hw:=zvk (b:=⟨b.quota,b.quota,0,List.replicate b.dry.length 0,b.dry⟩) (m:=⟨some ⟨wr2.heap.size,0,none⟩,b.dry.length,p.dO,p.dC,none,0⟩) (base:=wr1.heap.size) ⟨hB3.loc,hB3.dry⟩ (by show b.dry.length≤_; omega)
  simp only [zcx,List.length_replicate] at hw
  refine Calls.mono hw fun e w4 ⟨he4,hO4,hy4⟩=>⟨_,_,_,_,_,_,_,_,_,he4,fun y hm=>hy4.block y (hs3 y hm) fun hm' => ?_,fun wr4 hx4=>⟨⟨some ⟨wr2.heap.size,0,none⟩,b.dry.length,p.dO,p.dC,none,0⟩,?_,?_,?_⟩⟩
  ·have:=(hB3.lt y hm').1
   have:=hs1 y hm
   omega
  ·have:zfp b op=(z87 b,0):=by unfold zfp; rw [if_pos g4]
   rw [this]; simp [zcx,z87]
  ·have:zfp b op=(z87 b,0):=by unfold zfp; rw [if_pos g4]
   rw [this]
   exact (zc9.mono ⟨hO4.loc,hO4.dry⟩ hx1.size).ext hx4 fun y hy hm=>by
    have:=(hB3.lt y hy).1
    have:=hs1 y hm
    omega
  ·exact ((t3.call hy4 fun y hy=>Nat.le_trans hx1.size (hB3.lt y hy).1).step hx4).ext
 ·have g4:¬op.kind=4:=by simpa using g4
  have t2:=t1.call0 hy1
  have hbl:∀y∈zgr p,y∉[x,x5,x6]:=fun y hy hm=>by
   have:=(hO.lt y hy).1
   have:=hs1 y hm
   omega
  have hO0:zc9 w.heap.size wv b p:=hO.mono hx1.size
  have fin:∀{b':Bnd} {c:Int} {w1 w2:World},zfp b op=(b',c)→zc9 w.heap.size w1 b' p→ExtX (zgr p) wv w1→ExtX [x,x5,x6] w1 w2→zc9 w.heap.size w2 (zfp b op).1 p∧ExtX [] w w2:=fun e hB hX hx=>by
   rw [e]
   exact ⟨hB.ext hx hbl,((t2.call hX fun y hy=>(hO0.lt y hy).1).step hx).ext⟩
  have hr1:RdI [x,x5,x6] wv p.lO b.locals:=hO.loc.rd zbt.len fun y hy=>hbl y (List.mem_append_left _ hy)
  refine ⟨⟨by omega,by omega⟩,_,zar,fun g5 wr hx=>⟨p,?_,fin (b':=b) (c:=1) ?_ hO0 (ExtX.refl _ _) hx⟩,fun g5 => ?_⟩
  ·have:zfp b op=(b,1):=by unfold zfp; rw [if_neg g4,if_pos (by simpa using g5)]
   rw [this]; rfl
  ·unfold zfp; rw [if_neg g4,if_pos (by simpa using g5)]
  have g5':inB op.at' 0 ((b.locals.length:Int) - 1)=true:=by simpa using g5
  have hbd:zfp b op=if op.kind=1 then zro b op.at' else if op.kind=2 then zlf b op.at' op.n else if op.kind=3 then (zf9 b op.at',0) else (b,1):=by
   unfold zfp; rw [if_neg g4,if_neg (by rw [g5']; decide)]
  obtain ⟨c0,c1⟩:=za0.1 g5'
  have c1:op.at'<(b.locals.length:Int):=by omega
  have he':=hb.each _ c0 c1
  have hix:=hr1.ix zgs c0 c1
  have hwL:WrX [x,x5,x6] wv p.lO (Int.toNat op.at'*1) 1:=hO.loc.wr zbt.len (fun y hy=>hbl y (List.mem_append_left _ hy)) c0 c1 (j:=0) (by decide)
  refine ⟨fun g6 => ?_,fun g6 => ?_⟩
  ·have g6:op.kind=1:=by simpa using g6
   rw [if_pos g6] at hbd
   refine ⟨hix,_,hr1 _ c0 c1,fun g7 wr hx=>⟨p,?_,fin (b':=b) (c:=0) ?_ hO0 (ExtX.refl _ _) hx⟩,fun g7 => ?_⟩
   ·rw [hbd]; unfold zro; rw [if_pos (of_decide_eq_true g7)]; rfl
   ·rw [hbd]; unfold zro; rw [if_pos (of_decide_eq_true g7)]
   have g7:=of_decide_eq_false g7
   have ht:zro b op.at'=(⟨b.quota,b.pool - minI 20 b.pool,b.spent,b.locals.set op.at'.toNat (minI 20 b.pool),b.dry.set op.at'.toNat (minI 20 b.pool==0)⟩,if minI 20 b.pool=0 then 2 else 0):=by unfold zro; rw [if_neg g7]
   rw [ht] at hbd
   have hm:=zagj p1
   have e1:=hO0.stoL c0 c1 (minI 20 b.pool)
   have e2:=e1.stoD (c:=op.at') c0 (by show op.at'<(b.dry.length:Int); omega) (minI 20 b.pool==0)
   have hX:=(hO0.xL (Int.toNat op.at'*1) [.int .i64 (minI 20 b.pool)]).trans (e1.xD (Int.toNat op.at'*1) [.bool (minI 20 b.pool==0)])
   refine ⟨_,zvi,⟨by omega,by omega⟩,hix,hwL,e1.dry.ix c0 (by show op.at'<(b.dry.length:Int); omega),e1.dry.wr zcj.len (fun y hy=>hbl y (List.mem_append_right _ hy)) c0 (by show op.at'<(b.dry.length:Int); omega) (j:=0) (by decide),fun g8 wr hx=>⟨p,?_,fin hbd ⟨e2.loc,e2.dry⟩ hX hx⟩,fun g8 wr hx=>⟨p,?_,fin hbd ⟨e2.loc,e2.dry⟩ hX hx⟩⟩
   ·rw [hbd,if_pos (by simpa using g8)]; simp [zcx]
   ·rw [hbd,if_neg (by simpa using g8)]; simp [zcx]
  ·have g6:¬op.kind=1:=by simpa using g6
   rw [if_neg g6] at hbd
   refine ⟨fun g7 => ?_,fun g7 => ?_⟩
   ·have g7:op.kind=2:=by simpa using g7
    rw [if_pos g7] at hbd
    refine ⟨fun _=>hix,_,fun _=>hr1 _ c0 c1,fun g8 wr hx=>⟨p,?_,fin (b':=b) (c:=3) ?_ hO0 (ExtX.refl _ _) hx⟩,fun g8 => ?_⟩
    ·rw [hbd]; unfold zlf; rw [if_pos (by simpa using g8)]; rfl
    ·rw [hbd]; unfold zlf; rw [if_pos (by simpa using g8)]
    have g8':¬(op.n<1∨op.n>gi b.locals op.at'):=by simpa using g8
    have ht:zlf b op.at' op.n=({ b with spent:=b.spent+op.n,locals:=b.locals.set op.at'.toNat (gi b.locals op.at' - op.n) },0):=by unfold zlf; rw [if_neg g8']
    rw [ht] at hbd
    have e1:=hO0.stoL c0 c1 (gi b.locals op.at' - op.n)
    refine ⟨hix,_,hr1 _ c0 c1,⟨by omega,by omega⟩,hix,hwL,⟨by omega,by omega⟩,fun wr hx=>⟨p,?_,fin hbd ⟨e1.loc,e1.dry⟩ (hO0.xL _ _) hx⟩⟩
    rw [hbd]; simp [zcx]
   ·have g7:¬op.kind=2:=by simpa using g7
    rw [if_neg g7] at hbd
    refine ⟨fun g8 => ?_,fun g8 wr hx=>⟨p,?_,fin (b':=b) (c:=1) ?_ hO0 (ExtX.refl _ _) hx⟩⟩
    ·have g8:op.kind=3:=by simpa using g8
     rw [if_pos g8] at hbd
     have e1:=hO0.stoL c0 c1 0
     refine ⟨hix,_,hr1 _ c0 c1,⟨by omega,by omega⟩,hix,hwL,fun g9 wr hx hs => ?_,fun g9 wr hx=>⟨p,?_,fin hbd ?_ (hO0.xL _ _) hx⟩⟩
     ·have g9:=of_decide_eq_true g9
      have e2:zc9 w.heap.size wr ⟨b.quota,b.pool+gi b.locals op.at',b.spent,b.locals.set op.at'.toNat 0,b.dry⟩ p:=zc9.ext ⟨e1.loc,e1.dry⟩ hx hbl
      have hw:=zvk e2 (by show b.dry.length≤_; omega)
      simp only [zcx,List.length_set] at hw
      refine Calls.mono hw fun e w4 ⟨he4,hO4,hy4⟩=>⟨_,_,_,_,_,_,_,_,_,he4,fun y hm=>hy4.block y (hs y hm) fun hm'=>hbl y hm' hm,fun wr4 hx4=>⟨p,?_,?_,?_⟩⟩
      ·rw [hbd]; simp [zcx,zf9,if_pos g9]
      ·rw [hbd]
       have:zf9 b op.at'=⟨b.quota,b.pool+gi b.locals op.at',b.spent,b.locals.set op.at'.toNat 0,List.replicate b.dry.length false⟩:=by unfold zf9; rw [if_pos g9]
       rw [this]
       exact zc9.ext ⟨hO4.loc,hO4.dry⟩ hx4 hbl
      ·exact ((((t2.call (hO0.xL _ _) fun y hy=>(hO0.lt y hy).1).step hx).call hy4 fun y hy=>(hO0.lt y hy).1).step hx4).ext
     ·have g9:=of_decide_eq_false g9
      rw [hbd]; simp [zcx,zf9,if_neg g9]
     ·have g9:=of_decide_eq_false g9
      have:zf9 b op.at'=⟨b.quota,b.pool+gi b.locals op.at',b.spent,b.locals.set op.at'.toNat 0,b.dry⟩:=by unfold zf9; rw [if_neg g9]
      rw [this]
      exact ⟨e1.loc,e1.dry⟩
    ·rw [hbd,if_neg (by simpa using g8)]; rfl
    ·rw [hbd,if_neg (by simpa using g8)]
end
end Go.Proofs.YtajdcjidpolloaaGreatDoor
namespace Go.Proofs.YtajdcjidpolloaaGreatDoor
open Go.RowKit
set_option linter.unusedVariables false
set_option linter.unusedSimpArgs false
set_option maxRecDepth 10000
section
variable {base:Nat} {W:Wld} {m:MW} {w:World}
theorem z71 {w:World} {x x1:Nat} (h:w.heap.size≤x) (h1:w.heap.size≤x1):∀y∈[x,x1],w.heap.size≤y:=fun y hm=>by
 simp only [List.mem_cons,List.not_mem_nil,or_false] at hm
 rcases hm with rfl | rfl <;> assumption
theorem Mv.two {n:Nat} (h:MWd n base w W m) {x x1:Nat} (hx:w.heap.size≤x) (hx1:w.heap.size≤x1):Mv n base [x,x1] w m w W m:=((Mv.start h).add hx).add hx1
theorem subC {n:Nat} {m:MW} {w:World} {k:Nat} {vs:List Value}:ExtX (za3 n m) w (sto w m.cO k vs):=zh2 fun a ha=>z4b (by rw [ha]; simp [zau])
theorem subT {n:Nat} {m:MW} {w:World} {k:Nat} {vs:List Value}:ExtX (za3 n m) w (sto w m.tO k vs):=zh2 fun a ha=>z4c (by rw [ha]; simp [zau])
theorem subG {n:Nat} {m:MW} {w:World} {k:Nat} {vs:List Value}:ExtX (za3 n m) w (sto w m.gO k vs):=zh2 fun a ha=>z9u (by rw [ha]; simp [zau])
theorem subS {n:Nat} {m:MW} {w:World} {i k:Nat} {vs:List Value} (hi:i<n):ExtX (za3 n m) w (sto w (m.ms i).sO k vs):=zh2 fun a ha=>zjq hi (by simp [zah,zau,ha])
theorem subL {n:Nat} {m:MW} {w:World} {i k:Nat} {vs:List Value} (hi:i<n):ExtX (za3 n m) w (sto w (m.ms i).lO k vs):=zh2 fun a ha=>zjq hi (by simp [zah,zau,ha])
theorem subD {n:Nat} {m:MW} {w:World} {i k:Nat} {vs:List Value} (hi:i<n):ExtX (za3 n m) w (sto w (m.ms i).dO k vs):=zh2 fun a ha=>zjq hi (by simp [zah,zau,ha])
theorem wrC {n:Nat} {bs:List Nat} (h:MWd n base w W m) (hd:∀x∈za3 n m,x∉bs) {i:Int} (h0:0≤i) (h1:i<(W.cpus.length:Int)) {j k:Nat} (hj:j+k≤5):WrX bs w m.cO (Int.toNat i*5+j) k:=h.c.wr zda.len (fun b hb=>hd b (z4b hb)) h0 h1 hj
theorem wrT {n:Nat} {bs:List Nat} (h:MWd n base w W m) (hd:∀x∈za3 n m,x∉bs) {i:Int} (h0:0≤i) (h1:i<(W.tasks.length:Int)) {j k:Nat} (hj:j+k≤9):WrX bs w m.tO (Int.toNat i*9+j) k:=h.t.wr za6.len (fun b hb=>hd b (z4c hb)) h0 h1 hj
theorem wrG {n:Nat} {bs:List Nat} (h:MWd n base w W m) (hd:∀x∈za3 n m,x∉bs) {i:Int} (h0:0≤i) (h1:i<(n:Int)) {j k:Nat} (hj:j+k≤14):WrX bs w m.gO (Int.toNat i*14+j) k:=h.g.row.wr zcg.len (fun b hb=>hd b (z9u hb)) h0 (by rw [zfw,h.len]; exact h1) hj
theorem wrS {n:Nat} {bs:List Nat} (h:MWd n base w W m) (hd:∀x∈za3 n m,x∉bs) {i c:Int} (h0:0≤i) (h1:i<(n:Int)) (c0:0≤c) (c1:c<((gi W.groups i).shelves.length:Int)) {j k:Nat} (hj:j+k≤5):WrX bs w (m.ms i.toNat).sO (Int.toNat c*5+j) k :=
 (h.each h0 h1).shl.wr zbk.len (fun b hb=>hd b (zjq (k:=i.toNat) (by omega) (by simp [zah]; exact .inr (.inr hb)))) c0 c1 hj
theorem wrL {n:Nat} {bs:List Nat} (h:MWd n base w W m) (hd:∀x∈za3 n m,x∉bs) {i c:Int} (h0:0≤i) (h1:i<(n:Int)) (c0:0≤c) (c1:c<((gi W.groups i).band.locals.length:Int)) {j k:Nat} (hj:j+k≤1):WrX bs w (m.ms i.toNat).lO (Int.toNat c*1+j) k :=
 (h.each h0 h1).loc.wr zbt.len (fun b hb=>hd b (zjq (k:=i.toNat) (by omega) (by simp [zah]; exact .inl hb))) c0 c1 hj
theorem wrD {n:Nat} {bs:List Nat} (h:MWd n base w W m) (hd:∀x∈za3 n m,x∉bs) {i c:Int} (h0:0≤i) (h1:i<(n:Int)) (c0:0≤c) (c1:c<((gi W.groups i).band.dry.length:Int)) {j k:Nat} (hj:j+k≤1):WrX bs w (m.ms i.toNat).dO (Int.toNat c*1+j) k :=
 (h.each h0 h1).dry.wr zcj.len (fun b hb=>hd b (zjq (k:=i.toNat) (by omega) (by simp [zah]; exact .inr (.inl hb)))) c0 c1 hj
theorem zago {n:Nat} (h:MWd n base w W m) {c:Int} (c0:0≤c) (c1:c<(W.cpus.length:Int)) :
  (MWd n base (sto w m.cO (Int.toNat c*5+1) [.int .i64 (-1)]) { W with cpus:=W.cpus.set c.toNat { gi W.cpus c with cur := -1 } } m) ∧
  MWd n base (sto (sto w m.cO (Int.toNat c*5+1) [.int .i64 (-1)]) m.cO (Int.toNat c*5+2) [.int .i64 0]) (endW W c) m:=by
 have e1:=h.stoC c0 c1 (j:=1) (vs:=[.int .i64 (-1)]) (x:={ gi W.cpus c with cur := -1 }) rfl (by decide)
 refine ⟨e1,?_⟩
 have hg:gi (W.cpus.set c.toNat { gi W.cpus c with cur := -1 }) c={ gi W.cpus c with cur := -1 }:=by rw [zci _ _ c0 c1 c0,if_pos rfl]
 have e2:=e1.stoC c0 (by simpa using c1) (j:=2) (vs:=[.int .i64 0]) (x:=endC (gi W.cpus c)) (by rw [hg]; rfl) (by decide)
 rw [List.set_set] at e2
 exact e2
theorem zlw {n:Nat} (h:MWd n base w W m) {c:Int} (c0:0≤c) (c1:c<(W.cpus.length:Int)) :
  Calls Tryz.prog zfi #[.agg (encW W m).toArray,.int .i64 c] w fun e w'=>e = .returned (.agg (encW (endW W c) m).toArray)∧Mv n base [] w m w' (endW W c) m:=by
 refine (z83 W.now m.cO W.cpus.length m.cC m.tO W.tasks.length m.tC m.gO W.groups.length m.gC c (R:=fun v w'=>v = .agg (encW (endW W c) m).toArray∧Mv n base [] w m w' (endW W c) m) ?_).mono fun e w' ⟨v,he,hv,h3⟩=>⟨by rw [he,hv],h3⟩
 intro x hx x1 hx1
 obtain ⟨e1,e2⟩:=zago h c0 c1
 have hr:=h.rd (bs:=[]) (by simp)
 refine ⟨hr.c.ix zf2 c0 c1,wrC h (by simp) c0 c1 (by decide),hr.c.ix zf2 c0 c1,wrC e1 (by simp) c0 (by simpa using c1) (by decide),fun wr hx2=>⟨by simp [encW,endW,zaeg],((Mv.start h).deed e2 (subC.trans subC)).call0 hx2⟩⟩
theorem zamy {W:Wld} {g c:Int} {s:Shf}:setSh W g c s={ W with groups:=W.groups.set g.toNat { gi W.groups g with shelves:=(gi W.groups g).shelves.set c.toNat s } }:=rfl
theorem zfr {W W':Wld} {m:MW} (h:Fr W W'):encW W' m=encW W m:=by
 simp only [encW,h.n,h.c,h.t,h.g.len]
theorem zaj6 {gs:List Grp} (ht:zei gs) {k:Int} (hu:zad gs k=true):zoz (gs.length+1) gs k 0=dep 3 gs k:=by
 have hp:∀g:Int,g≠0→zad gs g=true→zad gs (gi gs g).parent=true:=fun g hz hu=>(zgy ht hu hz).1
 have hd:0≤dep 3 gs k∧dep 3 gs k≤3:=by
  by_cases hz:k=0
  ·subst hz; rw [zgz]; omega
  ·obtain ⟨_,_,_,d,e,_,hd⟩:=zgy ht hu hz
   omega
 have hm:=zsc gs 3 gs.length k hd.1 (by rw [ht.len]; omega)
 rw [zxf hp _ _ _ hu,hm,if_neg (by omega)]
 omega
theorem z61 {F K:Int} {n:Nat} (hsw:SF F K W) (h:MWd n base w W m) (hk:F+lagB≤K) {k c:Int} (hu:zad W.groups k=true) (hn:n=8) (c0:0≤c) (c1:c<(W.cpus.length:Int)) (s:Shf) :
  MWd n base (sto w (m.ms k.toNat).sO (Int.toNat c*5) (encS s)) (setSh W k c s) m:=by
 obtain ⟨u0,u1,_⟩:=zac.1 hu
 have hl:=hsw.w.a.gl
 have hs:=hsw.w.a.sl hu
 exact h.stoS u0 (by omega) c0 (by omega) (j:=0) (vs:=encS s) (x:=s) (by simp [encS]) (by simp [encS])
set_option maxHeartbeats 1000000 in
theorem zqh {F K:Int} (h:MWd 8 base w W m) (hsw:SF F K W) (hk:F+lagB≤K) (hK:K≤1000000000000000000) {c:Int} (c0:0≤c) (c1:c<(W.cpus.length:Int)) :
  Calls Tryz.prog zhp #[.agg (encW W m).toArray,.int .i64 c] w fun e w'=>e = .returned (.agg (encW W m).toArray)∧Mv 8 base [] w m w' (za7 W c) m:=by
 refine (z2f W.now m.cO W.cpus.length m.cC m.tO W.tasks.length m.tC m.gO W.groups.length m.gC c (R:=fun v w'=>v = .agg (encW W m).toArray∧Mv 8 base [] w m w' (za7 W c) m) ?_).mono fun e w' ⟨v,he,hv,h3⟩=>⟨by rw [he,hv],h3⟩
 intro x hx x1 hx1
 have hgl:=hsw.w.a.gl
 refine ⟨fun vs w1=>∃(j:Nat),vs=[.int .i64 (3 - (j:Int))]∧j≤3∧Mv 8 base [x,x1] w m w1 (zgt W c j) m,
  fun vs _=>(zcw 0 vs).toNat,fun wr hx0 _=>⟨0,rfl,by decide,(Mv.two h hx hx1).call0 hx0⟩,?_⟩
 rintro d wv hs ⟨j,he,j3,hM⟩
 obtain ⟨hS,hO⟩:=zsr hsw hk c0 c1 j j3
 have hN:zgt W c (j+1)=zdj (zgt W c j) c (3 - (j:Int)) 8:=rfl
 have hE:j=3→zgt W c j=za7 W c:=fun e=>by rw [e]; rfl
 generalize zgt W c j=W1 at hM hS hO hN hE
 simp only [List.cons.injEq,Value.int.injEq,true_and,and_true] at he
 refine ⟨fun hd => ?_,fun hd => ?_⟩
 ·have hd:=of_decide_eq_true hd
  have c1':c<(W1.cpus.length:Int):=by rw [hO.c]; exact c1
  refine zd6 W.groups.length 1 rfl (fun k w2=>1≤k∧k≤8∧Mv 8 base [x,x1] w m w2 (zdj W1 c d k) m) (fun w2 hx2 _=>⟨Nat.le_refl _,by decide,?_⟩) fun k w2 hs2 ⟨hk1,hk8,hM2⟩ => ?_
  ·have e:zdj W1 c d 1=W1:=zagb (by omega)
   rw [e]
   exact hM.step hx2
  obtain ⟨hS2,hO2⟩:=zxg hS hk (c:=c) (d:=d) (by omega) c0 c1' k hk8
  have hf2:=hO.trans hO2
  have e0:encW (zdj W1 c d k) m=encW W m:=zfr hf2.fr
  have hr:=hM2.rd
  have hgl2:(zdj W1 c d k).groups.length=W.groups.length:=hf2.g.len
  have hcl2:(zdj W1 c d k).cpus.length=W.cpus.length:=by rw [hf2.c]
  have hdef:zdj W1 c d (k+1)=if (gi (zdj W1 c d k).groups (k:Int)).used=true∧dep 3 (zdj W1 c d k).groups (k:Int)=d then setSh (zdj W1 c d k) (k:Int) c (zez (zdj W1 c d k) (k:Int) c) else zdj W1 c d k:=rfl
  have hN8:k=8→zgt W c (j+1)=zdj W1 c d k:=fun e=>by rw [hN,←he,e]
  generalize zdj W1 c d k=W2 at hM2 hS2 hO2 hf2 e0 hr hgl2 hcl2 hdef hN8
  refine ⟨fun hlt => ?_,fun hge => ?_⟩
  ·have hlt:=of_decide_eq_true hlt
   have hlt2:(k:Int)<(W2.groups.length:Int):=by omega
   have hdp:=zqg (g:=(k:Int)) (c:=m.gC) hr.g (by have:=zbh; omega)
   rw [hgl2] at hdp
   refine ⟨by have:=hr.g.ix (i:=(k:Int)) (by omega) hlt2; rwa [hgl2] at this,(gi W2.groups (k:Int)).used,hr.g.used (by omega) hlt2,_,fun _=>hdp,fun g => ?_,fun g => ?_⟩
   ·refine ⟨⟨by omega,by omega⟩,fun w3 hx3 _=>zae (by omega) ⟨by omega,by omega,?_⟩⟩
    rw [hdef,if_neg]
    ·exact hM2.step hx3
    ·rintro ⟨h1,h2⟩
     have hu:zad W2.groups (k:Int)=true:=zac.2 ⟨by omega,hlt2,h1⟩
     have:=zaj6 hS2.w.a.tree hu
     rw [hgl2] at this
     rw [this,h1,h2] at g
     simp at g
   ·simp only [Bool.or_eq_false_iff,Bool.not_eq_false',bne_eq_false_iff_eq] at g
    have hu:zad W2.groups (k:Int)=true:=zac.2 ⟨by omega,hlt2,g.1⟩
    have hdk:=zaj6 hS2.w.a.tree hu
    rw [hgl2,g.2] at hdk
    rw [if_pos ⟨g.1,hdk.symm⟩] at hdef
    have hsl:=hS2.w.a.sl hu
    have hz:(k:Int)≠0:=by omega
    have hp:=hS2.w.a.up hu hz
    obtain ⟨p0,p1,_⟩:=zac.1 hp
    have hpl:=hS2.w.a.sl hp
    have s1:=hS2.w.s _ c hu c0 (by omega)
    have s2:=hS2.w.s _ c hp c0 (by omega)
    have lc:=zdi ((shf W2 (k:Int) c).v - (shf W2 (gi W2.groups (k:Int)).parent c).floor) (shf W2 (k:Int) c).w
    have lm:=zcm (shf W2 (k:Int) c).w
    have hix:Ix m.gO W.groups.length (k:Int):=by have:=hr.g.ix (i:=(k:Int)) (by omega) hlt2; rwa [hgl2] at this
    have hixS:=(hr.g.shelves (k:Int) (by omega) hlt2).ix zej c0 (by omega)
    have hact:=zk9 (g:=(k:Int)) hr hS2.w.a c0 (by omega)
    have hdry:=zow (g:=(k:Int)) hr hS2.w.a hu c0 (by omega)
    rw [e0] at hact hdry
    have hset:=fun s=>z61 hS2 hM2.own hk hu rfl c0 (c:=c) (by omega) s
    have hsub:∀{vs:List Value},ExtX (za3 8 m) w2 (sto w2 (m.ms k).sO (Int.toNat c*5) vs):=fun {vs}=>subS (by omega)
    have hwr:=wrS hM2.own hM2.nb (i:=(k:Int)) (by omega) (by omega) c0 (by omega) (j:=0) (k:=5) (by decide)
    simp only [Int.toNat_natCast] at hset hwr hixS
    refine ⟨hix,_,_,_,hr.g.shelf (by omega) hlt2,hixS,_,_,_,_,_,(hr.g.shelves (k:Int) (by omega) hlt2) c c0 (by omega),fun b2 hb2=>⟨zbe W2 (k:Int) c,hact,dryD W2 (k:Int) c,fun _=>hdry,fun g2 => ?_,fun g2 => ?_⟩⟩
    ·have hss:zez W2 (k:Int) c=⟨(shf W2 (k:Int) c).floor,zbe W2 (k:Int) c && !dryD W2 (k:Int) c,(shf W2 (gi W2.groups (k:Int)).parent c).floor+zc5 ((shf W2 (k:Int) c).v - (shf W2 (gi W2.groups (k:Int)).parent c).floor) (shf W2 (k:Int) c).w,(shf W2 (k:Int) c).w,(shf W2 (k:Int) c).sum⟩:=by
      unfold zez
      rw [if_pos]
      simpa [shf] using g2
     have hset:=hset (zez W2 (k:Int) c)
     rw [hss] at hset
     have hpix:Ix m.gO W.groups.length (gi W2.groups (k:Int)).parent:=by have:=hr.g.ix p0 p1; rwa [hgl2] at this
     refine ⟨hix,_,hr.g.parent (by omega) hlt2,hpix,_,_,_,hr.g.shelf p0 p1,(hr.g.shelves _ p0 p1).ix zej c0 (by omega),_,RdS.f (hr.g.shelves _ p0 p1) c0 (by omega) (j:=0) rfl,⟨by show _≤(shf W2 (k:Int) c).v - (shf W2 (gi W2.groups (k:Int)).parent c).floor; omega,by show (shf W2 (k:Int) c).v - (shf W2 (gi W2.groups (k:Int)).parent c).floor≤_; omega⟩,_,znw,⟨?_,?_⟩,hix,_,_,_,hr.g.shelf (by omega) hlt2,hixS,hwr,⟨by omega,by omega⟩,fun w3 hx3 _=>zae (by omega) ⟨by omega,by omega,?_⟩⟩
     ·show -9223372036854775808≤(shf W2 (gi W2.groups (k:Int)).parent c).floor+zc5 ((shf W2 (k:Int) c).v - (shf W2 (gi W2.groups (k:Int)).parent c).floor) (shf W2 (k:Int) c).w
      omega
     ·show (shf W2 (gi W2.groups (k:Int)).parent c).floor+zc5 ((shf W2 (k:Int) c).v - (shf W2 (gi W2.groups (k:Int)).parent c).floor) (shf W2 (k:Int) c).w≤9223372036854775807
      omega
     ·rw [hdef,hss]
      exact (hM2.deed hset hsub).step hx3
    ·have hss:zez W2 (k:Int) c=⟨(shf W2 (k:Int) c).floor,zbe W2 (k:Int) c && !dryD W2 (k:Int) c,(shf W2 (k:Int) c).v,(shf W2 (k:Int) c).w,(shf W2 (k:Int) c).sum⟩:=by
      unfold zez
      rw [if_neg]
      intro h1
      rw [h1.1,show (gi (gi W2.groups (k:Int)).shelves c).on=false from h1.2] at g2
      cases g2
     have hset:=hset (zez W2 (k:Int) c)
     rw [hss] at hset
     refine ⟨hix,_,_,_,hr.g.shelf (by omega) hlt2,hixS,hwr,⟨by omega,by omega⟩,fun w3 hx3 _=>zae (by omega) ⟨by omega,by omega,?_⟩⟩
     rw [hdef,hss]
     exact (hM2.deed hset hsub).step hx3
  ·have hge:=of_decide_eq_false hge
   have hN8:=hN8 (by omega)
   refine ⟨⟨by omega,by omega⟩,fun w3 hx3 _=>⟨⟨j+1,?_,by omega,?_⟩,?_⟩⟩
   ·rw [show d - 1=3 - ((j+1:Nat):Int) by omega]
   ·rw [hN8]
    exact hM2.step hx3
   ·show (d - 1).toNat<d.toNat
    omega
 ·have hd:=of_decide_eq_false hd
  rw [←hE (by omega)]
  exact fun w2 hx2=>⟨rfl,(hM.step hx2).close⟩
end
end Go.Proofs.YtajdcjidpolloaaGreatDoor
namespace Go.Proofs.YtajdcjidpolloaaGreatDoor
open Go.RowKit
set_option linter.unusedVariables false
set_option linter.unusedSimpArgs false
set_option maxRecDepth 10000
theorem zag4 {n:Nat} {m:MW} {i:Nat} {p:MG}:∀x∈za3 n (setM m i p),x∈za3 n m∨x∈zah p:=fun x hx=>by
 rcases z09 hx with h | h | h | ⟨k,hk,h⟩
 ·exact .inl (z4b h)
 ·exact .inl (z4c h)
 ·exact .inl (z9u h)
 ·simp only [setM] at h
  split at h
  ·exact .inr h
  ·exact .inl (zjq hk h)
theorem Mv.swap {n base:Nat} {bs:List Nat} {w0 w w':World} {W W':Wld} {m0 m m':MW} (h:Mv n base bs w0 m0 w W m) (k:MWd n base w' W' m') (hx:ExtX (za3 n m) w w') (hm:m'={ m with ms:=m'.ms })
  (hsub:∀x∈za3 n m',x∈za3 n m∨(w0.heap.size≤x∧x∉bs)):Mv n base bs w0 m0 w' W' m' :=
 ⟨k,h.ext.fresh hx fun x hm=>(h.sub x hm).symm,fun x hx=>by
  rcases hsub x hx with h1 | h1
  ·exact h.sub x h1
  ·exact .inr h1.1,by rw [hm,h.hd],fun x hx=>by
  rcases hsub x hx with h1 | h1
  ·exact h.nb x h1
  ·exact h1.2,h.new⟩
section
variable {base:Nat} {W:Wld} {m:MW} {w:World}
theorem zzw {K:Int} (h:MWd 8 base w W m) (hsw:SW K W) (hK:0≤K) {c:Int} (c0:0≤c) (c1:c<(W.cpus.length:Int)) :
  Calls Tryz.prog zjg #[.agg (encW W m).toArray,.int .i64 c] w fun e w'=>e = .returned (.agg (encW W m).toArray)∧Mv 8 base [] w m w' (zbx W c) m:=by
 refine (zzc W.now m.cO W.cpus.length m.cC m.tO W.tasks.length m.tC m.gO W.groups.length m.gC c (R:=fun v w'=>v = .agg (encW W m).toArray∧Mv 8 base [] w m w' (zbx W c) m) ?_).mono fun e w' ⟨v,he,hv,h3⟩=>⟨by rw [he,hv],h3⟩
 intro x hx x1 hx1
 have hgl:=hsw.a.gl
 refine zd6 W.groups.length 0 rfl (fun k w2=>k≤8∧Mv 8 base [x,x1] w m w2 (zay W c k) m) (fun w2 hx2 _=>⟨by decide,(Mv.two h hx hx1).call0 hx2⟩) fun k w2 hs2 ⟨hk8,hM2⟩ => ?_
 obtain ⟨hS2,hO2⟩:=zm7 hsw hK c0 c1 k hk8
 have e0:encW (zay W c k) m=encW W m:=zfr hO2.fr
 have hr:=hM2.rd
 have hgl2:(zay W c k).groups.length=W.groups.length:=hO2.g.len
 have hcl2:(zay W c k).cpus.length=W.cpus.length:=by rw [hO2.c]
 have hdef:zay W c (k+1)=if (gi (zay W c k).groups (k:Int)).used=true∧zd0 (zay W c k) (k:Int) c 20=true∧zb0 (zay W c k) (k:Int) c 20>(shf (zay W c k) (k:Int) c).floor then setSh (zay W c k) (k:Int) c (zzk (zay W c k) (k:Int) c) else zay W c k:=rfl
 have hN8:k=8→zbx W c=zay W c k:=fun e=>by rw [e]; rfl
 generalize zay W c k=W2 at hM2 hS2 hO2 e0 hr hgl2 hcl2 hdef hN8
 refine ⟨fun hlt => ?_,fun hge => ?_⟩
 ·have hlt:=of_decide_eq_true hlt
  have hlt2:(k:Int)<(W2.groups.length:Int):=by omega
  have hix:Ix m.gO W.groups.length (k:Int):=by have:=hr.g.ix (i:=(k:Int)) (by omega) hlt2; rwa [hgl2] at this
  refine ⟨hix,(gi W2.groups (k:Int)).used,hr.g.used (by omega) hlt2,fun g => ?_,fun g => ?_⟩
  ·refine ⟨⟨by omega,by omega⟩,fun w3 hx3 _=>zae (by omega) ⟨by omega,?_⟩⟩
   rw [hdef,if_neg (fun h1=>by rw [h1.1] at g; cases g)]
   exact hM2.step hx3
  ·have g:(gi W2.groups (k:Int)).used=true:=by simpa using g
   have hu:zad W2.groups (k:Int)=true:=zac.2 ⟨by omega,hlt2,g⟩
   have hsl:=hS2.a.sl hu
   have hle:=z2v (g:=(k:Int)) hr hS2.a c0 (by omega)
   rw [e0] at hle
   have hss:=hr.g.shelves (k:Int) (by omega) hlt2
   have hixS:=hss.ix zej c0 (by omega)
   have hwr:=wrS hM2.own hM2.nb (i:=(k:Int)) (by omega) (by omega) c0 (by omega) (j:=0) (k:=1) (by decide)
   have hset:=hM2.own.stoS (i:=(k:Int)) (by omega) (by omega) c0 (by omega) (j:=0) (vs:=[.int .i64 (zb0 W2 (k:Int) c 20)]) (x:=zzk W2 (k:Int) c) rfl (by simp)
   rw [←zamy] at hset
   have hsub:ExtX (za3 8 m) w2 (sto w2 (m.ms k).sO (Int.toNat c*5+0) [.int .i64 (zb0 W2 (k:Int) c 20)]):=subS (by omega)
   simp only [Int.toNat_natCast] at hwr hixS hset
   refine ⟨_,_,hle,fun _=>hix,_,_,_,fun _=>hr.g.shelf (by omega) hlt2,fun _=>hixS,_,fun _=>RdS.f hss c0 (by omega) (j:=0) rfl,fun g2 => ?_,fun g2 => ?_⟩
   ·refine ⟨hix,_,_,_,hr.g.shelf (by omega) hlt2,hixS,hwr,⟨by omega,by omega⟩,fun w3 hx3 _=>zae (by omega) ⟨by omega,?_⟩⟩
    rw [hdef,if_pos ⟨g,by simpa [shf] using g2⟩]
    exact (hM2.deed hset hsub).step hx3
   ·refine ⟨⟨by omega,by omega⟩,fun w3 hx3 _=>zae (by omega) ⟨by omega,?_⟩⟩
    rw [hdef,if_neg]
    ·exact hM2.step hx3
    ·rintro ⟨_,h1,h2⟩
     rw [h1,show decide (zb0 W2 (k:Int) c 20>(gi (gi W2.groups (k:Int)).shelves c).floor)=true from decide_eq_true h2] at g2
     cases g2
 ·have hge:=of_decide_eq_false hge
  rw [hN8 (by omega)]
  exact fun w3 hx3=>⟨rfl,(hM2.step hx3).close⟩
theorem RdG.locs {bs:List Nat} {w:World} {gs:List Grp} {ms:Nat→MG} {o:Option Addr} (h:RdG bs w o gs ms) {i:Int} (h0:0≤i) (h1:i<(gs.length:Int)):zaa bs w o (Int.toNat i*14+8+3) [.slice (ms i.toNat).lO (gi gs i).band.locals.length (ms i.toNat).lC]:=(h.cells i h0 h1).get 11 _ rfl
theorem RdG.quo {bs:List Nat} {w:World} {gs:List Grp} {ms:Nat→MG} {o:Option Addr} (h:RdG bs w o gs ms) {i:Int} (h0:0≤i) (h1:i<(gs.length:Int)):zaa bs w o (Int.toNat i*14+8+0) [.int .i64 (gi gs i).band.quota]:=(h.cells i h0 h1).get 8 _ rfl
def putM (m:MG) (p:MG):MG:=⟨p.lO,p.lC,p.dO,p.dC,m.sO,m.sC⟩
theorem zaab {m p:MG}:∀x∈zah (putM m p),x∈zgr p∨x∈zah m:=fun x hx=>by
 simp only [zah,putM,zgr,List.mem_append] at hx ⊢
 rcases hx with (h | h) | h
 ·exact .inl (.inl h)
 ·exact .inl (.inr h)
 ·exact .inr (.inr h)
theorem MWd.putB {n:Nat} (h:MWd n base w W m) {i:Int} (h0:0≤i) (hi:i<(n:Int)) {b:Bnd} {p:MG} (hb:zc9 base w b p) (hn:∀x∈zgr p,x∉za3 n m) :
  MWd n base (sto w m.gO (Int.toNat i*14+8) (zcx b p)) (setBd W i b) (setM m i.toNat (putM (m.ms i.toNat) p)):=by
 have hm:=h.each h0 hi
 refine h.stoG h0 hi (g:={ gi W.groups i with band:=b }) (p:=putM (m.ms i.toNat) p) ⟨hb.loc,hb.dry,hm.shl⟩ (fun x hx => ?_) rfl (by simp [zcx])
 rcases zaab x hx with h1 | h1
 ·exact .inl (hn x h1)
 ·exact .inr h1
set_option maxHeartbeats 1000000 in
theorem z6y {F K:Int} (h:MWd 8 base w W m) (hsw:SF F K W) (hbase:base≤w.heap.size) :
  Calls Tryz.prog zml #[.agg (encW W m).toArray] w fun e w'=>∃m',e = .returned (.agg (encW W m).toArray)∧Mv 8 base [] w m w' (zzm W) m':=by
 refine (z6b W.now m.cO W.cpus.length m.cC m.tO W.tasks.length m.tC m.gO W.groups.length m.gC (R:=fun v w'=>∃m',v = .agg (encW W m).toArray∧Mv 8 base [] w m w' (zzm W) m') ?_).mono fun e w' ⟨v,he,m',hv,h3⟩=>⟨m',by rw [he,hv],h3⟩
 intro x hx x1 hx1
 have hgl:=hsw.w.a.gl
 have hcl4:=hsw.w.a.c2
 have hnew:=z71 hx hx1
 refine zd6 W.groups.length 0 rfl (fun k w2=>k≤8∧∃m2,Mv 8 base [x,x1] w m w2 (ze6 W k) m2) (fun w2 hx2 _=>⟨by decide,m,(Mv.two h hx hx1).call0 hx2⟩) fun k w2 hs2 ⟨hk8,m2,hM2⟩ => ?_
 obtain ⟨hS2,hO2⟩:=zpg hsw k hk8
 have hgl2:(ze6 W k).groups.length=W.groups.length:=hO2.g.len
 have hcl2:(ze6 W k).cpus.length=W.cpus.length:=by rw [hO2.c]
 have hdef:ze6 W (k+1)=if (gi (ze6 W k).groups (k:Int)).used=true∧(gi (ze6 W k).groups (k:Int)).band.quota≠0 then zd4 (ze6 W k) (k:Int) (ze6 W k).cpus.length else ze6 W k:=rfl
 have hN8:k=8→zzm W=ze6 W k:=fun e=>by rw [e]; rfl
 generalize ze6 W k=W2 at hM2 hS2 hO2 hgl2 hcl2 hdef hN8
 have hmg:m2.gO=m.gO:=by rw [hM2.hd]
 have hr:=hM2.rd
 refine ⟨fun hlt => ?_,fun hge => ?_⟩
 ·have hlt:=of_decide_eq_true hlt
  have hlt2:(k:Int)<(W2.groups.length:Int):=by omega
  have hix:Ix m.gO W.groups.length (k:Int):=by have:=hr.g.ix (i:=(k:Int)) (by omega) hlt2; rwa [hgl2,hmg] at this
  have hru:=hr.g.used (i:=(k:Int)) (by omega) hlt2
  have hrq:=hr.g.quo (i:=(k:Int)) (by omega) hlt2
  rw [hmg] at hru hrq
  refine ⟨hix,(gi W2.groups (k:Int)).used,hru,fun _=>hix,_,fun _=>hrq,fun g => ?_,fun g => ?_⟩
  ·refine ⟨⟨by omega,by omega⟩,fun w3 hx3 _=>zae (by omega) ⟨by omega,m2,?_⟩⟩
   rw [hdef,if_neg]
   ·exact hM2.step hx3
   ·rintro ⟨h1,h2⟩
    rw [h1] at g
    simp [h2] at g
  ·simp only [Bool.or_eq_false_iff,Bool.not_eq_false',beq_eq_false_iff_ne] at g
   have hu:zad W2.groups (k:Int)=true:=zac.2 ⟨by omega,hlt2,g.1⟩
   rw [if_pos ⟨g.1,g.2⟩] at hdef
   refine zd6 W.cpus.length 0 rfl (fun c w3=>c≤W.cpus.length∧∃m3,Mv 8 base [x,x1] w m w3 (zd4 W2 (k:Int) c) m3) (fun w3 hx3 _=>⟨Nat.zero_le _,m2,hM2.step hx3⟩) fun c w3 hs3 ⟨hc,m3,hM3⟩ => ?_
   obtain ⟨hS3,hO3,hq3⟩:=zxd hS2 hu g.2 c (by omega)
   have hgl3:(zd4 W2 (k:Int) c).groups.length=W.groups.length:=by rw [hO3.g.len,hgl2]
   have hcl3:(zd4 W2 (k:Int) c).cpus.length=W.cpus.length:=by rw [hO3.c,hcl2]
   have hdef3:zd4 W2 (k:Int) (c+1)=if gi (gi (zd4 W2 (k:Int) c).groups (k:Int)).band.locals (c:Int)>0∧zbe (zd4 W2 (k:Int) c) (k:Int) (c:Int)=false then setBd (zd4 W2 (k:Int) c) (k:Int) (zf9 (gi (zd4 W2 (k:Int) c).groups (k:Int)).band (c:Int)) else zd4 W2 (k:Int) c:=rfl
   have hN3:c=W.cpus.length→ze6 W (k+1)=zd4 W2 (k:Int) c:=fun e=>by rw [hdef,hcl2,e]
   have e3:encW (zd4 W2 (k:Int) c) m3=encW W m:=hM3.encW_eq (by rw [hO3.n,hO2.n]) hcl3 (by rw [hO3.t,hO2.t]) hgl3
   have hu3:zad (zd4 W2 (k:Int) c).groups (k:Int)=true:=by rw [hO3.g.usd]; exact hu
   generalize zd4 W2 (k:Int) c=W3 at hM3 hS3 hO3 hq3 hgl3 hcl3 hdef3 hN3 e3 hu3
   have hmg3:m3.gO=m.gO:=by rw [hM3.hd]
   have hr3:=hM3.rd
   refine ⟨fun hlt3 => ?_,fun hge3 => ?_⟩
   ·have hlt3:=of_decide_eq_true hlt3
    obtain ⟨u0,u1,hgu⟩:=hS3.w.a.u hu3
    obtain ⟨hb,hbl,_⟩:=hgu.band hq3
    have hklt:(k:Int)<(W3.groups.length:Int):=by omega
    have hrl:=hr3.g.locs (i:=(k:Int)) (by omega) hklt
    have hrb:=hr3.g.band (i:=(k:Int)) (by omega) hklt
    rw [hmg3] at hrl hrb
    have hLo:=hr3.g.locals (k:Int) (by omega) hklt
    have hDo:=hr3.g.dry (k:Int) (by omega) hklt
    have hact:=zk9 (g:=(k:Int)) (c:=(c:Int)) hr3 hS3.w.a (by omega) (by omega)
    rw [e3] at hact
    refine ⟨hix,_,_,_,hrl,hLo.ix zgs (by omega) (by omega),_,hLo (c:Int) (by omega) (by omega),_,fun _=>hact,fun g3 => ?_,fun g3 => ?_⟩
    ·simp only [Bool.and_eq_true,decide_eq_true_eq,Bool.not_eq_true'] at g3
     rw [if_pos g3] at hdef3
     refine ⟨hix,_,_,_,_,_,_,_,_,_,hrb,fun wr3 hx3 hs4 => ?_⟩
     have hM4:=hM3.step hx3
     have hr4:=hM4.rd0
     refine Calls.mono (z6s (op:=⟨3,(c:Int),0⟩) hb (hr4.g.locals (k:Int) (by omega) hklt) (hr4.g.dry (k:Int) (by omega) hklt)) ?_
     rintro e wv2 ⟨p,he,hO,hy⟩
     have hbd:zfp (gi W3.groups (k:Int)).band ⟨3,(c:Int),0⟩=(zf9 (gi W3.groups (k:Int)).band (c:Int),0):=by
      unfold zfp
      rw [if_neg (show ¬(3:Int)=4 by decide),if_neg (by rw [za0.2 (by show 0≤(c:Int)∧(c:Int)≤_; omega)]; decide),if_neg (show ¬(3:Int)=1 by decide),if_neg (show ¬(3:Int)=2 by decide),if_pos rfl]
     rw [hbd] at he hO
     dsimp only at he hO
     have hM5:=hM4.call0 hy
     have hbs:base≤wr3.heap.size:=by have:=hM4.ext.size; omega
     have hOb:∀y∈zgr p,wr3.heap.size≤y:=fun y hy=>(hO.lt y hy).1
     have hput:=hM5.own.putB (i:=(k:Int)) (by omega) (by omega) (hO.mono hbs) (fun y hy hm=>by have:=hOb y hy; have:=(hM4.own.lt y hm).2; omega)
     have hwr:=wrG hM5.own hM5.nb (i:=(k:Int)) (by omega) (by omega) (j:=8) (k:=5) (by decide)
     have hsz:=hM4.ext.size
     have hM6:=hM5.swap hput subG rfl fun y hy=>by
      rcases zag4 y hy with h1 | h1
      ·exact .inl h1
      ·rcases zaab y h1 with h2 | h2
       ·have:=hOb y h2
        exact .inr ⟨by omega,fun hm=>by have:=hs4 y hm; omega⟩
       ·exact .inl (zjq (by omega) h2)
     rw [hmg3] at hwr hM6
     refine ⟨_,_,_,_,_,_,_,_,_,_,he,za9 hy hs4,fun b2 hb2=>⟨hix,hwr,⟨by omega,by omega⟩,fun w5 hx5 _=>zae (w1:=w3) (by omega) ⟨by omega,setM m3 (Int.toNat (k:Int)) (putM (m3.ms (Int.toNat (k:Int))) p),?_⟩⟩⟩
     rw [hdef3]
     exact hM6.step hx5
    ·refine ⟨⟨by omega,by omega⟩,fun w5 hx5 _=>zae (by omega) ⟨by omega,m3,?_⟩⟩
     rw [hdef3,if_neg]
     ·exact hM3.step hx5
     ·rintro ⟨h1,h2⟩
      rw [h2,decide_eq_true h1] at g3
      cases g3
   ·have hge3:=of_decide_eq_false hge3
    refine ⟨⟨by omega,by omega⟩,fun w5 hx5 _=>zae (by omega) ⟨by omega,m3,?_⟩⟩
    rw [hN3 (by omega)]
    exact hM3.step hx5
 ·have hge:=of_decide_eq_false hge
  rw [hN8 (by omega)]
  exact fun w3 hx3=>⟨m2,rfl,(hM2.step hx3).close⟩
end
end Go.Proofs.YtajdcjidpolloaaGreatDoor
namespace Go.Proofs.YtajdcjidpolloaaGreatDoor
open Go.RowKit
set_option linter.unusedVariables false
set_option linter.unusedSimpArgs false
set_option maxRecDepth 10000
section
variable {base:Nat} {W:Wld} {m:MW} {w:World}
theorem zsi {W W':Wld} (h:Fr W W'):W'.cpus.length=W.cpus.length∧W'.tasks.length=W.tasks.length∧W'.groups.length=W.groups.length:=⟨h.c,by rw [h.t],h.g.len⟩
theorem zafk {n:Nat} {bs:List Nat} {w0 w:World} {W0 W:Wld} {m0 m:MW} (h:Mv n base bs w0 m0 w W m) (hf:Fr W0 W):encW W m=encW W0 m0:=h.encW_eq hf.n hf.c (by rw [hf.t]) hf.g.len
set_option maxHeartbeats 1000000 in
theorem zoy {K:Int} (h:MWd 8 base w W m) (hsw:SW K W) (hK0:0≤K) (hK:K≤100000000000000000) (hbase:base≤w.heap.size) :
  Calls Tryz.prog zgi #[.agg (encW W m).toArray] w fun e w'=>∃m',e = .returned (.agg (encW (zce W) m').toArray)∧Mv 8 base [] w m w' (zce W) m':=by
 refine (zzd W.now m.cO W.cpus.length m.cC m.tO W.tasks.length m.tC m.gO W.groups.length m.gC (R:=fun v w'=>∃m',v = .agg (encW (zce W) m').toArray∧Mv 8 base [] w m w' (zce W) m') ?_).mono fun e w' ⟨v,he,m',hv,h3⟩=>⟨m',by rw [he,hv],h3⟩
 intro x hx x1 hx1
 have hgl:=hsw.a.gl
 have hcl4:=hsw.a.c2
 have hm9:=zbh
 refine ⟨fun vs w1=>∃(k:Nat),vs = .int .i64 (k:Int)::encW W m∧k≤W.cpus.length∧Mv 8 base [x,x1] w m w1 (ze3 W k) m,zcv W.cpus.length 0,fun w1 hx0 _=>⟨0,rfl,Nat.zero_le _,(Mv.two h hx hx1).call0 hx0⟩,?_⟩
 rintro c1 l l1O l1L l1C l2O l2L l2C l3O l3L l3C wv2 hs2 ⟨k,he,hk,hM⟩
 obtain ⟨hS,hO⟩:=zo0 (F:=K) (K:=K+lagB) (hsw.sf.mono (Int.le_refl _) (by simp only [lagB]; omega)) (Int.le_refl _) k hk
 have hdef:ze3 W (k+1)=za7 (ze3 W k) (k:Int):=rfl
 have hend:k=W.cpus.length→ze3 W W.cpus.length=ze3 W k:=fun e=>by rw [e]
 have e0:=zafk hM hO.fr
 obtain ⟨n1,n2,n3⟩:=zsi hO.fr
 simp only [encW,List.cons.injEq,Value.int.injEq,Value.slice.injEq,true_and,and_true] at he
 obtain ⟨rfl,rfl,⟨rfl,rfl,rfl⟩,⟨rfl,rfl,rfl⟩,rfl,rfl,rfl⟩:=he
 generalize ze3 W k=W1 at hM hS hO hdef hend e0 n1 n2 n3
 refine ⟨fun hlt wr3 hx3 hs3 => ?_,fun hge wr5 hx5 hs5 => ?_⟩
 ·have hlt:=of_decide_eq_true hlt
  have hM3:=hM.step hx3
  have hcall:=zqh hM3.own hS (by omega) (by simp only [lagB]; omega) (c:=(k:Int)) (by omega) (by omega)
  rw [e0] at hcall
  refine Calls.mono hcall ?_
  rintro e wv3 ⟨he,hy⟩
  refine ⟨_,_,_,_,_,_,_,_,_,_,he,hM3.kept hy hs3,⟨by omega,by omega⟩,fun wr4 hx4 _=>⟨⟨k+1,rfl,by omega,?_⟩,?_⟩⟩
  ·rw [hdef]
   exact (hM3.call hy hs3).step hx4
  ·simp only [zcv,cntM,zcw,List.getElem?_cons_zero]; omega
 ·have hge:=of_decide_eq_false hge
  have hkk:k=W.cpus.length:=by omega
  have hend:=hend hkk
  have hM5:=hM.step hx5
  have hb5:base≤wr5.heap.size:=by have:=hM5.ext.size; omega
  have hcall:=z6y hM5.own hS hb5
  rw [e0] at hcall
  refine Calls.mono hcall ?_
  rintro e2 wv4 ⟨m4,he2,hy2⟩
  obtain ⟨hS4,hO4⟩:=zpg hS 8 (by decide)
  have hM6:=hM5.call hy2 hs5
  have hset:zce W=zlg (zzm W1) W.cpus.length:=by unfold zce; rw [hend]
  have hf4:Fr W (zzm W1):=hO.fr.trans hO4.fr
  have hS4':SW (K+lagB) (zzm W1):=hS4.w
  have hlen4:=zsi hf4
  generalize zzm W1=W4 at hM6 hset hf4 hS4' hlen4
  refine ⟨_,_,_,_,_,_,_,_,_,_,he2,hM5.kept hy2 hs5,fun vs w1=>∃(k:Nat) (m1:MW),vs = .int .i64 (k:Int)::encW W m∧k≤W.cpus.length∧Mv 8 base [x,x1] w m w1 (zlg W4 k) m1,zcv W.cpus.length 0,fun w1 hx0 _=>⟨0,m4,rfl,Nat.zero_le _,hM6.step hx0⟩,?_⟩
  rintro c3 l l1O l1L l1C l2O l2L l2C l3O l3L l3C wv7 hs7 ⟨k,m7,he,hk,hM7⟩
  obtain ⟨hS7,hf7⟩:=zxm hS4' (by simp only [lagB]; omega) k (by omega)
  have hdef7:zlg W4 (k+1)=zta (zlg W4 k) (k:Int):=rfl
  have hend7:k=W.cpus.length→zce W=zlg W4 k:=fun e=>by rw [hset,e]
  have hfW:=hf4.trans hf7
  have e7:=zafk hM7 hfW
  obtain ⟨q1,q2,q3⟩:=zsi hfW
  simp only [encW,List.cons.injEq,Value.int.injEq,Value.slice.injEq,true_and,and_true] at he
  obtain ⟨rfl,rfl,⟨rfl,rfl,rfl⟩,⟨rfl,rfl,rfl⟩,rfl,rfl,rfl⟩:=he
  generalize zlg W4 k=W7 at hM7 hS7 hf7 hdef7 hend7 hfW e7 q1 q2 q3
  refine ⟨fun hlt wr9 hx9 hs9 => ?_,fun hge => ?_⟩
  ·have hlt:=of_decide_eq_true hlt
   have hM9:=hM7.step hx9
   have hk4:(k:Int)≤4:=by omega
   have hKb:K+lagB+(k:Int)*lagB+lagB≤1000000000000000000:=by simp only [lagB]; omega
   have c1':(k:Int)<(W7.cpus.length:Int):=by omega
   have hSF:=hS7.sf.mono (F':=K+lagB+(k:Int)*lagB) (K':=K+lagB+(k:Int)*lagB+lagB) (Int.le_refl _) (by simp only [lagB]; omega)
   have hcall:=zqh hM9.own hSF (Int.le_refl _) hKb (c:=(k:Int)) (by omega) c1'
   rw [e7] at hcall
   refine Calls.mono hcall ?_
   rintro e4 wv8 ⟨he4,hy4⟩
   obtain ⟨hS8,hO8⟩:=zsq hSF (Int.le_refl _) (c:=(k:Int)) (by omega) c1'
   have hM8:=hM9.call hy4 hs9
   refine ⟨_,_,_,_,_,_,_,_,_,_,he4,hM9.kept hy4 hs9,fun wr10 hx10 hs10 => ?_⟩
   have hM10:=hM8.step hx10
   have hstep:zta W7 (k:Int)=if zwm (zbx (za7 W7 (k:Int)) (k:Int)) (k:Int)=true then endW (zbx (za7 W7 (k:Int)) (k:Int)) (k:Int) else zbx (za7 W7 (k:Int)) (k:Int):=rfl
   have c2':(k:Int)<((za7 W7 (k:Int)).cpus.length:Int):=by rw [hO8.c]; exact c1'
   have hcall5:=zzw hM10.own hS8.w (by simp only [lagB]; omega) (c:=(k:Int)) (by omega) c2'
   rw [zfr hO8.fr,e7] at hcall5
   obtain ⟨hS11,hO11⟩:=zm7 hS8.w (by simp only [lagB]; omega) (c:=(k:Int)) (by omega) c2' 8 (by decide)
   refine Calls.mono hcall5 ?_
   rintro e5 wv9 ⟨he5,hy5⟩
   have hM11:=hM10.call hy5 hs10
   have hK11:=hM10.kept hy5 hs10
   have hf11:Fr W (zbx (za7 W7 (k:Int)) (k:Int)):=(hfW.trans hO8.fr).trans hO11.fr
   have hS11':SW (K+lagB+(k:Int)*lagB+lagB) (zbx (za7 W7 (k:Int)) (k:Int)):=hS11
   generalize zbx (za7 W7 (k:Int)) (k:Int)=W11 at hM11 hf11 hS11' hstep
   have e11:=zafk hM11 hf11
   have hm11:m7.cO=m.cO∧m7.tO=m.tO:=by rw [hM7.hd]; exact ⟨rfl,rfl⟩
   obtain ⟨r1,r2,r3⟩:=zsi hf11
   have hr:=hM11.rd
   have c3':(k:Int)<(W11.cpus.length:Int):=by omega
   have hcur:=hS11'.cu (k:Int) (by omega) c3'
   have htl:=hS11'.a.t
   have hixC:=hr.c.ix zf2 (i:=(k:Int)) (by omega) c3'
   have hrC:=hr.c.f (i:=(k:Int)) (by omega) c3' (j:=1) rfl
   have hT:(decide ((gi W11.cpus (k:Int)).cur≥0))=true→0≤(gi W11.cpus (k:Int)).cur∧(gi W11.cpus (k:Int)).cur<(W11.tasks.length:Int):=fun g=>by
    have:=of_decide_eq_true g
    exact ⟨this,by omega⟩
   have hline:∀g:(decide ((gi W11.cpus (k:Int)).cur≥0))=true,zab [x,x1] Tryz.prog zcd #[.agg (encW W m).toArray,.int .i64 (gi W11.cpus (k:Int)).cur] wv9 (.bool (zcs W11 (gi W11.cpus (k:Int)).cur)):=fun g=>by
    have:=zhw hr hS11'.a (hT g).1 (hT g).2 (fun hs=>hS11'.li (hT g).1 (hT g).2 hs)
    rwa [e11] at this
   rw [r1,hm11.1] at hixC
   rw [hm11.1] at hrC
   refine ⟨_,_,_,_,_,_,_,_,_,_,he5,hK11,hixC,_,hrC,fun g => ?_,(tkk W11 (gi W11.cpus (k:Int)).cur).cpu,fun g => ?_,zcs W11 (gi W11.cpus (k:Int)).cur,fun _ g=>hline g,fun g wr11 hx11 hs11 => ?_,fun g => ?_⟩
   ·have:=hr.t.ix zbb (hT g).1 (hT g).2
    rwa [r2,hm11.2] at this
   ·have:=hr.t.f (hT g).1 (hT g).2 (j:=2) rfl
    rwa [hm11.2] at this
   ·have hM12:=hM11.step hx11
    have hcall6:=zlw hM12.own (c:=(k:Int)) (by omega) c3'
    rw [e11] at hcall6
    refine Calls.mono hcall6 ?_
    rintro e6 wv10 ⟨he6,hy6⟩
    have e12:=zfr (m:=m7) (z9c W11 (k:Int))
    rw [e11] at e12
    rw [e12] at he6
    refine ⟨_,_,_,_,_,_,_,_,_,_,he6,hM12.kept hy6 hs11,⟨by omega,by omega⟩,fun wr12 hx12 _=>⟨⟨k+1,m7,rfl,by omega,?_⟩,?_⟩⟩
    ·rw [hdef7,hstep,if_pos (by unfold zwm; exact g)]
     exact (hM12.call hy6 hs11).step hx12
    ·simp only [zcv,cntM,zcw,List.getElem?_cons_zero]; omega
   ·refine ⟨⟨by omega,by omega⟩,fun wr12 hx12 _=>⟨⟨k+1,m7,rfl,by omega,?_⟩,?_⟩⟩
    ·rw [hdef7,hstep,if_neg (by unfold zwm; rw [g]; decide)]
     exact hM11.step hx12
    ·simp only [zcv,cntM,zcw,List.getElem?_cons_zero]; omega
  ·have hge:=of_decide_eq_false hge
   have hend7:=hend7 (by omega)
   rw [hend7]
   refine fun w9 hx9=>⟨m7,?_,(hM7.step hx9).close⟩
   rw [e7]; rfl
end
end Go.Proofs.YtajdcjidpolloaaGreatDoor
namespace Go.Proofs.YtajdcjidpolloaaGreatDoor
open Go.RowKit
set_option linter.unusedVariables false
set_option linter.unusedSimpArgs false
set_option maxRecDepth 10000
theorem zb6 {n:Int} {w:World} {bs:List Nat}:zab bs Tryz.prog zbf #[.int .i64 n] w (.bool (decide (n≤zbu))):=z7u n fun wr hx=>rfl
section
variable {W:Wld} {m:MW} {w:World} {bs:List Nat}
theorem zws (h:RdW bs w W m) (hl:LenW W):zab bs Tryz.prog zie #[.agg (encW W m).toArray] w (.bool (decB (WldP W∧z79 W))) :=
 zw5 W.now m.cO W.cpus.length m.cC m.tO W.tasks.length m.tC m.gO W.groups.length m.gC fun wr hx=>by
  have h:=(h.ext hx).less (cs:=[]) (by simp)
  intro x hx
  refine ⟨_,zqf h hl.c hl.t hl.g hl.f,_,fun _=>zb6,fun g=>noP ?_,fun g => ?_⟩
  ·rintro ⟨wp,r⟩
   rw [show zcq W=true from zb9.2 wp,show decide (W.now≤zbu)=true from decide_eq_true r.n] at g
   cases g
  ·simp only [Bool.or_eq_false_iff,Bool.not_eq_false'] at g
   have wp:WldP W:=zb9.1 g.1
   have hnow:=of_decide_eq_true g.2
   have hgl:=wp.a.gl
   have htl:=wp.a.t
   have hcl:=wp.a.c2
   refine ze7 W.cpus.length 0 rfl (fun k=>k≤W.cpus.length∧∀c:Int,0≤c→c<(k:Int)→(gi W.cpus c).busy≤zbu∧(gi W.cpus c).idle≤zbu) ⟨Nat.zero_le _,fun c a b=>by omega⟩ fun k ⟨hk,hI⟩=>⟨fun hlt => ?_,fun hge => ?_⟩
   ·have hlt:=of_decide_eq_true hlt
    refine ⟨h.c.ix zf2 (by omega) hlt,_,h.c.f (by omega) hlt (j:=3) rfl,_,zb6,fun _=>h.c.ix zf2 (by omega) hlt,_,fun _=>h.c.f (by omega) hlt (j:=4) rfl,_,fun _=>zb6,fun g2=>noP ?_,fun g2=>⟨⟨by omega,by omega⟩,zai (by omega) ⟨by omega,fun c a b => ?_⟩⟩⟩
    ·rintro ⟨_,r⟩
     have:=r.c (k:Int) (by omega) hlt
     rw [decide_eq_true this.1,decide_eq_true this.2] at g2
     cases g2
    ·by_cases e:c=(k:Int)
     ·subst e
      simp only [Bool.or_eq_false_iff,Bool.not_eq_false'] at g2
      exact ⟨of_decide_eq_true g2.1,of_decide_eq_true g2.2⟩
     ·exact hI c a (by omega)
   have hge:=of_decide_eq_false hge
   have hC:∀c:Int,0≤c→c<(W.cpus.length:Int)→(gi W.cpus c).busy≤zbu∧(gi W.cpus c).idle≤zbu:=fun c a b=>hI c a (by omega)
   clear hI
   refine ze7 W.tasks.length 0 rfl (fun k=>k≤W.tasks.length∧∀t:Int,0≤t→t<(k:Int)→(gi W.tasks t).v≤zbu∧(gi W.tasks t).sum≤zbu∧(gi W.tasks t).used≤zbu) ⟨Nat.zero_le _,fun c a b=>by omega⟩ fun k ⟨hk,hI⟩=>⟨fun hlt => ?_,fun hge => ?_⟩
   ·have hlt:=of_decide_eq_true hlt
    have hix:=h.t.ix zbb (i:=(k:Int)) (by omega) hlt
    refine ⟨hix,_,h.t.f (by omega) hlt (j:=5) rfl,_,zb6,fun _=>hix,_,fun _=>h.t.f (by omega) hlt (j:=6) rfl,_,fun _=>zb6,fun _=>hix,_,fun _=>h.t.f (by omega) hlt (j:=7) rfl,_,fun _=>zb6,fun g2=>noP ?_,fun g2=>⟨⟨by omega,by omega⟩,zai (by omega) ⟨by omega,fun c a b => ?_⟩⟩⟩
    ·rintro ⟨_,r⟩
     have:=r.t (k:Int) (by omega) hlt
     rw [decide_eq_true this.1,decide_eq_true this.2.1,decide_eq_true this.2.2] at g2
     cases g2
    ·by_cases e:c=(k:Int)
     ·subst e
      simp only [Bool.or_eq_false_iff,Bool.not_eq_false'] at g2
      exact ⟨of_decide_eq_true g2.1.1,of_decide_eq_true g2.1.2,of_decide_eq_true g2.2⟩
     ·exact hI c a (by omega)
   have hge:=of_decide_eq_false hge
   have hT:∀t:Int,0≤t→t<(W.tasks.length:Int)→(gi W.tasks t).v≤zbu∧(gi W.tasks t).sum≤zbu∧(gi W.tasks t).used≤zbu:=fun c a b=>hI c a (by omega)
   clear hI
   refine ze7 W.groups.length 0 rfl (fun k=>k≤W.groups.length∧∀j:Int,0≤j→j<(k:Int)→(gi W.groups j).sum≤zbu∧∀c:Int,0≤c→c<((gi W.groups j).shelves.length:Int)→(shf W j c).floor≤zbu∧(shf W j c).v≤zbu∧(shf W j c).sum≤zbu) ⟨Nat.zero_le _,fun c a b=>by omega⟩ fun k ⟨hk,hI⟩=>⟨fun hlt => ?_,fun hge => ?_⟩
   ·have hlt:=of_decide_eq_true hlt
    have hix:=h.g.ix (i:=(k:Int)) (by omega) hlt
    have hsl:(gi W.groups (k:Int)).shelves.length≤4:=by
     have:=wp.a.grp (k:Int) (by omega) (by omega)
     cases hu:(gi W.groups (k:Int)).used with
     | true=>have:=(this.2 hu).len; omega
     | false=>have:=(this.1 hu).l; omega
    refine ⟨hix,_,(h.g.cells (k:Int) (by omega) hlt).get 7 _ rfl,_,zb6,fun g2=>noP ?_,fun g2 => ?_⟩
    ·rintro ⟨_,r⟩
     have:=r.g (k:Int) (by omega) hlt
     rw [decide_eq_true this] at g2
     cases g2
    have g2:(gi W.groups (k:Int)).sum≤zbu:=by simpa using g2
    have hrs:=h.g.shelves (k:Int) (by omega) hlt
    refine ze7 (gi W.groups (k:Int)).shelves.length 0 rfl (fun q=>q≤(gi W.groups (k:Int)).shelves.length∧∀c:Int,0≤c→c<(q:Int)→(shf W (k:Int) c).floor≤zbu∧(shf W (k:Int) c).v≤zbu∧(shf W (k:Int) c).sum≤zbu) ⟨Nat.zero_le _,fun c a b=>by omega⟩ fun q ⟨hq,hJ⟩=>⟨hix,_,_,_,h.g.shelf (by omega) hlt,fun hlt2 => ?_,fun hge2 => ?_⟩
    ·have hlt2:=of_decide_eq_true hlt2
     refine ⟨hix,_,_,_,h.g.shelf (by omega) hlt,hrs.ix zej (by omega) hlt2,_,_,_,_,_,hrs (q:Int) (by omega) hlt2,fun b1 hb1=>⟨_,zb6,_,fun _=>zb6,_,fun _=>zb6,fun g3=>noP ?_,fun g3=>⟨⟨by omega,by omega⟩,zai (by omega) ⟨by omega,fun c a b => ?_⟩⟩⟩⟩
     ·rintro ⟨_,r⟩
      have:=r.s (k:Int) (q:Int) (by omega) hlt (by omega) hlt2
      unfold shf at this
      rw [decide_eq_true this.1,decide_eq_true this.2.1,decide_eq_true this.2.2] at g3
      cases g3
     ·by_cases e:c=(q:Int)
      ·subst e
       simp only [Bool.or_eq_false_iff,Bool.not_eq_false'] at g3
       exact ⟨of_decide_eq_true g3.1.1,of_decide_eq_true g3.1.2,of_decide_eq_true g3.2⟩
      ·exact hJ c a (by omega)
    ·have hge2:=of_decide_eq_false hge2
     refine ⟨⟨by omega,by omega⟩,zai (by omega) ⟨by omega,fun j a b => ?_⟩⟩
     by_cases e:j=(k:Int)
     ·subst e
      exact ⟨g2,fun c a b=>hJ c a (by omega)⟩
     ·exact hI j a (by omega)
   ·have hge:=of_decide_eq_false hge
    exact yesP ⟨wp,⟨hnow,hC,hT,fun j a b=>(hI j a (by omega)).1,fun j c a b c0 c1=>(hI j a (by omega)).2 c c0 c1⟩⟩
end
structure ObG (base:Nat) (bs:List Nat) (w:World) (o:Option Addr) (cap:Nat) (ps:List (Grp×MG)):Prop where
 own:OwnG base w o cap ps
 nb:∀x∈zau o,x∉bs
 nm:∀i:Int,0≤i→i<(ps.length:Int)→∀x∈zah (gi ps i).2,x∉bs
section
variable {base:Nat} {bs cs:List Nat} {w w':World} {o:Option Addr} {cap:Nat} {ps:List (Grp×MG)} {b:Nat}
theorem ObG.lt (h:ObG base bs w o cap ps):(∀x∈zau o,base≤x∧x<w.heap.size)∧∀i:Int,0≤i→i<(ps.length:Int)→∀x∈zah (gi ps i).2,base≤x∧x<w.heap.size:=⟨h.own.row.lt,fun i a b=>(h.own.each i a b).lt⟩
theorem ObG.ext (h:ObG base bs w o cap ps) (hx:ExtX cs w w') (h1:∀x∈zau o,x∉cs) (h2:∀i:Int,0≤i→i<(ps.length:Int)→∀x∈zah (gi ps i).2,x∉cs):ObG base bs w' o cap ps :=
 ⟨⟨h.own.row.ext hx h1,fun i a b=>(h.own.each i a b).ext hx (h2 i a b),h.own.dj⟩,h.nb,h.nm⟩
theorem ObG.step (h:ObG base bs w o cap ps) (hx:ExtX bs w w'):ObG base bs w' o cap ps:=h.ext hx h.nb h.nm
theorem ObG.call0 (h:ObG base bs w o cap ps) (hx:ExtX [] w w'):ObG base bs w' o cap ps:=h.ext hx (by simp) (by simp)
theorem ObG.add (h:ObG base bs w o cap ps) (hb:w.heap.size≤b):ObG base (bs++[b]) w o cap ps :=
 have key:∀x,x<w.heap.size→x∉bs→x∉bs++[b]:=fun x hl hx hm=>by
  rcases List.mem_append.1 hm with hm | hm
  ·exact hx hm
  ·have:x=b:=by simpa using hm
   omega
 ⟨h.own,fun x hx=>key x (h.lt.1 x hx).2 (h.nb x hx),fun i a c x hx=>key x (h.lt.2 i a c x hx).2 (h.nm i a c x hx)⟩
theorem ObG.put (h:ObG base bs w o cap ps) (hx:ExtX bs w w') (hb:w.heap.size≤b):ObG base (bs++[b]) w' o cap ps:=⟨(h.step hx).own,(h.add hb).nb,(h.add hb).nm⟩
theorem ObG.sub (h:ObG base bs w o cap ps) (hs:∀x∈cs,x∈bs):ObG base cs w o cap ps:=⟨h.own,fun x hx hm=>h.nb x hx (hs x hm),fun i a c x hx hm=>h.nm i a c x hx (hs x hm)⟩
theorem ObG.nil (base:Nat) (bs:List Nat) (w:World):ObG base bs w none 0 []:=⟨⟨.inl ⟨rfl,rfl,rfl⟩,fun i a b=>by simp at b; omega,fun i j a b=>by simp at b; omega⟩,by simp [zau],fun i a b=>by simp at b; omega⟩
theorem zamh {α:Type} [Inhabited α] {l:List α} {x:α} {i:Int} (h0:0≤i) (h1:i<(l.length:Int)):gi (l++[x]) i=gi l i:=by
 obtain ⟨k,rfl⟩:=Int.eq_ofNat_of_zero_le h0
 rw [zd9 (by simp; omega),zd9 (by omega),List.getElem_append_left]
theorem zak6 {α:Type} [Inhabited α] {l:List α} {x:α}:gi (l++[x]) (l.length:Int)=x:=by
 rw [zd9 (by simp)]; simp
theorem ObG.app1 {p:Grp×MG} {t':TypeId} {fz:Nat×Nat} (h:ObG base bs w o cap ps) (hs:∀x∈bs,x<w.heap.size) (hbase:base≤w.heap.size) (hp:OwnM base w p) (hpb:∀x∈zah p.2,x∉bs) (hd:∀i:Int,0≤i→i<(ps.length:Int)→∀x∈zah (gi ps i).2,x∉zah p.2)
  (hb:w.heap[b]? = some (.cells (encP p).toArray t' fz)) (h1:zbd (encP p)=true) (hl:ps.length≤1048576) (tr:TypeId) (cs:Array Bool) :
  ∃o' cap' w',(builtin .append #[zas,zas] tr cs #[.slice o ps.length cap,.slice (some ⟨b,0,none⟩) 1 1]).run Tryz.prog w = .ok (.value (.slice o' (ps++[p]).length cap')) w'∧Kept bs w w'∧ObG base bs w' o' cap' (ps++[p])∧ExtX (zau o) w w':=by
 obtain ⟨o2,c2,w2,hrun,hk,hO,hx⟩:=Ob.app1 zcg zlj (⟨h.own.row,h.nb⟩:Ob encP 14 za8 base bs w o cap ps) hs hbase hb h1 hl (by decide) tr cs
 have hlen:(ps++[p]).length=ps.length+1:=by simp
 have hcase:∀i:Int,0≤i→i<((ps++[p]).length:Int)→(i<(ps.length:Int)∧gi (ps++[p]) i=gi ps i)∨(i=(ps.length:Int)∧gi (ps++[p]) i=p):=fun i a b=>by
  by_cases e:i<(ps.length:Int)
  ·exact .inl ⟨e,zamh a e⟩
  ·have:i=(ps.length:Int):=by omega
   subst this
   exact .inr ⟨rfl,zak6⟩
 refine ⟨o2,c2,w2,hrun,hk,⟨⟨hO.own,fun i a b => ?_,fun i j a b c d e => ?_⟩,hO.nb,fun i a b => ?_⟩,hx⟩
 ·rcases hcase i a b with ⟨hi,hg⟩ | ⟨hi,hg⟩
  ·rw [hg]; exact (h.own.each i a hi).ext hx (zfa h.own.row (h.own.each i a hi))
  ·rw [hg]; exact hp.ext hx (zfa h.own.row hp)
 ·rcases hcase i a b with ⟨hi,hg⟩ | ⟨hi,hg⟩ <;> rcases hcase j c d with ⟨hj,hg'⟩ | ⟨hj,hg'⟩
  ·rw [hg,hg']; exact h.own.dj i j a hi c hj e
  ·rw [hg,hg']; exact hd i a hi
  ·rw [hg,hg']; exact fun x hx hm=>hd j c hj x hm hx
  ·omega
 ·rcases hcase i a b with ⟨hi,hg⟩ | ⟨hi,hg⟩
  ·rw [hg]; exact h.nm i a hi
  ·rw [hg]; exact hpb
end
theorem oneG (g:Grp) (m:MG):zbd (encG g m)=true:=rfl
theorem zr8 {W:Wld} (ha:WA W) {k:Int} (k0:0≤k) (k1:k<8):(gi W.groups k).band.dry.length=(gi W.groups k).band.locals.length∧(gi W.groups k).band.locals.length≤4∧(gi W.groups k).shelves.length≤4:=by
 have hg:=ha.grp k k0 k1
 have hc:=ha.c2
 cases hu:(gi W.groups k).used with
 | false =>
  have:=hg.1 hu
  have hb:=zsv this.b
  have:=this.l
  omega
 | true =>
  have:=hg.2 hu
  have hl:=this.len
  by_cases hq:(gi W.groups k).band.quota=0
  ·have hb:=zsv (this.none hq).1
   omega
  ·have hb:=(this.band hq).1
   have h1:=hb.dl
   have h2:=hb.l2
   omega
end Go.Proofs.YtajdcjidpolloaaGreatDoor
namespace Go.Proofs.YtajdcjidpolloaaGreatDoor
open Go.RowKit
set_option linter.unusedVariables false
set_option linter.unusedSimpArgs false
set_option maxRecDepth 10000
section
variable {W:Wld} {m:MW} {w:World} {bs:List Nat}
def psOf (W:Wld) (ms:Nat→MG) (k:Nat):List (Grp×MG):=(List.range k).map fun (j:Nat)=>(gi W.groups (j:Int),ms j)
theorem zdm (W:Wld) (ms:Nat→MG) (k:Nat):(psOf W ms k).length=k:=by simp [psOf]
theorem zux {W:Wld} {ms:Nat→MG} {k:Nat} {i:Int} (h0:0≤i) (h1:i<(k:Int)):gi (psOf W ms k) i=(gi W.groups i,ms i.toNat):=by
 obtain ⟨j,rfl⟩:=Int.eq_ofNat_of_zero_le h0
 rw [zd9 (by rw [zdm]; omega)]
 simp [psOf]
theorem zagu (W:Wld) (ms:Nat→MG) (k:Nat) (p:MG):psOf W (fun j=>if j=k then p else ms j) (k+1)=psOf W ms k++[(gi W.groups (k:Int),p)]:=by
 unfold psOf
 rw [List.range_succ,List.map_append]
 congr 1
 ·refine List.map_congr_left fun j hj => ?_
  have:=List.mem_range.1 hj
  show (_,if j=k then p else ms j)=_
  rw [if_neg (by omega)]
 ·simp
set_option maxHeartbeats 1000000 in
theorem z9n (h:RdW [] w W m) (ha:WA W) :
  Calls Tryz.prog znp #[.agg (encW W m).toArray] w fun e w'=>∃m',e = .returned (.agg (encW W m').toArray)∧MWd 8 w.heap.size w' W m'∧ExtX [] w w':=by
 refine (z84 W.now m.cO W.cpus.length m.cC m.tO W.tasks.length m.tC m.gO W.groups.length m.gC (R:=fun v w'=>∃m',v = .agg (encW W m').toArray∧MWd 8 w.heap.size w' W m'∧ExtX [] w w') ?_).mono fun e w' ⟨v,he,m',hv,h3⟩=>⟨m',by rw [he,hv],h3⟩
 have hcl:=ha.c2
 have htl:=ha.t
 have hgl:=ha.gl
 intro x hx x1 hx1 x2 hx2
 have s0:Sc w [x,x1,x2] w:=(((Sc.start w).add hx).add hx1).add hx2
 refine ⟨fun vs w1=>∃(i:Nat) (cO:Option Addr) (cC:Nat),vs=[.int .i64 (i:Int),.int .i64 W.now,.slice cO (W.cpus.take i).length cC,.slice none 0 0,.slice none 0 0]∧i≤W.cpus.length∧Sc w [x,x1,x2] w1∧Ob encC 5 za1 w.heap.size [x,x1,x2] w1 cO cC (W.cpus.take i),
  zcv W.cpus.length 0,fun wr hx _=>⟨0,none,0,by simp,Nat.zero_le _,s0.call0 hx,⟨.inl ⟨rfl,rfl,rfl⟩,by simp [zau]⟩⟩,?_⟩
 rintro c1 l l1O l1L l1C l2O l2L l2C l3O l3L l3C wv2 hs2 ⟨i,cO,cC,he,hi,s1,hC⟩
 simp only [List.cons.injEq,Value.int.injEq,Value.slice.injEq,true_and,and_true] at he
 obtain ⟨rfl,rfl,⟨rfl,rfl,rfl⟩,⟨rfl,rfl,rfl⟩,rfl,rfl,rfl⟩:=he
 refine ⟨fun hlt => ?_,fun hge => ?_⟩
 ·have hlt:=of_decide_eq_true hlt
  have hr:=h.c.scb s1
  refine ⟨hr.ix zf2 (by omega) hlt,_,_,_,_,_,hr i (by omega) hlt,fun b4 hb4=>⟨rfl,fun wr3 hx3 hs3 hcell => ?_⟩⟩
  have s2:=s1.put hx3 hb4
  have hC2:=hC.put hx3 hb4
  obtain ⟨o2,c2,w2,hrun,hk2,hC3,hy2⟩:=hC2.app1 zda znz (x:=gi W.cpus (i:Int)) hs3 s2.ext.size hcell (oneC _) (by rw [List.length_take]; omega) (by decide) zbv #[false,false]
  rw [ztd (by omega)] at hrun hC3
  have s3:=s2.call hy2 fun y hm=>(hC2.own.lt y hm).1
  refine ⟨_,_,_,w2,hrun,hk2,⟨by omega,by omega⟩,fun w5 hx5 _=>⟨⟨i+1,o2,c2,rfl,by omega,(s3.step hx5).sub (by simp),(hC3.step hx5).sub (by simp)⟩,?_⟩⟩
  simp only [zcv,cntM,zcw,List.getElem?_cons_zero]; omega
 have hge:=of_decide_eq_false hge
 rw [show W.cpus.take i=W.cpus from List.take_of_length_le (by omega)] at hC ⊢
 refine ⟨fun vs w1=>∃(i:Nat) (tO:Option Addr) (tC:Nat),vs=[.int .i64 (i:Int),.int .i64 W.now,.slice l1O W.cpus.length l1C,.slice tO (W.tasks.take i).length tC,.slice none 0 0]∧i≤W.tasks.length∧Sc w [x,x1,x2] w1∧Ob encC 5 za1 w.heap.size [x,x1,x2] w1 l1O l1C W.cpus∧Ob encT 9 zaq w.heap.size [x,x1,x2] w1 tO tC (W.tasks.take i),
  zcv W.tasks.length 0,fun wr hx _=>⟨0,none,0,by simp,Nat.zero_le _,s1.step hx,hC.step hx,⟨.inl ⟨rfl,rfl,rfl⟩,by simp [zau]⟩⟩,?_⟩
 clear hC s1 hi hge hs2
 rintro t1 l4 l5O l5L l5C l6O l6L l6C l7O l7L l7C wv6 hs6 ⟨i,tO,tC,he,hi,s1,hC,hT⟩
 simp only [List.cons.injEq,Value.int.injEq,Value.slice.injEq,true_and,and_true] at he
 obtain ⟨rfl,rfl,⟨rfl,rfl,rfl⟩,⟨rfl,rfl,rfl⟩,rfl,rfl,rfl⟩:=he
 refine ⟨fun hlt => ?_,fun hge => ?_⟩
 ·have hlt:=of_decide_eq_true hlt
  have hr:=h.t.scb s1
  refine ⟨hr.ix zbb (by omega) hlt,_,_,_,_,_,_,_,_,_,hr i (by omega) hlt,fun b4 hb4=>⟨rfl,fun wr3 hx3 hs3 hcell => ?_⟩⟩
  have s2:=s1.put hx3 hb4
  have hC2:=hC.put hx3 hb4
  have hT2:=hT.put hx3 hb4
  obtain ⟨o2,c2,w2,hrun,hk2,hT3,hy2⟩:=hT2.app1 za6 zmw (x:=gi W.tasks (i:Int)) hs3 s2.ext.size hcell (oneT _) (by rw [List.length_take]; omega) (by decide) zbo #[false,false]
  rw [ztd (by omega)] at hrun hT3
  have s3:=s2.call hy2 fun y hm=>(hT2.own.lt y hm).1
  have hC3:=hC2.call hy2 (hC2.own.ty_ne hT2.own (by decide))
  refine ⟨_,_,_,w2,hrun,hk2,⟨by omega,by omega⟩,fun w5 hx5 _=>⟨⟨i+1,o2,c2,rfl,by omega,(s3.step hx5).sub (by simp),(hC3.step hx5).sub (by simp),(hT3.step hx5).sub (by simp)⟩,?_⟩⟩
  simp only [zcv,cntM,zcw,List.getElem?_cons_zero]; omega
 have hge:=of_decide_eq_false hge
 rw [show W.tasks.take i=W.tasks from List.take_of_length_le (by omega)] at hT ⊢
 refine ⟨fun vs w1=>∃(i:Nat) (gO:Option Addr) (gC:Nat) (ms:Nat→MG),vs=[.int .i64 (i:Int),.int .i64 W.now,.slice l5O W.cpus.length l5C,.slice l6O W.tasks.length l6C,.slice gO (psOf W ms i).length gC]∧i≤W.groups.length∧Sc w [x,x1,x2] w1∧Ob encC 5 za1 w.heap.size [x,x1,x2] w1 l5O l5C W.cpus∧Ob encT 9 zaq w.heap.size [x,x1,x2] w1 l6O l6C W.tasks∧ObG w.heap.size [x,x1,x2] w1 gO gC (psOf W ms i),
  zcv W.groups.length 0,fun wr hx _=>⟨0,none,0,fun _=>default,by simp [psOf],Nat.zero_le _,s1.step hx,hC.step hx,hT.step hx,ObG.nil _ _ _⟩,?_⟩
 clear hC hT s1 hi hge hs6
 rintro k1 l22 l23O l23L l23C l24O l24L l24C l25O l25L l25C wv15 hs15 ⟨i,gO,gC,ms,he,hi,s1,hC,hT,hG⟩
 simp only [List.cons.injEq,Value.int.injEq,Value.slice.injEq,true_and,and_true] at he
 obtain ⟨rfl,rfl,⟨rfl,rfl,rfl⟩,⟨rfl,rfl,rfl⟩,rfl,rfl,rfl⟩:=he
 refine ⟨fun hlt => ?_,fun hge => ?_⟩
 ·have hlt:=of_decide_eq_true hlt
  have hr:=h.g.ext s1.ext
  have hrb:RdG [x,x1,x2] wv15 m.gO W.groups m.ms:=(h.g.wide (cs:=[x,x1,x2]) fun y hm=>.inr (s1.new y hm)).ext s1.ext.of_nil
  have hix:=hrb.ix (i:=(i:Int)) (by omega) hlt
  obtain ⟨bl1,bl2,bl3⟩:=zr8 ha (k:=(i:Int)) (by omega) (by omega)
  refine ⟨hix,_,_,_,_,_,_,_,_,_,_,_,_,_,_,_,_,_,_,_,_,hrb.cells (i:Int) (by omega) hlt,fun b11 hb11=>⟨hix,_,_,_,_,_,_,_,_,_,hrb.band (by omega) hlt,fun wr19 hx19 hs19 => ?_⟩⟩
  have s2:=s1.put hx19 hb11
  have hC2:=hC.put hx19 hb11
  have hT2:=hT.put hx19 hb11
  have hG2:=hG.put hx19 hb11
  have hr2:=h.g.ext s2.ext
  refine Calls.mono (zvj (hr2.locals (i:Int) (by omega) hlt) (hr2.dry (i:Int) (by omega) hlt) bl1 (by omega)) ?_
  rintro e wv16 ⟨p,he,hB,hy⟩
  have s3:=s2.call0 hy
  have hC3:=hC2.call0 hy
  have hT3:=hT2.call0 hy
  have hG3:=hG2.call0 hy
  have hBn:∀y∈zgr p,wr19.heap.size≤y:=fun y hm=>(hB.lt y hm).1
  have hBb:∀y∈zgr p,y∉[x,x1,x2]++[b11]:=fun y hm hm'=>by
   have:=hBn y hm
   have:=hs19 y hm'
   omega
  refine ⟨_,_,_,_,_,_,_,_,_,he,za9 hy hs19,fun vs w1=>∃(c:Nat) (sO:Option Addr) (sC:Nat),vs=[.int .i64 (c:Int),.bool (gi W.groups (i:Int)).used,.int .i64 (gi W.groups (i:Int)).parent,.string (gi W.groups (i:Int)).name,.int .i64 (gi W.groups (i:Int)).weight,.int .i64 (gi W.groups (i:Int)).cpus,.int .i64 (gi W.groups (i:Int)).period,.int .i64 (gi W.groups (i:Int)).next,.int .i64 (gi W.groups (i:Int)).sum,.int .i64 (gi W.groups (i:Int)).band.quota,.int .i64 (gi W.groups (i:Int)).band.pool,.int .i64 (gi W.groups (i:Int)).band.spent,.slice p.lO (gi W.groups (i:Int)).band.locals.length p.lC,.slice p.dO (gi W.groups (i:Int)).band.dry.length p.dC,.slice sO ((gi W.groups (i:Int)).shelves.take c).length sC]∧c≤(gi W.groups (i:Int)).shelves.length∧Sc w ([x,x1,x2]++[b11]) w1∧wr19.heap.size≤w1.heap.size∧Ob encC 5 za1 w.heap.size ([x,x1,x2]++[b11]) w1 l23O l23C W.cpus∧Ob encT 9 zaq w.heap.size ([x,x1,x2]++[b11]) w1 l24O l24C W.tasks∧ObG w.heap.size ([x,x1,x2]++[b11]) w1 l25O l25C (psOf W ms i)∧zc9 wr19.heap.size w1 (gi W.groups (i:Int)).band p∧Ob encS 5 za4 wr19.heap.size ([x,x1,x2]++[b11]) w1 sO sC ((gi W.groups (i:Int)).shelves.take c),
   zcv (gi W.groups (i:Int)).shelves.length 0,fun wr hx _=>⟨0,none,0,by simp,Nat.zero_le _,s3.step hx,Nat.le_trans hy.size hx.size,hC3.step hx,hT3.step hx,hG3.step hx,hB.ext hx hBb,⟨.inl ⟨rfl,rfl,rfl⟩,by simp [zau]⟩⟩,?_⟩
  have hsz:w.heap.size≤wr19.heap.size:=s2.ext.size
  have hGlt:=hG2.lt
  clear hB s3 hC3 hT3 hG3 hC2 hT2
  rintro c4 l26 l27 l28 l29 l30 l31 l32 l33 l34 l35 l36 l37O l37L l37C l38O l38L l38C l39O l39L l39C wv17 hs17 ⟨c,sO,sC,he,hc,s4,hz4,hC4,hT4,hG4,hB4,hS4⟩
  simp only [List.cons.injEq,Value.int.injEq,Value.slice.injEq,Value.bool.injEq,Value.string.injEq,true_and,and_true] at he
  obtain ⟨rfl,rfl,rfl,rfl,rfl,rfl,rfl,rfl,rfl,rfl,rfl,rfl,⟨rfl,rfl,rfl⟩,⟨rfl,rfl,rfl⟩,rfl,rfl,rfl⟩:=he
  have hrb4:RdG ([x,x1,x2]++[b11]) wv17 m.gO W.groups m.ms:=(h.g.wide (cs:=[x,x1,x2]++[b11]) fun y hm=>.inr (s4.new y hm)).ext s4.ext.of_nil
  refine ⟨hix,_,_,_,hrb4.shelf (by omega) hlt,fun hlt2 => ?_,fun hge2 => ?_⟩
  ·have hlt2:=of_decide_eq_true hlt2
   have hrs:=hrb4.shelves (i:Int) (by omega) hlt
   refine ⟨hix,_,_,_,hrb4.shelf (by omega) hlt,hrs.ix zej (by omega) hlt2,_,_,_,_,_,hrs c (by omega) hlt2,fun b12 hb12=>⟨rfl,fun wr21 hx21 hs21 hcell => ?_⟩⟩
   have s5:=s4.put hx21 hb12
   have hS5:=hS4.put hx21 hb12
   have hsz21:wr19.heap.size≤wr21.heap.size:=Nat.le_trans hz4 hx21.size
   obtain ⟨o2,c2,w2,hrun,hk2,hS6,hy2⟩:=hS5.app1 zbk zlk (x:=gi (gi W.groups (i:Int)).shelves (c:Int)) hs21 hsz21 hcell (oneS _) (by rw [List.length_take]; omega) (by decide) zbg #[false,false]
   rw [ztd (by omega)] at hrun hS6
   have hG5:=hG4.put hx21 hb12
   have hC5:=hC4.put hx21 hb12
   have hT5:=hT4.put hx21 hb12
   have hB5:=hB4.ext hx21 hBb
   have s6:=s5.call hy2 fun y hm=>Nat.le_trans hsz (hS5.own.lt y hm).1
   have hC6:=hC5.call hy2 (hC5.own.ty_ne hS5.own (by decide))
   have hT6:=hT5.call hy2 (hT5.own.ty_ne hS5.own (by decide))
   have hG6:=hG5.ext hy2 (hG5.own.row.ty_ne hS5.own (by decide)) fun j a b y hm hm'=>by
    have:=(hGlt.2 j a b y hm).2
    have:=(hS5.own.lt y hm').1
    omega
   have hBb5:∀y∈zgr p,y∉[x,x1,x2]++[b11]++[b12]:=fun y hm hm'=>by
    rcases List.mem_append.1 hm' with h2 | h2
    ·exact hBb y hm h2
    ·have:y=b12:=by simpa using h2
     have:=(hB4.lt y hm).2
     omega
   have hB6:=hB5.ext hy2 fun y hm=>by
    rcases List.mem_append.1 hm with hm | hm
    ·exact hB5.loc.ty_ne hS5.own (by decide) y hm
    ·exact hB5.dry.ty_ne hS5.own (by decide) y hm
   refine ⟨_,_,_,w2,hrun,hk2,⟨by omega,by omega⟩,fun w5 hx5 _=>⟨⟨c+1,o2,c2,rfl,by omega,(s6.step hx5).sub (by simp),?_,(hC6.step hx5).sub (by simp),(hT6.step hx5).sub (by simp),(hG6.step hx5).sub (by simp),hB6.ext hx5 hBb5,(hS6.step hx5).sub (by simp)⟩,?_⟩⟩
   ·have:=hy2.size
    have:=hx5.size
    omega
   ·simp only [zcv,cntM,zcw,List.getElem?_cons_zero]; omega
  ·have hge2:=of_decide_eq_false hge2
   rw [show (gi W.groups (i:Int)).shelves.take c=(gi W.groups (i:Int)).shelves from List.take_of_length_le (by omega)] at hS4 ⊢
   intro b13 hb13 wr23 hx23 hs23 hcell
   have s5:=s4.put hx23 hb13
   have hG5:=hG4.put hx23 hb13
   have hC5:=hC4.put hx23 hb13
   have hT5:=hT4.put hx23 hb13
   have hB5:=hB4.ext hx23 hBb
   have hS5:=hS4.put hx23 hb13
   have hlt17:∀y∈zah ⟨p.lO,p.lC,p.dO,p.dC,l39O,l39C⟩,wr19.heap.size≤y∧y<wv17.heap.size:=fun y hm=>by
    simp only [zah,List.mem_append] at hm
    rcases hm with (hm | hm) | hm
    ·exact hB4.loc.lt y hm
    ·exact hB4.dry.lt y hm
    ·exact hS4.own.lt y hm
   obtain ⟨o2,c2,w2,hrun,hk2,hG6,hy2⟩:=hG5.app1 (p:=(gi W.groups (i:Int),⟨p.lO,p.lC,p.dO,p.dC,l39O,l39C⟩)) hs23 s5.ext.size ⟨(hB5.mono hsz).loc,(hB5.mono hsz).dry,hS5.own.mono hsz⟩ (fun y hm hm'=>by
     have h1:=hlt17 y hm
     rcases List.mem_append.1 hm' with h2 | h2
     ·have:=hs19 y h2; omega
     ·have:y=b13:=by simpa using h2
      omega) (fun j a b y hm hm'=>by
     have:=(hGlt.2 j a b y hm).2
     have:=(hlt17 y hm').1
     omega) hcell (oneG _ _) (by rw [zdm]; omega) zas #[false,false]
   rw [←zagu] at hrun hG6
   have s6:=s5.call hy2 fun y hm=>(hG5.own.row.lt y hm).1
   have hC6:=hC5.call hy2 (hC5.own.ty_ne hG5.own.row (by decide))
   have hT6:=hT5.call hy2 (hT5.own.ty_ne hG5.own.row (by decide))
   refine ⟨_,_,_,w2,hrun,hk2,⟨by omega,by omega⟩,fun w5 hx5 _=>⟨⟨i+1,o2,c2,_,rfl,by omega,(s6.step hx5).sub (by simp),(hC6.step hx5).sub (by simp),(hT6.step hx5).sub (by simp),(hG6.step hx5).sub (by simp)⟩,?_⟩⟩
   simp only [zcv,cntM,zcw,List.getElem?_cons_zero]; omega
 ·have hge:=of_decide_eq_false hge
  have hi8:i=W.groups.length:=by omega
  subst hi8
  refine fun w9 hx9=>⟨⟨l23O,l23C,l24O,l24C,l25O,l25C,ms⟩,?_,⟨(hC.step hx9).own,(hT.step hx9).own,(hG.step hx9).own,hgl⟩,(s1.step hx9).ext⟩
  rw [zdm]
  rfl
theorem zzu (h:RdW [] w W m) (hl:LenW W) :
  Calls Tryz.prog zje #[.agg (encW W m).toArray] w fun e w'=>(zcq W=false∧e = .returned (.tuple #[.agg (encW z3p noM).toArray,.int .i64 1])∧ExtX [] w w')∨(zcq W=true∧∃m',e = .returned (.tuple #[.agg (encW W m').toArray,.int .i64 (if zs5 W=true then 0 else 10)])∧MWd 8 w.heap.size w' W m'∧ExtX [] w w'):=by
 refine (zza W.now m.cO W.cpus.length m.cC m.tO W.tasks.length m.tC m.gO W.groups.length m.gC (R:=fun v w'=>(zcq W=false∧v = .tuple #[.agg (encW z3p noM).toArray,.int .i64 1]∧ExtX [] w w')∨(zcq W=true∧∃m',v = .tuple #[.agg (encW W m').toArray,.int .i64 (if zs5 W=true then 0 else 10)]∧MWd 8 w.heap.size w' W m'∧ExtX [] w w')) ?_).mono fun e w' ⟨v,he,h3⟩=>by
  rw [he]
  rcases h3 with ⟨a,hv,b⟩ | ⟨a,m',hv,b⟩
  ·exact .inl ⟨a,by rw [hv],b⟩
  ·exact .inr ⟨a,m',by rw [hv],b⟩
 intro x hx x1 hx1
 refine ⟨_,zqf h hl.c hl.t hl.g hl.f,fun g wr hx=>.inl ⟨by simpa using g,rfl,hx⟩,fun g wr1 hx2 hs1 => ?_⟩
 have hW:zcq W=true:=by simpa using g
 have wp:=zb9.1 hW
 refine Calls.mono (z9n (h.ext hx2) wp.a) ?_
 rintro e wv ⟨m',he,hM,hy⟩
 have hnb:∀y∈za3 8 m',y∉[x,x1]:=fun y hy hm=>by
  have:=(hM.lt y hy).1
  have:=hs1 y hm
  omega
 have hro:=zws (hM.rd hnb) hl
 have hfin:∀w2,ExtX [x,x1] wv w2→MWd 8 w.heap.size w2 W m'∧ExtX [] w w2:=fun w2 h2=>⟨(hM.mono hx2.size).ext h2 hnb,(hx2.trans hy).fresh h2 fun y hm=>.inl (z71 hx hx1 y hm)⟩
 refine ⟨_,_,_,_,_,_,_,_,_,_,he,za9 hy hs1,_,hro,fun g2 w2 h2=>.inr ⟨hW,m',?_,hfin w2 h2⟩,fun g2 w2 h2=>.inr ⟨hW,m',?_,hfin w2 h2⟩⟩
 ·have:¬zs5 W=true:=fun hr=>by
   rw [show decB (WldP W∧z79 W)=true from zb9.2 ⟨wp,zb9.1 hr⟩] at g2
   cases g2
  rw [if_neg this]; rfl
 ·have hd:decB (WldP W∧z79 W)=true:=by simpa using g2
  have:zs5 W=true:=zb9.2 (zb9.1 hd).2
  rw [if_pos this]; rfl
end
end Go.Proofs.YtajdcjidpolloaaGreatDoor
namespace Go.Proofs.YtajdcjidpolloaaGreatDoor
open Go.RowKit
set_option linter.unusedVariables false
set_option linter.unusedSimpArgs false
set_option maxRecDepth 10000
structure Wk (n:Nat) (bs:List Nat) (w0 w:World) (W:Wld) (m:MW):Prop where
 s:Sc w0 bs w
 o:OW n w0.heap.size bs w W m
section
variable {n:Nat} {bs cs:List Nat} {w0 w w':World} {W W':Wld} {m m':MW} {b:Nat}
theorem Wk.step (h:Wk n bs w0 w W m) (hx:ExtX bs w w'):Wk n bs w0 w' W m:=⟨h.s.step hx,h.o.step hx⟩
theorem Wk.rd (h:Wk n bs w0 w W m):RdW bs w W m:=h.o.rd
theorem Wk.own (h:Wk n bs w0 w W m):MWd n w0.heap.size w W m:=h.o.own
theorem Wk.base (h:Wk n bs w0 w W m):w0.heap.size≤w.heap.size:=h.s.ext.size
theorem Wk.deed (h:Wk n bs w0 w W m) (k:Mv n w0.heap.size [] w m w' W' m') (hs:∀x∈bs,x<w.heap.size):Wk n bs w0 w' W' m' :=
 ⟨h.s.call k.ext fun x hx=>(h.o.own.lt x hx).1,⟨k.own,fun x hx hm=>by
  rcases k.sub x hx with h1 | h1
  ·exact h.o.nb x h1 hm
  ·have:=hs x hm
   omega⟩⟩
theorem Wk.kept (h:Wk n bs w0 w W m) (k:Mv n w0.heap.size [] w m w' W' m') (hs:∀x∈bs,x<w.heap.size):Kept bs w w':=fun x hm=>k.ext.block x (hs x hm) fun hm'=>h.o.nb x hm' hm
theorem Wk.fin (h:Wk n bs w0 w W m):MWd n w0.heap.size w W m∧ExtX [] w0 w:=⟨h.o.own,h.s.ext⟩
end
def AnsW (r:Wld×Int) (w:World) (v:Value) (w':World):Prop:=∃n m',v = .tuple #[.agg (encW r.1 m').toArray,.int .i64 r.2]∧MWd n w.heap.size w' r.1 m'∧ExtX [] w w'
theorem MWd.zero (base:Nat) (w:World):MWd 0 base w z3p noM:=⟨.inl ⟨rfl,rfl,rfl⟩,.inl ⟨rfl,rfl,rfl⟩,⟨.inl ⟨rfl,rfl,rfl⟩,fun i a b=>by simp [psW,z3p] at b; omega,fun i j a b=>by simp [psW,z3p] at b; omega⟩,rfl⟩
section
variable {W W':Wld} {m:MW} {w:World} {bar:Int}
theorem AnsW.bad {w':World} (hW:zcq W=false) (hx:ExtX [] w w'):AnsW (ansD W bar W') w (.tuple #[.agg (encW z3p noM).toArray,.int .i64 1]) w':=by
 rw [zaer hW]
 exact ⟨0,noM,rfl,MWd.zero _ _,hx⟩
theorem AnsW.no {n:Nat} {bs:List Nat} {w':World} {m':MW} (hW:zcq W=true) (hb:bar≠0) (hk:Wk n bs w w' W m') {c:Int} (hc:bar=c):AnsW (ansD W bar W') w (.tuple #[.agg (encW W m').toArray,.int .i64 c]) w':=by
 rw [zaes hW hb,hc]
 exact ⟨n,m',rfl,hk.fin⟩
theorem AnsW.ok {n:Nat} {bs:List Nat} {w':World} {m':MW} (hW:zcq W=true) (hb:bar=0) (hk:Wk n bs w w' W' m'):AnsW (ansD W bar W') w (.tuple #[.agg (encW W' m').toArray,.int .i64 0]) w':=by
 rw [zaj2 hW hb]
 exact ⟨n,m',rfl,hk.fin⟩
theorem Wk.begin {x x1:Nat} {wr wv:World} {m':MW} (hx:w.heap.size≤x) (hx1:w.heap.size≤x1) (hx2:ExtX [] w wr) (hs:∀y∈[x,x1],y<wr.heap.size) (hM:MWd 8 wr.heap.size wv W m') (hy:ExtX [] wr wv):Wk 8 [x,x1] w wv W m' :=
 ⟨⟨hx2.trans hy,z71 hx hx1⟩,(OW.of hM hs).mono hx2.size⟩
end
end Go.Proofs.YtajdcjidpolloaaGreatDoor
namespace Go.Proofs.YtajdcjidpolloaaGreatDoor
open Go.RowKit
set_option linter.unusedVariables false
set_option linter.unusedSimpArgs false
set_option maxRecDepth 10000
theorem zs7 {α:Type} [Inhabited α] {l:List α} {i:Int} (h0:0≤i) (h1:i<(l.length:Int)):l.set i.toNat (gi l i)=l:=by
 obtain ⟨k,rfl⟩:=Int.eq_ofNat_of_zero_le h0
 rw [zd9 (by omega),Int.toNat_natCast,List.set_getElem_self]
theorem znx {W:Wld} {k:Int} {b:Bnd} (h0:0≤k) (h1:k<(W.groups.length:Int)):gi (setBd W k b).groups k={ gi W.groups k with band:=b }:=by
 unfold setBd
 rw [zly h0 h1 h0,if_pos rfl]
theorem zaaf {W:Wld} {k:Int} {b b':Bnd} (h0:0≤k) (h1:k<(W.groups.length:Int)):setBd (setBd W k b) k b'=setBd W k b':=by
 show zcn (setBd W k b) k { gi (setBd W k b).groups k with band:=b' }=_
 rw [znx h0 h1]
 unfold setBd zcn
 rw [List.set_set]
theorem zaag {W:Wld} {k:Int} {x y:Grp}:zcn (zcn W k x) k y=zcn W k y:=by unfold zcn; rw [List.set_set]
theorem zaef {W:Wld} {k:Int} (h0:0≤k) (h1:k<(W.groups.length:Int)):setBd W k (gi W.groups k).band=W:=by
 show zcn W k (gi W.groups k)=W
 unfold zcn
 rw [zs7 h0 h1]
section
variable {base:Nat} {W:Wld} {m:MW} {w:World} {k:Int} {b:Bnd}
abbrev ptB (m:MW) (k:Int):Option Addr:=m.gO.map (·.add (Int.toNat k*14+8))
theorem z3r (h:MWd 8 base w (setBd W k b) m):W.groups.length=8:=by
 have:=h.len
 simpa [setBd,zcn] using this
theorem MWd.bdRd (h:MWd 8 base w (setBd W k b) m) (k0:0≤k) (k8:k<8):zaa [] w m.gO (Int.toNat k*14+8) (zcx b (m.ms k.toNat))∧RdI [] w (m.ms k.toNat).lO b.locals∧RdB [] w (m.ms k.toNat).dO b.dry:=by
 have hr:=(h.rd (bs:=[]) (by simp)).g
 have hl:=z3r h
 have hl2:=h.len
 have hg:=znx (W:=W) (b:=b) k0 (by omega)
 have h1:=hr.band k0 (by omega)
 have h2:=hr.locals k k0 (by omega)
 have h3:=hr.dry k k0 (by omega)
 rw [hg] at h1 h2 h3
 exact ⟨h1,h2,h3⟩
theorem MWd.bdC (h:MWd 8 base w (setBd W k b) m) (k0:0≤k) (k8:k<8) {j:Nat} {v:Value} (hj:(zcx b (m.ms k.toNat))[j]? = some v):zaa [] w (ptB m k) (0+j) [v]:=zpd (h.bdRd k0 k8).1 hj
theorem MWd.bdSome (h:MWd 8 base w (setBd W k b) m) (k0:0≤k) (k8:k<8):(ptB m k).isSome=true:=zpl (h.bdRd k0 k8).1
theorem MWd.bdWr (h:MWd 8 base w (setBd W k b) m) (k0:0≤k) (k8:k<8) {j n:Nat} (hj:j+n≤5):WrX [] w (ptB m k) (0+j) n:=by
 have:=wrG h (bs:=[]) (by simp) k0 (by omega) (j:=8+j) (k:=n) (by omega)
 refine z77.2 ?_
 rw [Nat.zero_add,Nat.add_assoc]
 exact this
theorem MWd.bdWrL (h:MWd 8 base w (setBd W k b) m) (k0:0≤k) (k8:k<8) {c:Int} (c0:0≤c) (c1:c<(b.locals.length:Int)):WrX [] w (m.ms k.toNat).lO (Int.toNat c*1) 1:=by
 have hl:=z3r h
 have:=wrL h (bs:=[]) (by simp) k0 (by omega) (c:=c) c0 (by rw [znx k0 (by omega)]; exact c1) (j:=0) (k:=1) (by decide)
 exact this
theorem MWd.bdWrD (h:MWd 8 base w (setBd W k b) m) (k0:0≤k) (k8:k<8) {c:Int} (c0:0≤c) (c1:c<(b.dry.length:Int)):WrX [] w (m.ms k.toNat).dO (Int.toNat c*1) 1:=by
 have hl:=z3r h
 have:=wrD h (bs:=[]) (by simp) k0 (by omega) (c:=c) c0 (by rw [znx k0 (by omega)]; exact c1) (j:=0) (k:=1) (by decide)
 exact this
theorem MWd.bdSto (h:MWd 8 base w (setBd W k b) m) (k0:0≤k) (k8:k<8) {b':Bnd} (e1:b'.locals=b.locals) (e2:b'.dry=b.dry) {j:Nat} {vs:List Value} (he:zcx b' (m.ms k.toNat)=(zcx b (m.ms k.toNat)).take j++vs++(zcx b (m.ms k.toNat)).drop (j+vs.length)) (hj:j+vs.length≤5) :
  MWd 8 base (sto w (ptB m k) (0+j) vs) (setBd W k b') m:=by
 have hl:=z3r h
 have hg:=znx (W:=W) (b:=b) k0 (by omega)
 have this:MWd 8 base _ (zcn (setBd W k b) k { gi W.groups k with band:=b' }) m:=h.stoG0 k0 (by omega) (g:={ gi W.groups k with band:=b' }) (by rw [hg]; exact e1) (by rw [hg]; exact e2) (by rw [hg]) (j:=8+j) (vs:=vs) (by
  rw [hg]
  have e:∀x:Bnd,encG { gi W.groups k with band:=x } (m.ms k.toNat)=(encG (gi W.groups k) (m.ms k.toNat)).take 8++zcx x (m.ms k.toNat)++[.slice (m.ms k.toNat).sO (gi W.groups k).shelves.length (m.ms k.toNat).sC]:=fun x=>rfl
  rw [e b',e b,he]
  have l8:((encG (gi W.groups k) (m.ms k.toNat)).take 8).length=8:=rfl
  have l5:(zcx b (m.ms k.toNat)).length=5:=rfl
  generalize (encG (gi W.groups k) (m.ms k.toNat)).take 8=A at l8
  generalize zcx b (m.ms k.toNat)=B at l5
  have t1:(A++B++[Value.slice (m.ms k.toNat).sO (gi W.groups k).shelves.length (m.ms k.toNat).sC]).take (8+j)=A++B.take j:=by
   rw [List.append_assoc,List.take_append,List.take_of_length_le (by omega),l8,show 8+j - 8=j by omega,List.take_append,show j - B.length=0 by omega,List.take_zero,List.append_nil]
  have t2:(A++B++[Value.slice (m.ms k.toNat).sO (gi W.groups k).shelves.length (m.ms k.toNat).sC]).drop (8+j+vs.length)=B.drop (j+vs.length)++[Value.slice (m.ms k.toNat).sO (gi W.groups k).shelves.length (m.ms k.toNat).sC]:=by
   rw [List.append_assoc,List.drop_append,List.drop_eq_nil_iff.2 (by omega),List.nil_append,l8,show 8+j+vs.length - 8=j+vs.length by omega,List.drop_append,show j+vs.length - B.length=0 by omega,List.drop_zero]
  rw [t1,t2]
  simp only [List.append_assoc]) (by omega)
 rw [show zcn (setBd W k b) k { gi W.groups k with band:=b' }=setBd W k b' from zaag] at this
 rw [zu2,Nat.zero_add,Nat.add_assoc]
 exact this
theorem MWd.bdStoX {j:Nat} {vs:List Value}:ExtX (za3 8 m) w (sto w (ptB m k) (0+j) vs):=by rw [zu2]; exact subG
theorem MWd.bdStoL (h:MWd 8 base w (setBd W k b) m) (k0:0≤k) (k8:k<8) {c:Int} (c0:0≤c) (c1:c<(b.locals.length:Int)) (x:Int) :
  MWd 8 base (sto w (m.ms k.toNat).lO (Int.toNat c*1) [.int .i64 x]) (setBd W k { b with locals:=b.locals.set c.toNat x }) m:=by
 have hl:=z3r h
 have hg:=znx (W:=W) (b:=b) k0 (by omega)
 have hb:(gi (setBd W k b).groups k).band=b:=by rw [hg]
 have this:MWd 8 base _ (setBd (setBd W k b) k { (gi (setBd W k b).groups k).band with locals:=(gi (setBd W k b).groups k).band.locals.set c.toNat x }) m:=h.stoL k0 (by omega) c0 (by rw [hg]; exact c1) x
 rw [zaaf k0 (by omega),hb] at this
 exact this
theorem MWd.bdStoD (h:MWd 8 base w (setBd W k b) m) (k0:0≤k) (k8:k<8) {c:Int} (c0:0≤c) (c1:c<(b.dry.length:Int)) (x:Bool) :
  MWd 8 base (sto w (m.ms k.toNat).dO (Int.toNat c*1) [.bool x]) (setBd W k { b with dry:=b.dry.set c.toNat x }) m:=by
 have hl:=z3r h
 have hg:=znx (W:=W) (b:=b) k0 (by omega)
 have hb:(gi (setBd W k b).groups k).band=b:=by rw [hg]
 have this:MWd 8 base _ (setBd (setBd W k b) k { (gi (setBd W k b).groups k).band with dry:=(gi (setBd W k b).groups k).band.dry.set c.toNat x }) m:=h.stoD k0 (by omega) c0 (by rw [hg]; exact c1) x
 rw [zaaf k0 (by omega),hb] at this
 exact this
def BdR (base:Nat) (W:Wld) (m:MW) (k:Int) (b':Bnd) (w w':World):Prop:=MWd 8 base w' (setBd W k b') m∧ExtX (za3 8 m) w w'
theorem z37 (h:MWd 8 base w (setBd W k b) m) (k0:0≤k) (k8:k<8) (hl:b.dry.length≤1048576) :
  Calls Tryz.prog zgc #[.pointer (ptB m k)] w fun e w'=>e = .returned (.tuple #[])∧BdR base W m k { b with dry:=List.replicate b.dry.length false } w w':=by
 refine (zy3 (ptB m k) (R:=fun v w'=>v = .tuple #[]∧BdR base W m k { b with dry:=List.replicate b.dry.length false } w w') ?_).mono fun e w' ⟨v,he,hv,h3⟩=>⟨by rw [he,hv],h3⟩
 refine ⟨h.bdSome k0 k8,_,_,_,h.bdC k0 k8 (j:=4) rfl,?_⟩
 refine zd6 b.dry.length 0 rfl (fun j w1=>j≤b.dry.length∧MWd 8 base w1 (setBd W k { b with dry:=List.replicate j false++b.dry.drop j }) m∧ExtX (za3 8 m) w w1) (fun w1 hx1 _=>⟨Nat.zero_le _,by simpa using h.ext0 hx1,hx1.of_nil⟩) fun j w1 hs ⟨hj,hO,hX⟩=>⟨fun hlt => ?_,fun hge => ?_⟩
 ·have hlt:=of_decide_eq_true hlt
  have hlen:(List.replicate j false++b.dry.drop j).length=b.dry.length:=by simp; omega
  have c1:(j:Int)<((List.replicate j false++b.dry.drop j).length:Int):=by rw [hlen]; exact hlt
  have e1:=hO.bdStoD k0 k8 (c:=(j:Int)) (by omega) c1 false
  have hcell:=hO.bdC k0 k8 (j:=4) rfl
  have hix:=(hO.bdRd k0 k8).2.2.ix zom (i:=(j:Int)) (by omega) c1
  refine ⟨hO.bdSome k0 k8,_,_,_,hcell,hix,hO.bdWrD k0 k8 (by omega) c1,⟨by omega,by omega⟩,fun w2 hx2 _=>zae (by omega) ⟨by omega,?_,?_⟩⟩
  ·have e2:=e1.ext0 hx2
   simp only [Int.toNat_natCast] at e2
   rw [zac5 _ _ (by omega)] at e2
   exact e2
  ·exact (hX.trans (subD (by omega))).trans hx2.of_nil
 ·have hge:=of_decide_eq_false hge
  have hk2:j=b.dry.length:=by omega
  subst hk2
  rw [List.drop_length,List.append_nil] at hO
  exact fun w2 hx2=>⟨rfl,hO.ext0 hx2,hX.trans hx2.of_nil⟩
theorem z2p (h:MWd 8 base w (setBd W k b) m) (k0:0≤k) (k8:k<8) (hb:BndP b) {c:Int} (c0:0≤c) (c1:c<(b.locals.length:Int)) :
  Calls Tryz.prog zft #[.pointer (ptB m k),.int .i64 c] w fun e w'=>e = .returned (.int .i64 0)∧BdR base W m k (zf9 b c) w w':=by
 refine (zq2 (ptB m k) c (R:=fun v w'=>v = .int .i64 0∧BdR base W m k (zf9 b c) w w') ?_).mono fun e w' ⟨v,he,hv,h3⟩=>⟨by rw [he,hv],h3⟩
 have he':=hb.each c c0 c1
 have p1:=hb.p1
 have p2:=hb.p2
 have q2:=hb.q2
 have hs:=h.bdSome k0 k8
 have hL:=(h.bdRd k0 k8).2.1
 have hix:=hL.ix zgs c0 c1
 have e1:=h.bdSto k0 k8 (b':={ b with pool:=b.pool+gi b.locals c }) rfl rfl (j:=1) (vs:=[.int .i64 (b.pool+gi b.locals c)]) rfl (by simp)
 have e2:=e1.bdStoL k0 k8 c0 c1 0
 have hX:=(MWd.bdStoX (m:=m) (k:=k) (w:=w) (j:=1) (vs:=[.int .i64 (b.pool+gi b.locals c)])).trans (subL (m:=m) (k:=Int.toNat c*1) (vs:=[.int .i64 0]) (i:=k.toNat) (by omega))
 refine ⟨hs,_,h.bdC k0 k8 (j:=1) rfl,hs,_,_,_,h.bdC k0 k8 (j:=3) rfl,hix,_,hL c c0 c1,⟨by omega,by omega⟩,hs,h.bdWr k0 k8 (j:=1) (by decide),hs,_,_,_,e1.bdC k0 k8 (j:=3) rfl,hix,e1.bdWrL k0 k8 c0 c1,hs,_,e2.bdC k0 k8 (j:=1) rfl,fun g wr hx _ => ?_,fun g wr hx=>⟨rfl,?_,hX.trans hx.of_nil⟩⟩
 ·have g:=of_decide_eq_true g
  refine Calls.mono (z37 (e2.ext0 hx) k0 k8 (by show b.dry.length≤_; have:=hb.dl; have:=hb.l2; omega)) ?_
  rintro e wv ⟨he,hM,hy⟩
  refine ⟨he,zbc,fun wr1 hx1=>⟨rfl,?_,((hX.trans hx.of_nil).trans hy).trans hx1.of_nil⟩⟩
  have:zf9 b c=⟨b.quota,b.pool+gi b.locals c,b.spent,b.locals.set c.toNat 0,List.replicate b.dry.length false⟩:=by unfold zf9; rw [if_pos g]
  rw [this]
  exact hM.ext0 hx1
 ·have g:=of_decide_eq_false g
  have:zf9 b c=⟨b.quota,b.pool+gi b.locals c,b.spent,b.locals.set c.toNat 0,b.dry⟩:=by unfold zf9; rw [if_neg g]
  rw [this]
  exact e2.ext0 hx
theorem zadl (l:List Int) (k:Nat) (h:k<l.length):(List.replicate k (0:Int)++l.drop k).set k 0=List.replicate (k+1) 0++l.drop (k+1):=by
 rw [List.set_append,if_neg (by simp),List.length_replicate,Nat.sub_self,List.drop_eq_getElem_cons h,List.set_cons_zero,List.replicate_succ',List.append_assoc,List.singleton_append]
theorem z2o (h:MWd 8 base w (setBd W k b) m) (k0:0≤k) (k8:k<8) (hb:BndP b) :
  Calls Tryz.prog zfs #[.pointer (ptB m k)] w fun e w'=>e = .returned (.int .i64 0)∧BdR base W m k (z87 b) w w':=by
 refine (zq1 (ptB m k) (R:=fun v w'=>v = .int .i64 0∧BdR base W m k (z87 b) w w') ?_).mono fun e w' ⟨v,he,hv,h3⟩=>⟨by rw [he,hv],h3⟩
 have hdl:=hb.dl
 have hl2:=hb.l2
 have hs:=h.bdSome k0 k8
 have e1:=h.bdSto k0 k8 (b':={ b with pool:=b.quota }) rfl rfl (j:=1) (vs:=[.int .i64 b.quota]) rfl (by simp)
 have e2:=e1.bdSto k0 k8 (b':={ b with pool:=b.quota,spent:=0 }) rfl rfl (j:=2) (vs:=[.int .i64 0]) rfl (by simp)
 have hX2:=(MWd.bdStoX (m:=m) (k:=k) (w:=w) (j:=1) (vs:=[.int .i64 b.quota])).trans (MWd.bdStoX (m:=m) (k:=k) (j:=2) (vs:=[.int .i64 0]))
 refine ⟨hs,_,h.bdC k0 k8 (j:=0) rfl,hs,h.bdWr k0 k8 (j:=1) (by decide),hs,e1.bdWr k0 k8 (j:=2) (by decide),hs,_,_,_,e2.bdC k0 k8 (j:=3) rfl,?_⟩
 refine zd6 b.locals.length 0 rfl (fun j w1=>j≤b.locals.length∧MWd 8 base w1 (setBd W k { b with pool:=b.quota,spent:=0,locals:=List.replicate j 0++b.locals.drop j }) m∧ExtX (za3 8 m) w w1) (fun w1 hx1 _=>⟨Nat.zero_le _,by simpa using e2.ext0 hx1,hX2.trans hx1.of_nil⟩) fun j w1 hs ⟨hj,hO,hX⟩=>⟨fun hlt => ?_,fun hge => ?_⟩
 ·have hlt:=of_decide_eq_true hlt
  have hlen:(List.replicate j (0:Int)++b.locals.drop j).length=b.locals.length:=by simp; omega
  have c1:(j:Int)<((List.replicate j (0:Int)++b.locals.drop j).length:Int):=by rw [hlen]; exact hlt
  have e1:=hO.bdStoL k0 k8 (c:=(j:Int)) (by omega) c1 0
  have hcell:=hO.bdC k0 k8 (j:=3) rfl
  have hix:=(hO.bdRd k0 k8).2.1.ix zgs (i:=(j:Int)) (by omega) c1
  refine ⟨hO.bdSome k0 k8,_,_,_,hcell,hix,hO.bdWrL k0 k8 (by omega) c1,⟨by omega,by omega⟩,fun w2 hx2 _=>zae (by omega) ⟨by omega,?_,?_⟩⟩
  ·have e2:=e1.ext0 hx2
   simp only [Int.toNat_natCast] at e2
   rw [zadl _ _ (by omega)] at e2
   exact e2
  ·exact (hX.trans (subL (by omega))).trans hx2.of_nil
 ·have hge:¬(j:Int)<(b.locals.length:Int):=of_decide_eq_false hge
  have hk2:j=b.locals.length:=by omega
  subst hk2
  rw [List.drop_length,List.append_nil] at hO
  intro wr2 hx2 _
  refine Calls.mono (z37 (hO.ext0 hx2) k0 k8 (by show b.dry.length≤_; omega)) ?_
  rintro e wv ⟨he,hM,hy⟩
  refine ⟨he,zbc,fun wr1 hx1=>⟨rfl,?_,((hX.trans hx2.of_nil).trans hy).trans hx1.of_nil⟩⟩
  unfold z87
  rw [show List.replicate b.dry.length (0:Int)=List.replicate b.locals.length 0 by rw [hdl]]
  exact hM.ext0 hx1
theorem zanh (p:Int):(if p<20 then p else 20)=minI 20 p:=by
 unfold minI
 split <;> split <;> omega
theorem zag5 {l:List Bool} {c:Int} (c0:0≤c) (c1:c<(l.length:Int)) (h:gi l c=false):l.set c.toNat false=l:=by
 have:=zs7 c0 c1
 rwa [h] at this
theorem zajm {l:List Int} {c:Int} (c0:0≤c) (c1:c<(l.length:Int)) (h:gi l c=0):l.set c.toNat 0=l:=by
 have:=zs7 c0 c1
 rwa [h] at this
theorem z9k (h:MWd 8 base w (setBd W k b) m) (k0:0≤k) (k8:k<8) (hb:BndP b) {c:Int} (c0:0≤c) (c1:c<(b.locals.length:Int)) :
  Calls Tryz.prog zg1 #[.pointer (ptB m k),.int .i64 c] w fun e w'=>e = .returned (.int .i64 (zro b c).2)∧BdR base W m k (zro b c).1 w w':=by
 refine (zt1 (ptB m k) c (R:=fun v w'=>v = .int .i64 (zro b c).2∧BdR base W m k (zro b c).1 w w') ?_).mono fun e w' ⟨v,he,hv,h3⟩=>⟨by rw [he,hv],h3⟩
 have he':=hb.each c c0 c1
 have hdl:=hb.dl
 have p1:=hb.p1
 have p2:=hb.p2
 have q2:=hb.q2
 have hm:=zagj p1
 have hs:=h.bdSome k0 k8
 have hL:=(h.bdRd k0 k8).2.1
 have hD:=(h.bdRd k0 k8).2.2
 have hix:=hL.ix zgs c0 c1
 refine ⟨hs,_,_,_,h.bdC k0 k8 (j:=3) rfl,hix,_,hL c c0 c1,fun g wr hx => ?_,fun g=>⟨hs,_,h.bdC k0 k8 (j:=1) rfl,?_⟩⟩
 ·have ht:zro b c=(b,0):=by unfold zro; rw [if_pos (of_decide_eq_true g)]
  rw [ht]
  exact ⟨rfl,h.ext0 hx,hx.of_nil⟩
 have g:=of_decide_eq_false g
 have hz:gi b.locals c=0:=by omega
 have ht:zro b c=(⟨b.quota,b.pool - minI 20 b.pool,b.spent,b.locals.set c.toNat (minI 20 b.pool),b.dry.set c.toNat (minI 20 b.pool==0)⟩,if minI 20 b.pool=0 then 2 else 0):=by unfold zro; rw [if_neg g]
 rw [ht,zanh]
 refine ⟨fun g2 => ?_,fun g2 => ?_⟩
 ·have g2':minI 20 b.pool=0:=by simpa using g2
  have e1:=h.bdStoD k0 k8 c0 (by omega) true
  refine ⟨hs,_,_,_,h.bdC k0 k8 (j:=4) rfl,hD.ix zom c0 (by omega),h.bdWrD k0 k8 c0 (by omega),fun wr hx=>⟨by rw [if_pos g2'],?_,(subD (by omega)).trans hx.of_nil⟩⟩
  dsimp only
  rw [g2',Int.sub_zero,zajm c0 c1 hz]
  exact e1.ext0 hx
 ·have g2':minI 20 b.pool≠0:=by simpa using g2
  have hdr:gi b.dry c=false:=by
   cases hd:gi b.dry c with
   | false=>rfl
   | true=>have:=(he'.2.2 hd).2; omega
  have e1:=h.bdSto k0 k8 (b':={ b with pool:=b.pool - minI 20 b.pool }) rfl rfl (j:=1) (vs:=[.int .i64 (b.pool - minI 20 b.pool)]) rfl (by simp)
  have e2:=e1.bdStoL k0 k8 c0 c1 (minI 20 b.pool)
  have hX:=(MWd.bdStoX (m:=m) (k:=k) (w:=w) (j:=1) (vs:=[.int .i64 (b.pool - minI 20 b.pool)])).trans (subL (m:=m) (k:=Int.toNat c*1) (vs:=[.int .i64 (minI 20 b.pool)]) (i:=k.toNat) (by omega))
  refine ⟨hs,_,h.bdC k0 k8 (j:=1) rfl,⟨by omega,by omega⟩,hs,h.bdWr k0 k8 (j:=1) (by decide),hs,_,_,_,e1.bdC k0 k8 (j:=3) rfl,hix,e1.bdWrL k0 k8 c0 c1,fun wr hx=>⟨by rw [if_neg g2'],?_,hX.trans hx.of_nil⟩⟩
  dsimp only
  rw [g2,zag5 c0 (by omega) hdr]
  exact e2.ext0 hx
theorem z6q (h:MWd 8 base w (setBd W k b) m) (k0:0≤k) (k8:k<8) (hb:BndP b) {c n:Int} (c0:0≤c) (c1:c<(b.locals.length:Int)) :
  Calls Tryz.prog zgl #[.pointer (ptB m k),.int .i64 c,.int .i64 n] w fun e w'=>e = .returned (.int .i64 (zlf b c n).2)∧BdR base W m k (zlf b c n).1 w w':=by
 refine (zsd (ptB m k) c n (R:=fun v w'=>v = .int .i64 (zlf b c n).2∧BdR base W m k (zlf b c n).1 w w') ?_).mono fun e w' ⟨v,he,hv,h3⟩=>⟨by rw [he,hv],h3⟩
 have he':=hb.each c c0 c1
 have q2:=hb.q2
 have s1:=hb.s1
 have s2:=hb.s2
 have hs:=h.bdSome k0 k8
 have hL:=(h.bdRd k0 k8).2.1
 have hix:=hL.ix zgs c0 c1
 refine ⟨fun _=>hs,_,_,_,fun _=>h.bdC k0 k8 (j:=3) rfl,fun _=>hix,_,fun _=>hL c c0 c1,fun g wr hx => ?_,fun g => ?_⟩
 ·have ht:zlf b c n=(b,3):=by unfold zlf; rw [if_pos (by simpa using g)]
  rw [ht]
  exact ⟨rfl,h.ext0 hx,hx.of_nil⟩
 ·have g':¬(n<1∨n>gi b.locals c):=by simpa using g
  have ht:zlf b c n=({ b with spent:=b.spent+n,locals:=b.locals.set c.toNat (gi b.locals c - n) },0):=by unfold zlf; rw [if_neg g']
  rw [ht]
  have e1:=h.bdStoL k0 k8 c0 c1 (gi b.locals c - n)
  have e2:=e1.bdSto k0 k8 (b':={ b with spent:=b.spent+n,locals:=b.locals.set c.toNat (gi b.locals c - n) }) rfl rfl (j:=2) (vs:=[.int .i64 (b.spent+n)]) rfl (by simp)
  have hX:=(subL (m:=m) (w:=w) (k:=Int.toNat c*1) (vs:=[.int .i64 (gi b.locals c - n)]) (i:=k.toNat) (n:=8) (by omega)).trans (MWd.bdStoX (m:=m) (k:=k) (j:=2) (vs:=[.int .i64 (b.spent+n)]))
  exact ⟨hs,_,_,_,h.bdC k0 k8 (j:=3) rfl,hix,_,hL c c0 c1,⟨by omega,by omega⟩,hix,h.bdWrL k0 k8 c0 c1,hs,_,e1.bdC k0 k8 (j:=2) rfl,⟨by show _≤b.spent+n; omega,by show b.spent+n≤_; omega⟩,hs,e1.bdWr k0 k8 (j:=2) (by decide),fun wr hx=>⟨rfl,e2.ext0 hx,hX.trans hx.of_nil⟩⟩
theorem zafw (h:MWd 8 base w (setBd W k b) m) (k0:0≤k) (k8:k<8) (hb:BndP b) {op:QOp} :
  Calls Tryz.prog zkm #[.pointer (ptB m k),.agg (encO op).toArray] w fun e w'=>e = .returned (.int .i64 (zfp b op).2)∧BdR base W m k (zfp b op).1 w w':=by
 refine (z18 (ptB m k) op.kind op.at' op.n (R:=fun v w'=>v = .int .i64 (zfp b op).2∧BdR base W m k (zfp b op).1 w w') ?_).mono fun e w' ⟨v,he,hv,h3⟩=>⟨by rw [he,hv],h3⟩
 have hl2:=hb.l2
 have hs:=h.bdSome k0 k8
 intro b1 hb1
 have one:∀{w1:World},ExtX [] w w1→∀y∈za3 8 m,y∉[b1]:=fun _ y hy hm=>by
  have:y=b1:=by simpa using hm
  have:=(h.lt y hy).2
  omega
 have fin:∀{w1 w2 w3:World} {b':Bnd} {c:Int},ExtX [] w w1→(∀y∈[b1],y<w1.heap.size)→BdR base W m k b' w1 w2→ExtX [b1] w2 w3→zfp b op=(b',c)→Kept [b1] w1 w2∧BdR base W m k (zfp b op).1 w w3:=fun h1 h2 h3 h4 h5=>by
  refine ⟨fun y hm=>h3.2.block y (h2 y hm) fun hm'=>one h1 y hm' hm,?_⟩
  rw [h5]
  exact ⟨h3.1.ext h4 (one h1), (h1.of_nil.trans h3.2).fresh h4 fun y hm => .inl (by have:y=b1:=by simpa using hm
                                                                                    omega)⟩
 refine ⟨fun g wr hx hs1 => ?_,fun g=>⟨hs,_,_,_,h.bdC k0 k8 (j:=3) rfl,⟨by omega,by omega⟩,_,zaj,fun g2 wr hx => ?_,fun g2 => ?_⟩⟩
 ·have hbd:zfp b op=(z87 b,0):=by unfold zfp; rw [if_pos (by simpa using g)]
  refine Calls.mono (z2o (h.ext0 hx) k0 k8 hb) ?_
  rintro e wv ⟨he,hR⟩
  exact ⟨_,he,(fin hx hs1 hR (ExtX.refl _ _) hbd).1,fun wr1 hx1=>⟨by rw [hbd],(fin hx hs1 hR hx1 hbd).2⟩⟩
 all_goals have g:¬op.kind=4:=by simpa using g
 ·have hbd:zfp b op=(b,1):=by unfold zfp; rw [if_neg g,if_pos (by simpa using g2)]
  rw [hbd]
  exact ⟨rfl,h.ext0 hx,hx.of_nil⟩
 have g2:inB op.at' 0 ((b.locals.length:Int) - 1)=true:=by simpa using g2
 obtain ⟨c0,c1⟩:=za0.1 g2
 have c1:op.at'<(b.locals.length:Int):=by omega
 have hbd:zfp b op=if op.kind=1 then zro b op.at' else if op.kind=2 then zlf b op.at' op.n else if op.kind=3 then (zf9 b op.at',0) else (b,1):=by
  unfold zfp; rw [if_neg g,if_neg (by rw [g2]; decide)]
 refine ⟨fun g3 wr hx hs1 => ?_,fun g3=>⟨fun g4 wr hx hs1 => ?_,fun g4=>⟨fun g5 wr hx hs1 => ?_,fun g5 wr hx => ?_⟩⟩⟩
 ·rw [if_pos (by simpa using g3)] at hbd
  refine Calls.mono (z9k (h.ext0 hx) k0 k8 hb c0 c1) ?_
  rintro e wv ⟨he,hR⟩
  exact ⟨_,he,(fin hx hs1 hR (ExtX.refl _ _) hbd).1,fun wr1 hx1=>⟨by rw [hbd],(fin hx hs1 hR hx1 hbd).2⟩⟩
 ·rw [if_neg (by simpa using g3),if_pos (by simpa using g4)] at hbd
  refine Calls.mono (z6q (n:=op.n) (h.ext0 hx) k0 k8 hb c0 c1) ?_
  rintro e wv ⟨he,hR⟩
  exact ⟨_,he,(fin hx hs1 hR (ExtX.refl _ _) hbd).1,fun wr1 hx1=>⟨by rw [hbd],(fin hx hs1 hR hx1 hbd).2⟩⟩
 ·rw [if_neg (by simpa using g3),if_neg (by simpa using g4),if_pos (by simpa using g5)] at hbd
  refine Calls.mono (z2p (h.ext0 hx) k0 k8 hb c0 c1) ?_
  rintro e wv ⟨he,hR⟩
  exact ⟨_,he,(fin hx hs1 hR (ExtX.refl _ _) hbd).1,fun wr1 hx1=>⟨by rw [hbd],(fin hx hs1 hR hx1 hbd).2⟩⟩
 ·rw [if_neg (by simpa using g3),if_neg (by simpa using g4),if_neg (by simpa using g5)] at hbd
  rw [hbd]
  exact ⟨rfl,h.ext0 hx,hx.of_nil⟩
end
end Go.Proofs.YtajdcjidpolloaaGreatDoor
namespace Go.Proofs.YtajdcjidpolloaaGreatDoor
open Go.RowKit
set_option linter.unusedVariables false
set_option linter.unusedSimpArgs false
set_option maxRecDepth 10000
structure PW (base pb:Nat) (w:World) (W:Wld) (m:MW):Prop where
 own:MWd 8 base w W m
 pt:w.heap[pb]? = some (.cells (encW W m).toArray zaz (0,0))
 pn:pb∉za3 8 m
abbrev pA (pb:Nat):Option Addr:=some ⟨pb,0,none⟩
structure Mp (base pb:Nat) (bs:List Nat) (w0:World) (m0:MW) (w:World) (W:Wld) (m:MW):Prop where
 v:Mv 8 base bs w0 m0 w W m
 pt:w.heap[pb]? = some (.cells (encW W m).toArray zaz (0,0))
 pn:pb∉za3 8 m
 pb:pb∉bs
section
variable {base pb:Nat} {bs cs:List Nat} {w0 w w':World} {W W':Wld} {m0 m m':MW} {b:Nat}
theorem Mp.start (h:PW base pb w W m):Mp base pb [] w m w W m:=⟨Mv.start h.own,h.pt,h.pn,by simp⟩
theorem Mp.pw (h:Mp base pb bs w0 m0 w W m):PW base pb w W m:=⟨h.v.own,h.pt,h.pn⟩
theorem Mp.add (h:Mp base pb bs w0 m0 w W m) (hb:w.heap.size≤b):Mp base pb (bs++[b]) w0 m0 w W m:=⟨h.v.add hb,h.pt,h.pn,fun hm=>by
 rcases List.mem_append.1 hm with hm | hm
 ·exact h.pb hm
 ·have:pb=b:=by simpa using hm
  have:=zjn h.pt
  omega⟩
theorem Mp.step (h:Mp base pb bs w0 m0 w W m) (hx:ExtX bs w w'):Mp base pb bs w0 m0 w' W m:=⟨h.v.step hx,zan h.pt hx h.pb,h.pn,h.pb⟩
theorem Mp.call0 (h:Mp base pb bs w0 m0 w W m) (hx:ExtX [] w w'):Mp base pb bs w0 m0 w' W m:=⟨h.v.call0 hx,zan h.pt hx (by simp),h.pn,h.pb⟩
theorem Mp.call (h:Mp base pb bs w0 m0 w W m) (k:Mp base pb [] w m w' W' m') (hs:∀x∈bs,x<w.heap.size):Mp base pb bs w0 m0 w' W' m':=⟨h.v.call k.v hs,k.pt,k.pn,h.pb⟩
theorem Mp.kept (h:Mp base pb bs w0 m0 w W m) (k:Mp base pb [] w m w' W' m') (hs:∀x∈bs,x<w.heap.size):Kept bs w w':=h.v.kept k.v hs
theorem Mp.deed (h:Mp base pb bs w0 m0 w W m) (k:MWd 8 base w' W' m) (hx:ExtX (za3 8 m) w w') (he:encW W' m=encW W m):Mp base pb bs w0 m0 w' W' m:=⟨h.v.deed k hx,by rw [he]; exact zan h.pt hx h.pn,h.pn,h.pb⟩
theorem Mp.sub (h:Mp base pb bs w0 m0 w W m) (hs:∀x∈cs,x∈bs):Mp base pb cs w0 m0 w W m:=⟨h.v.sub' hs,h.pt,h.pn,fun hm=>h.pb (hs _ hm)⟩
theorem Mp.close (h:Mp base pb bs w0 m0 w W m):Mp base pb [] w0 m0 w W m:=h.sub (by simp)
theorem Mp.wpt (h:Mp base pb bs w0 m0 w W m):WPt bs w (pA pb) W m:=⟨zj4 h.pt h.pb (k0:=0) fun j v hj=>by simpa using hj,h.v.rd⟩
theorem Mp.own (h:Mp base pb bs w0 m0 w W m):MWd 8 base w W m:=h.v.own
theorem Mp.nb (h:Mp base pb bs w0 m0 w W m):∀x∈za3 8 m,x∉bs:=h.v.nb
theorem PW.ext0 (h:PW base pb w W m) (hx:ExtX [] w w'):PW base pb w' W m:=((Mp.start h).call0 hx).pw
end
theorem zajk {W:Wld} {k c:Int} {s:Shf} (h0:0≤k) (h1:k<(W.groups.length:Int)):gi (setSh W k c s).groups k={ gi W.groups k with shelves:=(gi W.groups k).shelves.set c.toNat s }:=by
 unfold setSh
 rw [zly h0 h1 h0,if_pos rfl]
theorem zaai {W:Wld} {k c:Int} {s s':Shf} (h0:0≤k) (h1:k<(W.groups.length:Int)):setSh (setSh W k c s) k c s'=setSh W k c s':=by
 show zcn (setSh W k c s) k { gi (setSh W k c s).groups k with shelves:=(gi (setSh W k c s).groups k).shelves.set c.toNat s' }=_
 rw [zajk h0 h1]
 dsimp only
 rw [List.set_set]
 exact zaag
theorem zaeh {W:Wld} {k c:Int} (h0:0≤k) (h1:k<(W.groups.length:Int)) (c0:0≤c) (c1:c<((gi W.groups k).shelves.length:Int)):setSh W k c (shf W k c)=W:=by
 show zcn W k { gi W.groups k with shelves:=(gi W.groups k).shelves.set c.toNat (gi (gi W.groups k).shelves c) }=W
 rw [zs7 c0 c1]
 unfold zcn
 rw [zs7 h0 h1]
section
variable {base pb:Nat} {bs:List Nat} {w:World} {W:Wld} {m:MW} {k c:Int}
theorem MWd.shSto (h:MWd 8 base w W m) (k0:0≤k) (k8:k<8) (c0:0≤c) (c1:c<((gi W.groups k).shelves.length:Int)) {j:Nat} {vs:List Value} {s:Shf} (he:encS s=(encS (shf W k c)).take j++vs++(encS (shf W k c)).drop (j+vs.length)) (hj:j+vs.length≤5) :
  MWd 8 base (sto w (shO m k c) (0+j) vs) (setSh W k c s) m:=by
 have:=h.stoS k0 (by omega) c0 c1 he hj
 rw [←zamy] at this
 unfold shO
 rw [zu2,Nat.zero_add]
 exact this
theorem MWd.shWr (h:MWd 8 base w W m) (hd:∀x∈za3 8 m,x∉bs) (k0:0≤k) (k8:k<8) (c0:0≤c) (c1:c<((gi W.groups k).shelves.length:Int)) {j n:Nat} (hj:j+n≤5):WrX bs w (shO m k c) (0+j) n:=by
 unfold shO
 refine z77.2 ?_
 rw [Nat.zero_add]
 exact wrS h hd k0 (by omega) c0 c1 hj
theorem zaao {vs:List Value} {j:Nat} (k0:0≤k) (k8:k<8):ExtX (za3 8 m) w (sto w (shO m k c) (0+j) vs):=by
 unfold shO
 rw [zu2]
 exact subS (by omega)
theorem zgj (h:PW base pb w W m) (c0:0≤c) (c1:c<(W.cpus.length:Int)) :
  Calls Tryz.prog zbs #[.agg #[.pointer (pA pb),.int .i64 c]] w fun e w'=>e = .returned (.tuple #[])∧Mp base pb [] w m w' (endW W c) m:=by
 refine (zpu (pA pb) c (R:=fun v w'=>v = .tuple #[]∧Mp base pb [] w m w' (endW W c) m) ?_).mono fun e w' ⟨v,he,hv,h3⟩=>⟨by rw [he,hv],h3⟩
 intro b hb
 obtain ⟨e1,e2⟩:=zago h.own c0 c1
 have hM:=Mp.start h
 have hp:=hM.wpt
 have hr:=h.own.rd (bs:=[]) (by simp)
 have hs:=zpl (n:=Int.toNat c*5) (hr.c c c0 c1)
 refine ⟨_,zj6 hp c0 c1,_,zj6 hp c0 c1,hs,z77.2 (wrC h.own (by simp) c0 c1 (by decide)),hs,?_⟩
 rw [zu2]
 refine ⟨z77.2 (wrC e1 (by simp) c0 (by simpa using c1) (by decide)),?_⟩
 rw [zu2]
 exact fun wr hx=>⟨rfl,(hM.deed e2 (subC.trans subC) (by simp [encW,endW,zaeg])).call0 hx⟩
theorem z6o {p:Option Addr} {g:Int} (h:WPt bs w p W m) (ht:zei W.groups) (hu:zad W.groups g=true):zab bs Tryz.prog zgm #[.pointer p,.int .i64 g] w (.int .i64 (dep 3 W.groups g)) :=
 zsy p g fun wr hx=>by
  have h:=(h.ext hx).less (cs:=[]) (by simp)
  have hdr:∀x,zad W.groups x=true→0≤dep 3 W.groups x∧dep 3 W.groups x≤3:=fun x hux=>by
   by_cases hz:x=0
   ·subst hz; rw [zgz]; omega
   ·obtain ⟨_,_,_,d,e,_,hd⟩:=zgy ht hux hz
    omega
  refine ⟨fun vs=>∃(x s:Int),vs=[.int .i64 x,.int .i64 s]∧zad W.groups x=true∧0≤s∧s+dep 3 W.groups x=dep 3 W.groups g,fun vs=>(dep 3 W.groups (zcw 0 vs)).toNat,⟨g,0,rfl,hu,by decide,by omega⟩,?_⟩
  rintro x s ⟨x',s',he,hux,hs0,hI⟩
  simp only [List.cons.injEq,Value.int.injEq,true_and,and_true] at he
  obtain ⟨rfl,rfl⟩:=he
  have hgd:=hdr g hu
  have hxd:=hdr x hux
  refine ⟨fun hz => ?_,fun hz => ?_⟩
  ·have hz:x≠0:=by simpa using hz
   obtain ⟨hp,a,b,d,e,e2,hd⟩:=zgy ht hux hz
   refine ⟨⟨by omega,by omega⟩,h.some,_,_,_,h.groups,h.rd.g.ix a b,_,h.rd.g.parent a b,⟨_,_,rfl,hp,by omega,by omega⟩,?_⟩
   show (dep 3 W.groups (gi W.groups x).parent).toNat<(dep 3 W.groups x).toNat
   omega
  ·have hz:x=0:=by simpa using hz
   subst hz
   rw [zgz] at hI
   rw [show s=dep 3 W.groups g by omega]
set_option maxHeartbeats 1000000 in
theorem zk6 {F K:Int} (h:PW base pb w W m) (hsw:SF F K W) (hk:F+lagB≤K) (hK:K≤1000000000000000000) (c0:0≤c) (c1:c<(W.cpus.length:Int)) :
  Calls Tryz.prog zb5 #[.agg #[.pointer (pA pb),.int .i64 c]] w fun e w'=>e = .returned (.tuple #[])∧Mp base pb [] w m w' (za7 W c) m:=by
 refine (zm5 (pA pb) c (R:=fun v w'=>v = .tuple #[]∧Mp base pb [] w m w' (za7 W c) m) ?_).mono fun e w' ⟨v,he,hv,h3⟩=>⟨by rw [he,hv],h3⟩
 intro x hx
 have hgl:=hsw.w.a.gl
 refine ⟨fun vs w1=>∃(j:Nat),vs=[.int .i64 (3 - (j:Int))]∧j≤3∧Mp base pb [x] w m w1 (zgt W c j) m,
  fun vs _=>(zcw 0 vs).toNat,fun wr hx0 _=>⟨0,rfl,by decide,((Mp.start h).add hx).call0 hx0⟩,?_⟩
 rintro d wv hs ⟨j,he,j3,hM⟩
 obtain ⟨hS,hO⟩:=zsr hsw hk c0 c1 j j3
 have hN:zgt W c (j+1)=zdj (zgt W c j) c (3 - (j:Int)) 8:=rfl
 have hE:j=3→zgt W c j=za7 W c:=fun e=>by rw [e]; rfl
 generalize zgt W c j=W1 at hM hS hO hN hE
 simp only [List.cons.injEq,Value.int.injEq,true_and,and_true] at he
 refine ⟨fun hd => ?_,fun hd => ?_⟩
 ·have hd:=of_decide_eq_true hd
  have c1':c<(W1.cpus.length:Int):=by rw [hO.c]; exact c1
  have hgl1:W1.groups.length=W.groups.length:=hO.g.len
  have hp:=hM.wpt
  refine ⟨hp.some,_,_,_,hp.groups,?_⟩
  rw [hgl1]
  refine zd6 W.groups.length 0 rfl (fun k w2=>k≤8∧Mp base pb [x] w m w2 (zdj W1 c d k) m) (fun w2 hx2 _=>⟨by decide,hM.step hx2⟩) fun k w2 hs2 ⟨hk8,hM2⟩ => ?_
  obtain ⟨hS2,hO2⟩:=zxg hS hk (c:=c) (d:=d) (by omega) c0 c1' k hk8
  have hf2:=hO.trans hO2
  have hgl2:(zdj W1 c d k).groups.length=W.groups.length:=hf2.g.len
  have hcl2:(zdj W1 c d k).cpus.length=W.cpus.length:=by rw [hf2.c]
  have hdef:zdj W1 c d (k+1)=if (gi (zdj W1 c d k).groups (k:Int)).used=true∧dep 3 (zdj W1 c d k).groups (k:Int)=d then setSh (zdj W1 c d k) (k:Int) c (zez (zdj W1 c d k) (k:Int) c) else zdj W1 c d k:=rfl
  have hN8:k=8→zgt W c (j+1)=zdj W1 c d k:=fun e=>by rw [hN,←he,e]
  generalize zdj W1 c d k=W2 at hM2 hS2 hO2 hf2 hgl2 hcl2 hdef hN8
  have hp2:=hM2.wpt
  have hr:=hp2.rd
  refine ⟨fun hlt => ?_,fun hge => ?_⟩
  ·have hlt:=of_decide_eq_true hlt
   have hlt2:(k:Int)<(W2.groups.length:Int):=by omega
   have hix:=hr.g.ix (i:=(k:Int)) (by omega) hlt2
   have hru:=hr.g.used (i:=(k:Int)) (by omega) hlt2
   refine ⟨hp2.some,_,_,_,hp2.groups,hix,(gi W2.groups (k:Int)).used,hru,dep 3 W2.groups (k:Int),fun g => ?_,fun g => ?_,fun g => ?_⟩
   ·exact z6o hp2 hS2.w.a.tree (zac.2 ⟨by omega,hlt2,by simpa using g⟩)
   ·refine ⟨⟨by omega,by omega⟩,fun w3 hx3 _=>zae (by omega) ⟨by omega,?_⟩⟩
    rw [hdef,if_neg]
    ·exact hM2.step hx3
    ·rintro ⟨h1,h2⟩
     rw [h1,h2] at g
     simp at g
   ·simp only [Bool.or_eq_false_iff,Bool.not_eq_false',bne_eq_false_iff_eq] at g
    have hu:zad W2.groups (k:Int)=true:=zac.2 ⟨by omega,hlt2,g.1⟩
    rw [if_pos ⟨g.1,g.2⟩] at hdef
    have hsl:=hS2.w.a.sl hu
    have hz:(k:Int)≠0:=fun e=>by
     rw [e,zgz] at g
     omega
    have hpa:=hS2.w.a.up hu hz
    obtain ⟨p0,p1,_⟩:=zac.1 hpa
    have hpl:=hS2.w.a.sl hpa
    have s1:=hS2.w.s _ c hu c0 (by omega)
    have s2:=hS2.w.s _ c hpa c0 (by omega)
    have lc:=zdi ((shf W2 (k:Int) c).v - (shf W2 (gi W2.groups (k:Int)).parent c).floor) (shf W2 (k:Int) c).w
    have lm:=zcm (shf W2 (k:Int) c).w
    have hsh:=hp2.sh (g:=(k:Int)) (c:=c) (by omega) hlt2 c0 (by omega)
    have hshp:=hp2.sh (g:=(gi W2.groups (k:Int)).parent) (c:=c) p0 p1 c0 (by omega)
    have hact:=zns (g:=(k:Int)) hp2 hS2.w.a c0 (by omega)
    have hdry:=zud (g:=(k:Int)) hp2 hS2.w.a hu c0 (by omega)
    have cS:c<((gi W2.groups (k:Int)).shelves.length:Int):=by omega
    refine ⟨_,za2 hp2 (by omega) hlt2 c0 cS,zbe W2 (k:Int) c,hact,dryD W2 (k:Int) c,fun _=>hdry,fun _=>hsh.1,_,fun _=>hsh.2 (j:=1) rfl,fun g2 => ?_,fun g2 => ?_⟩
    ·have hss:zez W2 (k:Int) c=⟨(shf W2 (k:Int) c).floor,zbe W2 (k:Int) c && !dryD W2 (k:Int) c,(shf W2 (gi W2.groups (k:Int)).parent c).floor+zc5 ((shf W2 (k:Int) c).v - (shf W2 (gi W2.groups (k:Int)).parent c).floor) (shf W2 (k:Int) c).w,(shf W2 (k:Int) c).w,(shf W2 (k:Int) c).sum⟩:=by
      unfold zez
      rw [if_pos]
      simpa [shf] using g2
     have e1:=hM2.own.shSto (k:=(k:Int)) (c:=c) (by omega) (by omega) c0 cS (j:=2) (vs:=[.int .i64 ((shf W2 (gi W2.groups (k:Int)).parent c).floor+zc5 ((shf W2 (k:Int) c).v - (shf W2 (gi W2.groups (k:Int)).parent c).floor) (shf W2 (k:Int) c).w)]) (s:={ shf W2 (k:Int) c with v:=(shf W2 (gi W2.groups (k:Int)).parent c).floor+zc5 ((shf W2 (k:Int) c).v - (shf W2 (gi W2.groups (k:Int)).parent c).floor) (shf W2 (k:Int) c).w }) rfl (by simp)
     have cS1:c<((gi (setSh W2 (k:Int) c { shf W2 (k:Int) c with v:=(shf W2 (gi W2.groups (k:Int)).parent c).floor+zc5 ((shf W2 (k:Int) c).v - (shf W2 (gi W2.groups (k:Int)).parent c).floor) (shf W2 (k:Int) c).w }).groups (k:Int)).shelves.length:Int):=by rw [zs8 (by omega) hlt2 (by omega)]; exact cS
     have hs1:shf (setSh W2 (k:Int) c { shf W2 (k:Int) c with v:=(shf W2 (gi W2.groups (k:Int)).parent c).floor+zc5 ((shf W2 (k:Int) c).v - (shf W2 (gi W2.groups (k:Int)).parent c).floor) (shf W2 (k:Int) c).w }) (k:Int) c={ shf W2 (k:Int) c with v:=(shf W2 (gi W2.groups (k:Int)).parent c).floor+zc5 ((shf W2 (k:Int) c).v - (shf W2 (gi W2.groups (k:Int)).parent c).floor) (shf W2 (k:Int) c).w }:=by
      rw [zi0 (by omega) hlt2 c0 cS (by omega) c0,if_pos ⟨rfl,rfl⟩]
     have e2:=e1.shSto (k:=(k:Int)) (c:=c) (by omega) (by omega) c0 cS1 (j:=1) (vs:=[.bool (zbe W2 (k:Int) c && !dryD W2 (k:Int) c)]) (s:=zez W2 (k:Int) c) (by rw [hs1,hss]; rfl) (by simp)
     rw [zaai (by omega) hlt2] at e2
     have hX:=(zaao (m:=m) (w:=w2) (k:=(k:Int)) (c:=c) (j:=2) (vs:=[.int .i64 ((shf W2 (gi W2.groups (k:Int)).parent c).floor+zc5 ((shf W2 (k:Int) c).v - (shf W2 (gi W2.groups (k:Int)).parent c).floor) (shf W2 (k:Int) c).w)]) (by omega) (by omega)).trans (zaao (m:=m) (k:=(k:Int)) (c:=c) (j:=1) (vs:=[.bool (zbe W2 (k:Int) c && !dryD W2 (k:Int) c)]) (by omega) (by omega))
     have heq:encW (setSh W2 (k:Int) c (zez W2 (k:Int) c)) m=encW W2 m:=zfr (zh0 (by omega) hlt2).fr
     refine ⟨hp2.some,_,_,_,hp2.groups,hix,_,hr.g.parent (by omega) hlt2,_,za2 hp2 p0 p1 c0 (by omega),hshp.1,_,hshp.2 (j:=0) rfl,hsh.1,_,hsh.2 (j:=2) rfl,⟨by omega,by omega⟩,hsh.1,_,hsh.2 (j:=3) rfl,_,znq,⟨by omega,by omega⟩,hsh.1,hM2.own.shWr hM2.nb (by omega) (by omega) c0 cS (j:=2) (by decide),hsh.1,e1.shWr hM2.nb (by omega) (by omega) c0 cS1 (j:=1) (by decide),⟨by omega,by omega⟩,fun w3 hx3 _=>zae (by omega) ⟨by omega,?_⟩⟩
     rw [hdef]
     exact (hM2.deed e2 hX heq).step hx3
    ·have hss:zez W2 (k:Int) c=⟨(shf W2 (k:Int) c).floor,zbe W2 (k:Int) c && !dryD W2 (k:Int) c,(shf W2 (k:Int) c).v,(shf W2 (k:Int) c).w,(shf W2 (k:Int) c).sum⟩:=by
      unfold zez
      rw [if_neg]
      intro h1
      rw [h1.1,show (shf W2 (k:Int) c).on=false from h1.2] at g2
      cases g2
     have e2:=hM2.own.shSto (k:=(k:Int)) (c:=c) (by omega) (by omega) c0 cS (j:=1) (vs:=[.bool (zbe W2 (k:Int) c && !dryD W2 (k:Int) c)]) (s:=zez W2 (k:Int) c) (by rw [hss]; rfl) (by simp)
     have heq:encW (setSh W2 (k:Int) c (zez W2 (k:Int) c)) m=encW W2 m:=zfr (zh0 (by omega) hlt2).fr
     refine ⟨hsh.1,hM2.own.shWr hM2.nb (by omega) (by omega) c0 cS (j:=1) (by decide),⟨by omega,by omega⟩,fun w3 hx3 _=>zae (by omega) ⟨by omega,?_⟩⟩
     rw [hdef]
     exact (hM2.deed e2 (zaao (by omega) (by omega)) heq).step hx3
  ·have hge:=of_decide_eq_false hge
   have hN8:=hN8 (by omega)
   refine ⟨⟨by omega,by omega⟩,fun w3 hx3 _=>⟨⟨j+1,?_,by omega,?_⟩,?_⟩⟩
   ·rw [show d - 1=3 - ((j+1:Nat):Int) by omega]
   ·rw [hN8]
    exact hM2.step hx3
   ·show (d - 1).toNat<d.toNat
    omega
 ·have hd:=of_decide_eq_false hd
  rw [←hE (by omega)]
  exact fun w2 hx2=>⟨rfl,(hM.step hx2).close⟩
end
end Go.Proofs.YtajdcjidpolloaaGreatDoor
namespace Go.Proofs.YtajdcjidpolloaaGreatDoor
open Go.RowKit
set_option linter.unusedVariables false
set_option linter.unusedSimpArgs false
set_option maxRecDepth 10000
def zlx (W:Wld) (g c:Int):Nat→Int
 | 0=>100000000000000001
 | k+1=>if memP W g c k=true then (if memV W c k<zlx W g c k then memV W c k else zlx W g c k) else zlx W g c k
theorem zz4 {W:Wld} {g c:Int}:∀k:Nat,(∀j,j<k→memP W g c j=true→memV W c j≤100000000000000000)→zlx W g c k=if zd0 W g c k=true then zb0 W g c k else 100000000000000001
 | 0,_=>by
  have:zd0 W g c 0=false:=rfl
  rw [this]; rfl
 | k+1,h=>by
  have ih:=zz4 k fun j hj=>h j (by omega)
  simp only [zlx]
  cases hp:memP W g c k with
  | false =>
   have:=zyw (W:=W) (g:=g) (c:=c) (k:=k) (by rw [hp]; rfl)
   rw [if_neg (by decide),ih,this.1,this.2]
  | true =>
   have hv:=h k (by omega) hp
   rw [if_pos rfl,ih]
   cases hb:zd0 W g c k with
   | false =>
    have:=zxa (W:=W) (g:=g) (c:=c) (k:=k) (by rw [hp,hb]; rfl)
    rw [this.1,this.2,if_neg (show ¬(false=true) by decide),if_pos (show memV W c k<100000000000000001 by omega),if_pos (show true=true from rfl)]
   | true =>
    rw [if_pos rfl]
    by_cases hlt:memV W c k<zb0 W g c k
    ·have:=zxa (W:=W) (g:=g) (c:=c) (k:=k) (by rw [hp,decide_eq_true hlt]; simp)
     rw [this.1,this.2,if_pos rfl,if_pos hlt]
    ·have:=zyw (W:=W) (g:=g) (c:=c) (k:=k) (by rw [hp,hb,decide_eq_false hlt]; rfl)
     rw [this.1,this.2,hb,if_pos rfl,if_neg hlt]
theorem zalg {K:Int} {W:Wld} (h:SW K W) {g c:Int} (c0:0≤c) (c1:c<(W.cpus.length:Int)) {j:Nat} (hj:j<20) (hp:memP W g c j=true):memV W c j≤K:=by
 have hl:=h.a.gl
 unfold memV
 by_cases h12:j<12
 ·rw [if_pos h12]
  exact (h.tv (j:Int) (by omega) (by omega)).2
 ·rw [if_neg h12]
  unfold memP at hp
  rw [if_neg h12] at hp
  unfold actG at hp
  simp only [Bool.and_eq_true] at hp
  have hu:zad W.groups ((j - 12:Nat):Int)=true:=zac.2 ⟨by omega,by omega,hp.1.2.1⟩
  exact (h.s _ c hu c0 c1).2.2.2.1
section
variable {base pb:Nat} {w:World} {W:Wld} {m:MW} {k c:Int}
set_option maxHeartbeats 1000000 in
theorem zabl {K:Int} (h:PW base pb w W m) (hsw:SW K W) (hK0:0≤K) (hK:K≤100000000000000000) (c0:0≤c) (c1:c<(W.cpus.length:Int)) :
  Calls Tryz.prog zh8 #[.agg #[.pointer (pA pb),.int .i64 c]] w fun e w'=>e = .returned (.tuple #[])∧Mp base pb [] w m w' (zbx W c) m:=by
 refine (zwg (pA pb) c (R:=fun v w'=>v = .tuple #[]∧Mp base pb [] w m w' (zbx W c) m) ?_).mono fun e w' ⟨v,he,hv,h3⟩=>⟨by rw [he,hv],h3⟩
 intro x hx
 have hgl:=hsw.a.gl
 have hp0:=(Mp.start h).wpt
 refine ⟨hp0.some,_,_,_,hp0.groups,?_⟩
 refine zd6 W.groups.length 0 rfl (fun k w2=>k≤8∧Mp base pb [x] w m w2 (zay W c k) m) (fun w2 hx2 _=>⟨by decide,((Mp.start h).add hx).call0 hx2⟩) fun k w2 hs2 ⟨hk8,hM2⟩ => ?_
 obtain ⟨hS2,hO2⟩:=zm7 hsw hK0 c0 c1 k hk8
 have hgl2:(zay W c k).groups.length=W.groups.length:=hO2.g.len
 have hcl2:(zay W c k).cpus.length=W.cpus.length:=by rw [hO2.c]
 have hdef:zay W c (k+1)=if (gi (zay W c k).groups (k:Int)).used=true∧zd0 (zay W c k) (k:Int) c 20=true∧zb0 (zay W c k) (k:Int) c 20>(shf (zay W c k) (k:Int) c).floor then setSh (zay W c k) (k:Int) c (zzk (zay W c k) (k:Int) c) else zay W c k:=rfl
 have hN8:k=8→zbx W c=zay W c k:=fun e=>by rw [e]; rfl
 generalize zay W c k=W2 at hM2 hS2 hO2 hgl2 hcl2 hdef hN8
 have hp:=hM2.wpt
 have hr:=hp.rd
 have htl:=hS2.a.t
 refine ⟨fun hlt => ?_,fun hge => ?_⟩
 ·have hlt:=of_decide_eq_true hlt
  have hlt2:(k:Int)<(W2.groups.length:Int):=by omega
  refine ⟨hp.some,_,_,_,hp.groups,hr.g.ix (i:=(k:Int)) (by omega) hlt2,(gi W2.groups (k:Int)).used,hr.g.used (by omega) hlt2,fun g => ?_,fun g => ?_⟩
  ·refine ⟨⟨by omega,by omega⟩,fun w3 hx3 _=>zae (by omega) ⟨by omega,?_⟩⟩
   rw [hdef,if_neg (fun h1=>by rw [h1.1] at g; cases g)]
   exact hM2.step hx3
  have g:(gi W2.groups (k:Int)).used=true:=by simpa using g
  have hu:zad W2.groups (k:Int)=true:=zac.2 ⟨by omega,hlt2,g⟩
  have hsl:=hS2.a.sl hu
  have cS:c<((gi W2.groups (k:Int)).shelves.length:Int):=by omega
  have hlm:=zz4 (W:=W2) (g:=(k:Int)) (c:=c) 20 fun j hj hp=>Int.le_trans (zalg hS2 c0 (by omega) hj hp) hK
  refine ⟨hp.some,_,_,_,hp.tasks,fun vs w1=>∃(t:Nat),vs=[.int .i64 (zlx W2 (k:Int) c t),.int .i64 (t:Int)]∧t≤12∧Mp base pb [x] w m w1 W2 m,zcv W2.tasks.length 1,fun w3 hx3 _=>⟨0,rfl,by decide,hM2.step hx3⟩,?_⟩
  rintro least x1 wv1 hs3 ⟨t,he,ht,hM3⟩
  simp only [List.cons.injEq,Value.int.injEq,true_and,and_true] at he
  obtain ⟨rfl,rfl⟩:=he
  have hp3:=hM3.wpt
  refine ⟨fun hltt => ?_,fun hget => ?_⟩
  ·have hltt:=of_decide_eq_true hltt
   have hq:=zsl (g:=(k:Int)) (c:=c) hp3 (t:=(t:Int)) (by omega) hltt
   rw [Int.toNat_natCast] at hq
   refine ⟨hp3.rd.t.ix zbb (by omega) hltt,_,_,_,_,_,_,_,_,_,hp3.rd.t (t:Int) (by omega) hltt,fun b1 hb1=>⟨actT W2 (k:Int) c t,hq,fun ga=>⟨⟨by omega,by omega⟩,fun w4 hx4 _=>⟨⟨t+1,?_,by omega,hM3.step hx4⟩,?_⟩⟩,fun ga=>⟨⟨by omega,by omega⟩,fun w4 hx4 _=>⟨⟨t+1,?_,by omega,hM3.step hx4⟩,?_⟩⟩⟩⟩
   ·simp only [zlx]
    rw [z9q (by omega),if_pos ga,z9t (by omega)]
    rfl
   ·simp only [zcv,cntM,zcw,List.getElem?_cons_zero,List.getElem?_cons_succ]; omega
   ·simp only [zlx]
    rw [z9q (by omega),if_neg (by rw [ga]; decide)]
    rfl
   ·simp only [zcv,cntM,zcw,List.getElem?_cons_zero,List.getElem?_cons_succ]; omega
  have hget:=of_decide_eq_false hget
  have ht12:t=12:=by omega
  subst ht12
  refine ⟨hp3.some,_,_,_,hp3.groups,fun vs w1=>∃(i:Nat),vs=[.int .i64 (zlx W2 (k:Int) c (12+i)),.int .i64 (i:Int)]∧i≤8∧Mp base pb [x] w m w1 W2 m,zcv W2.groups.length 1,fun w4 hx4 _=>⟨0,rfl,by decide,hM3.step hx4⟩,?_⟩
  rintro least1 x9 wv2 hs4 ⟨i,he,hi,hM4⟩
  simp only [List.cons.injEq,Value.int.injEq,true_and,and_true] at he
  obtain ⟨rfl,rfl⟩:=he
  have hp4:=hM4.wpt
  refine ⟨fun hlti => ?_,fun hgei => ?_⟩
  ·have hlti:=of_decide_eq_true hlti
   have hh:=zvg (g:=(k:Int)) hp4 hS2.a (k:=(i:Int)) (by omega) hlti c0 (by omega)
   rw [Int.toNat_natCast] at hh
   have hstep:zlx W2 (k:Int) c (12+(i+1))=if actG W2 (k:Int) c i=true then (if (shf W2 (i:Int) c).v<zlx W2 (k:Int) c (12+i) then (shf W2 (i:Int) c).v else zlx W2 (k:Int) c (12+i)) else zlx W2 (k:Int) c (12+i):=by
    rw [show 12+(i+1)=12+i+1 from rfl]
    simp only [zlx]
    rw [zacm,z9s]
   refine ⟨actG W2 (k:Int) c i,hh,fun ga => ?_,fun ga=>⟨⟨by omega,by omega⟩,fun w5 hx5 _=>⟨⟨i+1,?_,by omega,hM4.step hx5⟩,?_⟩⟩⟩
   ·have hui:zad W2.groups (i:Int)=true:=by
     unfold actG at ga
     simp only [Bool.and_eq_true] at ga
     exact zac.2 ⟨by omega,hlti,ga.1.2.1⟩
    have hsli:=hS2.a.sl hui
    have hsh:=hp4.sh (g:=(i:Int)) (c:=c) (by omega) hlti c0 (by omega)
    refine ⟨_,za2 hp4 (by omega) hlti c0 (by omega),hsh.1,_,hsh.2 (j:=2) rfl,⟨by omega,by omega⟩,fun w5 hx5 _=>⟨⟨i+1,?_,by omega,hM4.step hx5⟩,?_⟩⟩
    ·rw [hstep,if_pos ga]; rfl
    ·simp only [zcv,cntM,zcw,List.getElem?_cons_zero,List.getElem?_cons_succ]; omega
   ·rw [hstep,if_neg (by rw [ga]; decide)]; rfl
   ·simp only [zcv,cntM,zcw,List.getElem?_cons_zero,List.getElem?_cons_succ]; omega
  have hgei:=of_decide_eq_false hgei
  have hi8:i=8:=by omega
  subst hi8
  rw [show 12+8=20 from rfl,hlm]
  have hsh:=hp4.sh (g:=(k:Int)) (c:=c) (by omega) hlt2 c0 cS
  have br:=z3s hS2 (k:=(k:Int)) c0 (by omega) hK0
  refine ⟨fun gl => ?_,fun gl => ?_⟩
  ·have hb:zd0 W2 (k:Int) c 20=true:=Decidable.byContradiction fun hb=>by rw [if_neg hb] at gl; revert gl; decide
   rw [if_pos hb]
   have e1:=hM4.own.shSto (k:=(k:Int)) (c:=c) (by omega) (by omega) c0 cS (j:=0) (vs:=[.int .i64 (if zb0 W2 (k:Int) c 20>(shf W2 (k:Int) c).floor then zb0 W2 (k:Int) c 20 else (shf W2 (k:Int) c).floor)]) (s:={ shf W2 (k:Int) c with floor:=if zb0 W2 (k:Int) c 20>(shf W2 (k:Int) c).floor then zb0 W2 (k:Int) c 20 else (shf W2 (k:Int) c).floor }) rfl (by simp)
   have heq:setSh W2 (k:Int) c { shf W2 (k:Int) c with floor:=if zb0 W2 (k:Int) c 20>(shf W2 (k:Int) c).floor then zb0 W2 (k:Int) c 20 else (shf W2 (k:Int) c).floor }=zay W c (k+1):=by
    rw [hdef]
    by_cases hgt:zb0 W2 (k:Int) c 20>(shf W2 (k:Int) c).floor
    ·rw [if_pos hgt,if_pos (show (gi W2.groups (k:Int)).used=true∧zd0 W2 (k:Int) c 20=true∧_>_ from ⟨g,hb,hgt⟩)]; rfl
    ·rw [if_neg hgt,if_neg (fun h=>hgt h.2.2)]
     exact zaeh (by omega) hlt2 c0 cS
   have hfr:encW (setSh W2 (k:Int) c { shf W2 (k:Int) c with floor:=if zb0 W2 (k:Int) c 20>(shf W2 (k:Int) c).floor then zb0 W2 (k:Int) c 20 else (shf W2 (k:Int) c).floor }) m=encW W2 m:=zfr (zh0 (by omega) hlt2).fr
   refine ⟨_,za2 hp4 (by omega) hlt2 c0 cS,_,za2 hp4 (by omega) hlt2 c0 cS,hsh.1,_,hsh.2 (j:=0) rfl,hsh.1,hM4.own.shWr hM4.nb (by omega) (by omega) c0 cS (j:=0) (by decide),⟨by omega,by omega⟩,fun w5 hx5 _=>zae (w1:=w2) (by omega) ⟨by omega,?_⟩⟩
   rw [←heq]
   exact (hM4.deed e1 (zaao (by omega) (by omega)) hfr).step hx5
  ·have hb:¬zd0 W2 (k:Int) c 20=true:=fun hb=>by
    rw [if_pos hb] at gl
    have:=of_decide_eq_false gl
    omega
   refine ⟨⟨by omega,by omega⟩,fun w5 hx5 _=>zae (w1:=w2) (by omega) ⟨by omega,?_⟩⟩
   rw [hdef,if_neg (fun h=>hb h.2.1)]
   exact hM4.step hx5
 ·have hge:=of_decide_eq_false hge
  rw [hN8 (by omega)]
  exact fun w3 hx3=>⟨rfl,(hM2.step hx3).close⟩
theorem Mp.nil {w0 w:World} {m0:MW} (h:Mp base pb [] w0 m0 w W m) {w':World} (hx:ExtX [] w w'):Mp base pb [] w0 m0 w' W m:=h.step hx
set_option maxHeartbeats 1000000 in
theorem zsm {K:Int} (h:PW base pb w W m) (hsw:SW K W) (hK0:0≤K) (hK:K+stlB≤100000000000000000) :
  Calls Tryz.prog zdv #[.pointer (pA pb)] w fun e w'=>e = .returned (.tuple #[])∧Mp base pb [] w m w' (zce W) m:=by
 refine (zq4 (pA pb) (R:=fun v w'=>v = .tuple #[]∧Mp base pb [] w m w' (zce W) m) ?_).mono fun e w' ⟨v,he,hv,h3⟩=>⟨by rw [he,hv],h3⟩
 have hgl:=hsw.a.gl
 have hcl4:=hsw.a.c2
 simp only [stlB,lagB] at hK
 have hp0:=(Mp.start h).wpt
 refine ⟨hp0.some,_,_,_,hp0.cpus,?_⟩
 refine zd6 W.cpus.length 0 rfl (fun k w1=>k≤W.cpus.length∧Mp base pb [] w m w1 (ze3 W k) m) (fun w1 hx1 _=>⟨Nat.zero_le _,(Mp.start h).call0 hx1⟩) fun k w1 hs1 ⟨hk,hM⟩ => ?_
 obtain ⟨hS,hO⟩:=zo0 (F:=K) (K:=K+lagB) (hsw.sf.mono (Int.le_refl _) (by simp only [lagB]; omega)) (Int.le_refl _) k hk
 have hdef:ze3 W (k+1)=za7 (ze3 W k) (k:Int):=rfl
 have hend:k=W.cpus.length→ze3 W W.cpus.length=ze3 W k:=fun e=>by rw [e]
 obtain ⟨n1,n2,n3⟩:=zsi hO.fr
 generalize ze3 W k=W1 at hM hS hO hdef hend n1 n2 n3
 refine ⟨fun hlt=>⟨_,_,zby,fun wr1 hx1 hs2 => ?_⟩,fun hge => ?_⟩
 ·have hlt:=of_decide_eq_true hlt
  have hM1:=hM.nil hx1
  refine Calls.mono (zk6 hM1.pw hS (by omega) (by simp only [lagB]; omega) (c:=(k:Int)) (by omega) (by omega)) ?_
  rintro e wv2 ⟨he,hy⟩
  refine ⟨he,zbc,⟨by omega,by omega⟩,fun w3 hx3 _=>zae (by omega) ⟨by omega,?_⟩⟩
  rw [hdef]
  exact (hM1.call hy (by simp)).nil hx3
 have hge:=of_decide_eq_false hge
 have hend:=hend (by omega)
 have hset:zce W=zlg (zzm W1) W.cpus.length:=by unfold zce; rw [hend]
 have hp1:=hM.wpt
 refine ⟨hp1.some,_,_,_,hp1.groups,?_⟩
 refine zd6 W1.groups.length 0 rfl (fun g w2=>g≤8∧Mp base pb [] w m w2 (ze6 W1 g) m) (fun w2 hx2 _=>⟨by decide,hM.nil hx2⟩) fun g w2 hs2 ⟨hg8,hM2⟩ => ?_
 obtain ⟨hS2,hO2⟩:=zpg hS g hg8
 have hdef2:ze6 W1 (g+1)=if (gi (ze6 W1 g).groups (g:Int)).used=true∧(gi (ze6 W1 g).groups (g:Int)).band.quota≠0 then zd4 (ze6 W1 g) (g:Int) (ze6 W1 g).cpus.length else ze6 W1 g:=rfl
 have hend2:g=8→zzm W1=ze6 W1 g:=fun e=>by rw [e]; rfl
 have hf2:=hO.fr.trans hO2.fr
 generalize ze6 W1 g=W2 at hM2 hS2 hO2 hdef2 hend2 hf2
 obtain ⟨q1,q2,q3⟩:=zsi hf2
 have hp2:=hM2.wpt
 refine ⟨fun hlt => ?_,fun hge2 => ?_⟩
 ·have hlt:=of_decide_eq_true hlt
  have hlt2:(g:Int)<(W2.groups.length:Int):=by omega
  have hrl:=hp2.rd.g.locs (i:=(g:Int)) (by omega) hlt2
  refine ⟨hp2.some,_,_,_,hp2.groups,hp2.rd.g.ix (by omega) hlt2,_,_,_,hrl,?_⟩
  by_cases hq:(gi W2.groups (g:Int)).used=true∧(gi W2.groups (g:Int)).band.quota≠0
  ·rw [if_pos hq] at hdef2
   have hu:zad W2.groups (g:Int)=true:=zac.2 ⟨by omega,hlt2,hq.1⟩
   have hbl:=((hS2.w.a.u hu).2.2.band hq.2).2.1
   refine zd6 (gi W2.groups (g:Int)).band.locals.length 0 rfl (fun c w3=>c≤W2.cpus.length∧Mp base pb [] w m w3 (zd4 W2 (g:Int) c) m) (fun w3 hx3 _=>⟨Nat.zero_le _,hM2.nil hx3⟩) fun c w3 hs3 ⟨hc,hM3⟩ => ?_
   obtain ⟨hS3,hO3,hq3⟩:=zxd hS2 hu hq.2 c hc
   have hdef3:zd4 W2 (g:Int) (c+1)=if gi (gi (zd4 W2 (g:Int) c).groups (g:Int)).band.locals (c:Int)>0∧zbe (zd4 W2 (g:Int) c) (g:Int) (c:Int)=false then setBd (zd4 W2 (g:Int) c) (g:Int) (zf9 (gi (zd4 W2 (g:Int) c).groups (g:Int)).band (c:Int)) else zd4 W2 (g:Int) c:=rfl
   have hend3:c=W2.cpus.length→ze6 W1 (g+1)=zd4 W2 (g:Int) c:=fun e=>by rw [hdef2,e]
   have hu3:zad (zd4 W2 (g:Int) c).groups (g:Int)=true:=by rw [hO3.g.usd]; exact hu
   have hf3:=hf2.trans hO3.fr
   generalize zd4 W2 (g:Int) c=W3 at hM3 hS3 hO3 hq3 hdef3 hend3 hu3 hf3
   obtain ⟨r1,r2,r3⟩:=zsi hf3
   obtain ⟨u0,u1,hgu⟩:=hS3.w.a.u hu3
   obtain ⟨hb3,hbl3,_⟩:=hgu.band hq3
   have hklt:(g:Int)<(W3.groups.length:Int):=by omega
   have hp3:=hM3.wpt
   have hLo:=hp3.rd.g.locals (g:Int) (by omega) hklt
   refine ⟨fun hltc => ?_,fun hgec => ?_⟩
   ·have hltc:=of_decide_eq_true hltc
    have hixl:=hLo.ix zgs (i:=(c:Int)) (by omega) (by omega)
    rw [hbl3,r1,←q1,←hbl] at hixl
    have hact:=zns (g:=(g:Int)) (c:=(c:Int)) hp3 hS3.w.a (by omega) (by omega)
    refine ⟨hixl,_,hLo (c:Int) (by omega) (by omega),_,_,fun _=>zby,_,fun _=>hact,fun g3 wr5 hx5 _ => ?_,fun g3 => ?_⟩
    ·simp only [Bool.and_eq_true,decide_eq_true_eq,Bool.not_eq_true'] at g3
     rw [if_pos g3] at hdef3
     have hM5:=hM3.nil hx5
     have hown:MWd 8 base wr5 (setBd W3 (g:Int) (gi W3.groups (g:Int)).band) m:=by rw [zaef (by omega) hklt]; exact hM5.own
     refine Calls.mono (zafw (op:=⟨3,(c:Int),0⟩) hown (by omega) (by omega) hb3) ?_
     rintro e1 wv5 ⟨he1,hB,hX⟩
     have hbd:zfp (gi W3.groups (g:Int)).band ⟨3,(c:Int),0⟩=(zf9 (gi W3.groups (g:Int)).band (c:Int),0):=by
      unfold zfp
      rw [if_neg (show ¬(3:Int)=4 by decide),if_neg (by rw [za0.2 (by show 0≤(c:Int)∧(c:Int)≤_; omega)]; decide),if_neg (show ¬(3:Int)=1 by decide),if_neg (show ¬(3:Int)=2 by decide),if_pos rfl]
     rw [hbd] at he1 hB
     dsimp only at he1 hB
     refine ⟨_,he1,zbc,⟨by omega,by omega⟩,fun w6 hx6 _=>zae (by omega) ⟨by omega,?_⟩⟩
     rw [hdef3]
     exact (hM5.deed hB hX (zfr (z90 (by omega) hklt).fr)).nil hx6
    ·refine ⟨⟨by omega,by omega⟩,fun w6 hx6 _=>zae (by omega) ⟨by omega,?_⟩⟩
     rw [hdef3,if_neg]
     ·exact hM3.nil hx6
     ·rintro ⟨h1,h2⟩
      rw [h2,decide_eq_true h1] at g3
      cases g3
   ·have hgec:=of_decide_eq_false hgec
    refine ⟨⟨by omega,by omega⟩,fun w6 hx6 _=>zae (by omega) ⟨by omega,?_⟩⟩
    rw [hend3 (by omega)]
    exact hM3.nil hx6
  ·rw [if_neg hq] at hdef2
   have hz:(gi W2.groups (g:Int)).band.locals.length=0:=by
    have hgp:=hS2.w.a.grp (g:Int) (by omega) (by omega)
    cases hu:(gi W2.groups (g:Int)).used with
    | false=>exact (zsv (hgp.1 hu).b).2.2.2.1
    | true =>
     have h0:(gi W2.groups (g:Int)).band.quota=0:=Decidable.byContradiction fun hn=>hq ⟨hu,hn⟩
     exact (zsv ((hgp.2 hu).none h0).1).2.2.2.1
   rw [hz]
   refine zd6 0 0 rfl (fun c w3=>c≤0∧Mp base pb [] w m w3 W2 m) (fun w3 hx3 _=>⟨Nat.zero_le _,hM2.nil hx3⟩) fun c w3 hs3 ⟨hc,hM3⟩=>⟨fun hltc => ?_,fun _=>⟨⟨by omega,by omega⟩,fun w6 hx6 _=>zae (by omega) ⟨by omega,?_⟩⟩⟩
   ·have:=of_decide_eq_true hltc
    omega
   ·rw [hdef2]
    exact hM3.nil hx6
 have hge2:=of_decide_eq_false hge2
 have hend2:=hend2 (by omega)
 rw [hend2] at hset
 have hS4:SW (K+lagB) W2:=hS2.w
 refine ⟨hp2.some,_,_,_,hp2.cpus,?_⟩
 refine zd6 W2.cpus.length 0 rfl (fun k w3=>k≤W2.cpus.length∧Mp base pb [] w m w3 (zlg W2 k) m) (fun w3 hx3 _=>⟨Nat.zero_le _,hM2.nil hx3⟩) fun k w3 hs3 ⟨hk,hM7⟩ => ?_
 obtain ⟨hS7,hf7⟩:=zxm hS4 (by simp only [lagB]; omega) k hk
 have hdef7:zlg W2 (k+1)=zta (zlg W2 k) (k:Int):=rfl
 have hend7:k=W2.cpus.length→zce W=zlg W2 k:=fun e=>by rw [hset,←q1,e]
 have hfW:=hf2.trans hf7
 obtain ⟨q1,q2,q3⟩:=zsi hfW
 generalize zlg W2 k=W7 at hM7 hS7 hf7 hdef7 hend7 hfW q1 q2 q3
 refine ⟨fun hlt=>⟨_,_,zby,fun b hb wr10 hx10 hs10 => ?_⟩,fun hge => ?_⟩
 ·have hlt:=of_decide_eq_true hlt
  have hM9:=(hM7.add hb).call0 hx10
  have hk4:(k:Int)≤4:=by omega
  have c1':(k:Int)<(W7.cpus.length:Int):=by omega
  have hSF:=hS7.sf.mono (F':=K+lagB+(k:Int)*lagB) (K':=K+lagB+(k:Int)*lagB+lagB) (Int.le_refl _) (by simp only [lagB]; omega)
  refine Calls.mono (zk6 hM9.pw hSF (Int.le_refl _) (by simp only [lagB]; omega) (c:=(k:Int)) (by omega) c1') ?_
  rintro e2 wv7 ⟨he2,hy2⟩
  obtain ⟨hS8,hO8⟩:=zsq hSF (Int.le_refl _) (c:=(k:Int)) (by omega) c1'
  have hM8:=hM9.call hy2 hs10
  refine ⟨he2,hM9.kept hy2 hs10,fun wr11 hx11 hs11 => ?_⟩
  have hM10:=hM8.step hx11
  have hstep:zta W7 (k:Int)=if zwm (zbx (za7 W7 (k:Int)) (k:Int)) (k:Int)=true then endW (zbx (za7 W7 (k:Int)) (k:Int)) (k:Int) else zbx (za7 W7 (k:Int)) (k:Int):=rfl
  have c2':(k:Int)<((za7 W7 (k:Int)).cpus.length:Int):=by rw [hO8.c]; exact c1'
  refine Calls.mono (zabl hM10.pw hS8.w (by simp only [lagB]; omega) (by simp only [lagB]; omega) (c:=(k:Int)) (by omega) c2') ?_
  rintro e3 wv8 ⟨he3,hy3⟩
  obtain ⟨hS11,hO11⟩:=zm7 hS8.w (by simp only [lagB]; omega) (c:=(k:Int)) (by omega) c2' 8 (by decide)
  have hM11:=hM10.call hy3 hs11
  have hK11:=hM10.kept hy3 hs11
  have hf11:Fr W (zbx (za7 W7 (k:Int)) (k:Int)):=(hfW.trans hO8.fr).trans hO11.fr
  have hS11':SW (K+lagB+(k:Int)*lagB+lagB) (zbx (za7 W7 (k:Int)) (k:Int)):=hS11
  generalize zbx (za7 W7 (k:Int)) (k:Int)=W11 at hM11 hf11 hS11' hstep
  obtain ⟨r1,r2,r3⟩:=zsi hf11
  have hp:=hM11.wpt
  have c3':(k:Int)<(W11.cpus.length:Int):=by omega
  have hcur:=hS11'.cu (k:Int) (by omega) c3'
  have htl:=hS11'.a.t
  have hT:((gi W11.cpus (k:Int)).cur != -1)=true→0≤(gi W11.cpus (k:Int)).cur∧(gi W11.cpus (k:Int)).cur<(W11.tasks.length:Int):=fun g=>by
   have:(gi W11.cpus (k:Int)).cur≠-1:=by simpa using g
   exact ⟨by omega,by omega⟩
  have hcpu:=zj6 (c:=(k:Int)) hp (by omega) c3'
  have hsome:=zpl (n:=Int.toNat (k:Int)*5) (hp.rd.c (k:Int) (by omega) c3')
  have hcell:=zpd (hp.rd.c (k:Int) (by omega) c3') (j:=1) rfl
  have hgone:zwm W11 (k:Int)=(((gi W11.cpus (k:Int)).cur != -1) && !(((tkk W11 (gi W11.cpus (k:Int)).cur).cpu==(k:Int))&&zcs W11 (gi W11.cpus (k:Int)).cur)):=by
   unfold zwm
   have e:decide ((gi W11.cpus (k:Int)).cur≥0)=((gi W11.cpus (k:Int)).cur != -1):=by
    by_cases hc:(gi W11.cpus (k:Int)).cur = -1
    ·rw [hc]; rfl
    ·rw [bne_iff_ne.2 hc,decide_eq_true (by omega)]
   rw [e,Bool.not_and]
   rfl
  refine ⟨he3,hK11,_,hcpu,hsome,_,hcell,_,fun _=>hcpu,fun _=>hsome,_,fun _=>hcell,_,fun g=>zjw hp hS11'.a (hT g).1 (hT g).2 (by omega) c3' (fun hs=>(hS11'.li (hT g).1 (hT g).2 hs).1),fun g wr12 hx12 hs12 => ?_,fun g => ?_⟩
  ·have hM12:=hM11.step hx12
   refine Calls.mono (zgj hM12.pw (c:=(k:Int)) (by omega) c3') ?_
   rintro e4 wv9 ⟨he4,hy4⟩
   refine ⟨he4,hM12.kept hy4 hs12,⟨by omega,by omega⟩,fun w6 hx6 _=>zae (by omega) ⟨by omega,?_⟩⟩
   rw [hdef7,hstep,if_pos (by rw [hgone]; exact g)]
   exact ((hM12.call hy4 hs12).step hx6).close
  ·refine ⟨⟨by omega,by omega⟩,fun w6 hx6 _=>zae (by omega) ⟨by omega,?_⟩⟩
   rw [hdef7,hstep,if_neg (by rw [hgone,g]; decide)]
   exact (hM11.step hx6).close
 ·have hge:=of_decide_eq_false hge
  rw [hend7 (by omega)]
  exact fun w9 hx9=>⟨rfl,hM7.nil hx9⟩
end
end Go.Proofs.YtajdcjidpolloaaGreatDoor
