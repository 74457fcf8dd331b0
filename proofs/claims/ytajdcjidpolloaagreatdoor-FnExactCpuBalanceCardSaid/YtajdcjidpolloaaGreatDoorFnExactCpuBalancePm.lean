/- Part 13 of what the law FnExactCpuBalance needs: the engine, the functions' propositions, the contracts. -/
import Derived.Test.YtajdcjidpolloaaGreatDoorFnExactCpuBalancePl
namespace Go.Proofs.YtajdcjidpolloaaGreatDoor
open Go.RowKit
set_option linter.unusedVariables false
set_option linter.unusedSimpArgs false
set_option maxRecDepth 10000
section
variable {b:Bnd} {m:MG} {w:World}
theorem zadr (h1:RdI [] w m.lO b.locals) (h2:RdB [] w m.dO b.dry) (l1:b.locals.length≤1048576) (l2:b.dry.length≤1048576) :
  Calls Tryz.prog zi3 #[.agg (zcx b m).toArray] w fun e w'=>∃p,e = .returned (.agg (zcx b p).toArray)∧zc9 w.heap.size w' b p∧ExtX [] w w':=by
 refine (zy4 b.quota b.pool b.spent m.lO b.locals.length m.lC m.dO b.dry.length m.dC (R:=fun v w'=>∃p,v = .agg (zcx b p).toArray∧zc9 w.heap.size w' b p∧ExtX [] w w') ?_).mono fun e w' ⟨v,he,p,hv,h3⟩=>⟨p,by rw [he,hv],h3⟩
 have hm9:=zbh
 intro x hx x5 hx5 wr hx0 hs0
 have s0:Sc w [x,x5] wr:=(((Sc.start w).add hx).add hx5).call0 hx0
 refine ⟨_,_,_,_,zql zbt ziw b.locals.length (by omega) (by omega) wr,za9 (zbw _ _) hs0,fun wr1 hx1 hs1 => ?_⟩
 have hL0:Ob encI 1 ty_int wr.heap.size [x,x5] _ (some ⟨wr.heap.size,0,none⟩) b.locals.length (List.replicate b.locals.length (0:Int)):=Ob.of (ziu (enc:=encI) zbt.len ty_int b.locals.length (0:Int) wr) hs0
 have s1:=(s0.call0 (zbw wr (.cells ((List.replicate b.locals.length (0:Int)).flatMap encI).toArray ty_int))).step hx1
 have hL1:=hL0.step hx1
 obtain ⟨n1,w2,hrun1,hL2,hy1⟩:=zag1 zbt ziw oneI (by decide) (c2:=m.lC) hL1.own (h1.ext s1.ext) (m:=b.locals) (by simp) ty_int #[false,false]
 rw [List.length_replicate] at hrun1
 have s2:=s1.call hy1 fun y hy=>Nat.le_trans s0.ext.size (hL1.own.lt y hy).1
 have hL2':Ob encI 1 ty_int wr.heap.size [x,x5] w2 (some ⟨wr.heap.size,0,none⟩) b.locals.length b.locals:=⟨hL2,hL1.nb⟩
 refine ⟨_,_,hrun1,zjz hy1 hs1 hL1.nb,fun wr2 hx2 hs2=>⟨_,_,_,_,zql zcj zpb b.dry.length (by omega) (by omega) wr2,za9 (zbw _ _) hs2,fun wr3 hx3 hs3 => ?_⟩⟩
 have s3:=((s2.step hx2).call0 (zbw wr2 (.cells ((List.replicate b.dry.length false).flatMap encB).toArray zbi))).step hx3
 have hL3:=((hL2'.step hx2).call0 (zbw wr2 (.cells ((List.replicate b.dry.length false).flatMap encB).toArray zbi))).step hx3
 have hD0:Ob encB 1 zbi wr2.heap.size [x,x5] _ (some ⟨wr2.heap.size,0,none⟩) b.dry.length (List.replicate b.dry.length false):=Ob.of (ziu (enc:=encB) zcj.len zbi b.dry.length false wr2) hs2
 have hD1:=hD0.step hx3
 obtain ⟨n2,w4,hrun2,hD2,hy2⟩:=zag1 zcj zpb oneB (by decide) (c2:=m.dC) hD1.own (h2.ext s3.ext) (m:=b.dry) (by simp) ty_int #[false,false]
 rw [List.length_replicate] at hrun2
 have hz2:w.heap.size≤wr2.heap.size:=(s2.step hx2).ext.size
 have s4:=s3.call hy2 fun y hy=>Nat.le_trans hz2 (hD1.own.lt y hy).1
 have hL4:=hL3.call hy2 (hL3.own.ty_ne hD1.own (by decide))
 have hD3:Ob encB 1 zbi wr2.heap.size [x,x5] w4 (some ⟨wr2.heap.size,0,none⟩) b.dry.length b.dry:=⟨hD2,hD1.nb⟩
 exact ⟨_,_,hrun2,zjz hy2 hs3 hD1.nb,fun wr4 hx4=>⟨⟨some ⟨wr.heap.size,0,none⟩,b.locals.length,some ⟨wr2.heap.size,0,none⟩,b.dry.length,none,0⟩,rfl,⟨(hL4.step hx4).own.mono s0.ext.size,(hD3.step hx4).own.mono hz2⟩,(s4.step hx4).ext⟩⟩
end
theorem zxk {α:Type} [Inhabited α] {P:Program} {enc:α→List Value} {z:Nat} {ty t:TypeId} {bytes:Nat} {zero:α} (E:Elt P enc z ty bytes zero) (ht:P.underlying t=some (.slice ty)) (hone:∀x,zbd (enc x)=true) (hz0:0<z) {w:World} {o:Option Addr} {c:Nat} {l:List α}
  (h:Rd enc z [] w o l) (hl:l.length≤1048576) (hby:bytes≤1000) (tr:TypeId) (cs:Array Bool) :
  ∃o' c' w',(builtin .append #[t,t] tr cs #[.slice none 0 0,.slice o l.length c]).run P w = .ok (.value (.slice o' l.length c')) w'∧Own enc z ty w.heap.size w' o' c' l∧ExtX [] w w':=by
 have hO:Own enc z ty w.heap.size w none 0 ([]:List α):=.inl ⟨rfl,rfl,rfl⟩
 have hbb:(2*(([]:List α).length+l.length))*bytes≤281474976710656:=by
  rw [List.length_nil,Nat.zero_add]
  exact Nat.le_trans (Nat.mul_le_mul (show 2*l.length≤2097152 by omega) hby) (by decide)
 obtain ⟨o',c',w',h1,h2,h3,_⟩:=zag0 E ht hO (zaki E.len hone ht h (c:=c) hz0) hbb (by rw [List.length_nil]; omega) tr (Nat.le_refl _)
 rw [List.length_nil,Nat.zero_add] at h1
 exact ⟨o',c',w',z3t h1,h2,h3⟩
theorem zacp (W:Wld) (ms:Nat→MG) (n k:Nat) (hk:k<n) (p:MG):(psOf W ms n).set k (gi W.groups (k:Int),p)=psOf W (fun j=>if j=k then p else ms j) n:=by
 refine zp8 (by rw [List.length_set,zdm,zdm]) fun j hj => ?_
 rw [List.length_set,zdm] at hj
 have:=zci (psOf W ms n) (gi W.groups (k:Int),p) (i:=(k:Int)) (by omega) (by rw [zdm]; omega) (j:=(j:Int)) (by omega)
 rw [Int.toNat_natCast] at this
 rw [this,zux (by omega) (by omega),zux (by omega) (by omega)]
 by_cases e:k=j
 ·subst e; simp
 ·rw [if_neg (by omega),if_neg (by simp; omega)]
theorem zad9 (W:Wld) {ms ms':Nat→MG} {n:Nat} (h:∀j,j<n→ms j=ms' j):psOf W ms n=psOf W ms' n:=by
 unfold psOf
 exact List.map_congr_left fun j hj=>by rw [h j (List.mem_range.1 hj)]
section
variable {W:Wld} {m:MW} {w:World}
set_option maxHeartbeats 1000000 in
theorem zz1 (h:RdW [] w W m) (ha:WA W) :
  Calls Tryz.prog zfe #[.agg (encW W m).toArray] w fun e w'=>∃m',e = .returned (.agg (encW W m').toArray)∧MWd 8 w.heap.size w' W m'∧ExtX [] w w':=by
 refine (zwh W.now m.cO W.cpus.length m.cC m.tO W.tasks.length m.tC m.gO W.groups.length m.gC (R:=fun v w'=>∃m',v = .agg (encW W m').toArray∧MWd 8 w.heap.size w' W m'∧ExtX [] w w') ?_).mono fun e w' ⟨v,he,m',hv,h3⟩=>⟨m',by rw [he,hv],h3⟩
 have hcl:=ha.c2
 have htl:=ha.t
 have hgl:=ha.gl
 intro x hx x1 hx1 x2 hx2 wr hx0 hs0
 have s0:Sc w [x,x1,x2] wr:=((((Sc.start w).add hx).add hx1).add hx2).call0 hx0
 obtain ⟨cO,cC,w1,hrun1,hC1,hy1⟩:=zxk zda znz oneC (by decide) (c:=m.cC) (h.c.ext s0.ext) (by omega) (by decide) zbv #[false,false]
 refine ⟨_,_,_,_,hrun1,za9 hy1 hs0,fun wr1 hx1' hs1 => ?_⟩
 have s1:=(s0.call0 hy1).step hx1'
 have hC2:=(Ob.of hC1 hs0).step hx1'
 obtain ⟨tO,tC,w2,hrun2,hT1,hy2⟩:=zxk za6 zmw oneT (by decide) (c:=m.tC) (h.t.ext s1.ext) (by omega) (by decide) zbo #[false,false]
 refine ⟨_,_,_,_,hrun2,za9 hy2 hs1,fun wr2 hx2' hs2 => ?_⟩
 have s2:=(s1.call0 hy2).step hx2'
 have hC3:=(hC2.call0 hy2).step hx2'
 have hT3:=(Ob.of hT1 hs1).step hx2'
 have hrp:Rd encP 14 [] wr2 m.gO (psOf W m.ms 8):=fun i h0 hi=>by
  rw [zdm] at hi
  rw [zux h0 hi]
  exact (h.g.ext s2.ext).cells i h0 (by omega)
 obtain ⟨gO,gC,w3,hrun3,hG1,hy3⟩:=zxk zcg zlj (fun p=>oneG p.1 p.2) (by decide) (c:=m.gC) hrp (by rw [zdm]; decide) (by decide) zas #[false,false]
 rw [zdm] at hrun3
 have hrun3':(builtin .append #[zas,zas] zas #[false,false] #[.slice none 0 0,.slice m.gO W.groups.length m.gC]).run Tryz.prog wr2 = .ok (.value (.slice gO W.groups.length gC)) w3:=by rw [hgl]; exact hrun3
 have z1:w.heap.size≤wr1.heap.size:=s1.ext.size
 have z2:w.heap.size≤wr2.heap.size:=s2.ext.size
 have s3:=s2.call0 hy3
 have hC4:=(hC3.call0 hy3).mono s0.ext.size
 have hT4:=(hT3.call0 hy3).mono z1
 have hG4:=Ob.of hG1 hs2
 refine ⟨_,_,_,_,hrun3',za9 hy3 hs2,fun vs w4=>∃(k:Nat) (ms:Nat→MG),vs=[.int .i64 (k:Int)]∧k≤8∧Sc w [x,x1,x2] w4∧wr2.heap.size≤w4.heap.size∧Ob encC 5 za1 w.heap.size [x,x1,x2] w4 cO cC W.cpus∧Ob encT 9 zaq w.heap.size [x,x1,x2] w4 tO tC W.tasks∧Ob encP 14 za8 wr2.heap.size [x,x1,x2] w4 gO gC (psOf W ms 8)
   ∧ (∀j,j<k→OwnM wr2.heap.size w4 (gi W.groups (j:Int),ms j)∧∀y∈zah (ms j),y∉[x,x1,x2])∧(∀i j,i<k→j<k→i≠j→∀y∈zah (ms i),y∉zah (ms j))∧(∀j,k≤j→ms j=m.ms j),
  zcv W.groups.length 0,fun w4 hx4 _=>⟨0,m.ms,rfl,by decide,s3.step hx4,Nat.le_trans hy3.size hx4.size,hC4.step hx4,hT4.step hx4,hG4.step hx4,fun j hj=>by omega,fun i j hi=>by omega,fun j _=>rfl⟩,?_⟩
 clear s3 hC4 hT4 hG4 hG1 hrp hrun3 hrun3' hC3 hT3 hC2 hT1 hrun1 hrun2 hC1
 rintro x9 wv3 hs3 ⟨k,ms,he,hk,s3,z3,hC,hT,hG,hE,hJ,hF⟩
 simp only [List.cons.injEq,Value.int.injEq,true_and,and_true] at he
 subst he
 refine ⟨fun hlt => ?_,fun hge => ?_⟩
 ·have hlt:=of_decide_eq_true hlt
  have hrb:RdG [x,x1,x2] wv3 m.gO W.groups m.ms:=(h.g.wide (cs:=[x,x1,x2]) fun y hm=>.inr (s3.new y hm)).ext s3.ext.of_nil
  have hix:=hrb.ix (i:=(k:Int)) (by omega) hlt
  obtain ⟨bl1,bl2,bl3⟩:=zr8 ha (k:=(k:Int)) (by omega) (by omega)
  refine ⟨hix,_,_,_,_,_,_,_,_,_,_,_,_,_,_,_,_,_,_,_,_,hrb.cells (k:Int) (by omega) hlt,fun b3 hb3 wr4 hx4 hs4 => ?_⟩
  have s4:=s3.put hx4 hb3
  have hC4:=hC.put hx4 hb3
  have hT4:=hT.put hx4 hb3
  have hG4:=hG.put hx4 hb3
  have hr4:=h.g.ext s4.ext
  have z4:wr2.heap.size≤wr4.heap.size:=Nat.le_trans z3 hx4.size
  refine Calls.mono (zadr (hr4.locals (k:Int) (by omega) hlt) (hr4.dry (k:Int) (by omega) hlt) (by omega) (by omega)) ?_
  rintro e wv4 ⟨p,he,hB,hy4⟩
  have s5:=s4.call0 hy4
  have hC5:=hC4.call0 hy4
  have hT5:=hT4.call0 hy4
  have hG5:=hG4.call0 hy4
  have hgk:gi (psOf W ms 8) (k:Int)=(gi W.groups (k:Int),ms k):=by rw [zux (by omega) (by omega),Int.toNat_natCast]
  have hmk:ms k=m.ms k:=hF k (Nat.le_refl _)
  have hBn:∀y∈zgr p,wr4.heap.size≤y:=fun y hm=>(hB.lt y hm).1
  have e1:=hG5.own.sto zcg.len (i:=(k:Int)) (by omega) (by rw [zdm]; omega) (j:=8) (vs:=zcx (gi W.groups (k:Int)).band p) (x:=(gi W.groups (k:Int),putM (ms k) p)) (by rw [hgk]; rfl) (by simp [zcx])
  have hgix:=hG5.own.ix (i:=(k:Int)) (by omega) (by rw [zdm]; omega)
  have hgwr:=hG5.own.wr zcg.len hG5.nb (i:=(k:Int)) (by omega) (by rw [zdm]; omega) (j:=8) (n:=5) (by decide)
  rw [zdm] at hgix
  have hgix':Ix gO W.groups.length (k:Int):=by rw [hgl]; exact hgix
  simp only [Int.toNat_natCast] at e1 hgwr
  rw [zacp W ms 8 k (by omega)] at e1
  refine ⟨_,_,_,_,_,_,_,_,_,he,za9 hy4 hs4,rfl,hgix',hgwr,fun wr5 hx5 hs5 => ?_⟩
  have hX5:=hG5.own.stoX (k*14+8) (zcx (gi W.groups (k:Int)).band p)
  have s6:=(s5.call hX5 fun y hy=>Nat.le_trans z2 (hG5.own.lt y hy).1).step hx5
  have hC6:=(hC5.call hX5 (hC5.own.ty_ne hG5.own (by decide))).step hx5
  have hT6:=(hT5.call hX5 (hT5.own.ty_ne hG5.own (by decide))).step hx5
  have hG6:Ob encP 14 za8 wr2.heap.size ([x,x1,x2]++[b3]) wr5 gO gC (psOf W (fun j=>if j=k then putM (ms k) p else ms j) 8):=(⟨e1,hG5.nb⟩:Ob encP 14 za8 wr2.heap.size ([x,x1,x2]++[b3]) _ gO gC _).step hx5
  have hBnb:∀y∈zgr p,y∉[x,x1,x2]++[b3]:=fun y hm hm'=>by
   have:=hBn y hm
   have:=hs4 y hm'
   omega
  have hBg:∀y∈zgr p,y∉zau gO:=fun y hm hm'=>by
   have:=hBn y hm
   have:=(hG4.own.lt y hm').2
   omega
  have hB6:=(hB.ext hX5 hBg).ext hx5 hBnb
  have z5:wr4.heap.size≤wr5.heap.size:=Nat.le_trans (Nat.le_trans hy4.size hX5.size) hx5.size
  obtain ⟨sO,sC,w6,hrun6,hS6,hy6⟩:=zxk zbk zlk oneS (by decide) (c:=(m.ms k).sC) ((h.g.ext s6.ext).shelves (k:Int) (by omega) hlt) (by omega) (by decide) zbg #[true,false]
  have s7:=s6.call0 hy6
  have hC7:=hC6.call0 hy6
  have hT7:=hT6.call0 hy6
  have hG7:=hG6.call0 hy6
  have hB7:=hB6.ext0 hy6
  have hgk2:gi (psOf W (fun j=>if j=k then putM (ms k) p else ms j) 8) (k:Int)=(gi W.groups (k:Int),putM (ms k) p):=by
   rw [zux (by omega) (by omega),Int.toNat_natCast,if_pos rfl]
  have e2:=hG7.own.sto zcg.len (i:=(k:Int)) (by omega) (by rw [zdm]; omega) (j:=13) (vs:=[.slice sO (gi W.groups (k:Int)).shelves.length sC]) (x:=(gi W.groups (k:Int),⟨p.lO,p.lC,p.dO,p.dC,sO,sC⟩)) (by rw [hgk2]; rfl) (by simp)
  have hgwr2:=hG7.own.wr zcg.len hG7.nb (i:=(k:Int)) (by omega) (by rw [zdm]; omega) (j:=13) (n:=1) (by decide)
  simp only [Int.toNat_natCast] at e2 hgwr2
  rw [zacp _ _ 8 k (by omega)] at e2
  have hms2:psOf W (fun j=>if j=k then (⟨p.lO,p.lC,p.dO,p.dC,sO,sC⟩:MG) else if j=k then putM (ms k) p else ms j) 8=psOf W (fun j=>if j=k then (⟨p.lO,p.lC,p.dO,p.dC,sO,sC⟩:MG) else ms j) 8:=zad9 W fun j _=>by
   by_cases e:j=k
   ·rw [if_pos e,if_pos e]
   ·rw [if_neg e,if_neg e,if_neg e]
  rw [hms2] at e2
  have hX7:=hG7.own.stoX (k*14+13) [.slice sO (gi W.groups (k:Int)).shelves.length sC]
  refine ⟨_,_,_,_,hrun6,za9 hy6 hs5,rfl,hgix',hgwr2,⟨by omega,by omega⟩,fun w9 hx9 _=>⟨⟨k+1,fun j=>if j=k then (⟨p.lO,p.lC,p.dO,p.dC,sO,sC⟩:MG) else ms j,rfl,by omega,?_,?_,?_,?_,?_,?_,?_,?_⟩,?_⟩⟩
  ·exact ((s7.call hX7 fun y hy=>Nat.le_trans z2 (hG7.own.lt y hy).1).step hx9).sub (by simp)
  ·exact Nat.le_trans (Nat.le_trans (Nat.le_trans (Nat.le_trans z4 z5) hy6.size) hX7.size) hx9.size
  ·exact ((hC7.call hX7 (hC7.own.ty_ne hG7.own (by decide))).step hx9).sub (by simp)
  ·exact ((hT7.call hX7 (hT7.own.ty_ne hG7.own (by decide))).step hx9).sub (by simp)
  ·exact ((⟨e2,hG7.nb⟩:Ob encP 14 za8 wr2.heap.size ([x,x1,x2]++[b3]) _ gO gC _).step hx9).sub (by simp)
  ·intro j hj
   have hSn:∀y∈zau sO,wr5.heap.size≤y:=fun y hm=>(hS6.lt y hm).1
   by_cases e:j=k
   ·subst e
    simp only [if_true]
    have hSnb:∀y∈zau sO,y∉[x,x1,x2]++[b3]:=fun y hm hm'=>by
     have:=hSn y hm
     have:=hs5 y hm'
     omega
    have hO9:OwnM wr2.heap.size w9 (gi W.groups (j:Int),⟨p.lO,p.lC,p.dO,p.dC,sO,sC⟩):=by
     have hB9:=((hB7.ext hX7 hBg).ext hx9 hBnb).mono z4
     exact ⟨hB9.loc,hB9.dry,(((hS6.ext hX7 (hS6.ty_ne hG7.own (by decide))).ext hx9 hSnb)).mono (Nat.le_trans z4 z5)⟩
    refine ⟨hO9,fun y hm hm' => ?_⟩
    have hm'':y∈[x,x1,x2]++[b3]:=List.mem_append_left _ hm'
    simp only [zah,List.mem_append] at hm
    rcases hm with (hm | hm) | hm
    ·exact hBnb y (List.mem_append_left _ hm) hm''
    ·exact hBnb y (List.mem_append_right _ hm) hm''
    ·exact hSnb y hm hm''
   ·dsimp only
    rw [if_neg e]
    obtain ⟨hm1,hm2⟩:=hE j (by omega)
    refine ⟨?_,hm2⟩
    have hnb3:∀y∈zah (ms j),y∉[x,x1,x2]++[b3]:=fun y hm hm'=>by
     rcases List.mem_append.1 hm' with h1 | h1
     ·exact hm2 y hm h1
     ·have:y=b3:=by simpa using h1
      have:=(hm1.lt y hm).2
      omega
    have hgg:∀y∈zah (ms j),y∉zau gO:=zfa (p:=(gi W.groups (j:Int),ms j)) hG.own hm1
    exact ((((((hm1.ext hx4 hm2).ext0 hy4).ext hX5 hgg).ext hx5 hnb3).ext0 hy6).ext hX7 hgg).ext hx9 hnb3
  ·intro i j hi hj hij y hm hm'
   dsimp only at hm hm'
   have hnew:∀y∈zah (⟨p.lO,p.lC,p.dO,p.dC,sO,sC⟩:MG),wr4.heap.size≤y:=fun y hm=>by
    simp only [zah,List.mem_append] at hm
    rcases hm with (hm | hm) | hm
    ·exact hBn y (List.mem_append_left _ hm)
    ·exact hBn y (List.mem_append_right _ hm)
    ·exact Nat.le_trans z5 (hS6.lt y hm).1
   have hold:∀j,j<k→∀y∈zah (ms j),y<wr4.heap.size:=fun j hj y hm=>Nat.lt_of_lt_of_le ((hE j hj).1.lt y hm).2 hx4.size
   by_cases e1:i=k
   ·rw [if_pos e1] at hm
    by_cases e2:j=k
    ·omega
    ·rw [if_neg e2] at hm'
     have:=hnew y hm
     have:=hold j (by omega) y hm'
     omega
   ·rw [if_neg e1] at hm
    by_cases e2:j=k
    ·rw [if_pos e2] at hm'
     have:=hnew y hm'
     have:=hold i (by omega) y hm
     omega
    ·rw [if_neg e2] at hm'
     exact hJ i j (by omega) (by omega) hij y hm hm'
  ·intro j hj
   dsimp only
   rw [if_neg (by omega)]
   exact hF j (by omega)
  ·simp only [zcv,cntM,zcw,List.getElem?_cons_zero]; omega
 ·have hge:=of_decide_eq_false hge
  have hk8:k=8:=by omega
  subst hk8
  refine fun w9 hx9=>⟨⟨cO,cC,tO,tC,gO,gC,ms⟩,rfl,⟨(hC.step hx9).own,(hT.step hx9).own,?_,hgl⟩,(s3.step hx9).ext⟩
  have e:psW W ⟨cO,cC,tO,tC,gO,gC,ms⟩=psOf W ms 8:=by unfold psW psOf; rw [hgl]
  rw [e]
  have hgi:∀i:Int,0≤i→i<((psOf W ms 8).length:Int)→i.toNat<8∧gi (psOf W ms 8) i=(gi W.groups ((i.toNat:Nat):Int),ms i.toNat):=fun i a b=>by
   rw [zdm] at b
   refine ⟨by omega,?_⟩
   rw [zux a b,show ((i.toNat:Nat):Int)=i by omega]
  refine ⟨(hG.step hx9).own.mono z2,fun i a b => ?_,fun i j a b a' b' hij => ?_⟩
  ·obtain ⟨c1,c2⟩:=hgi i a b
   rw [c2]
   exact ((hE _ c1).1.ext hx9 (hE _ c1).2).mono z2
  ·obtain ⟨c1,c2⟩:=hgi i a b
   obtain ⟨d1,d2⟩:=hgi j a' b'
   rw [c2,d2]
   exact hJ _ _ c1 d1 (by omega)
end
end Go.Proofs.YtajdcjidpolloaaGreatDoor
