/- Part 18 of what the law FnExactCpuBalance needs: the engine, the functions' propositions, the contracts. -/
import Derived.Test.YtajdcjidpolloaaGreatDoorFnExactCpuBalancePq
namespace Go.Proofs.YtajdcjidpolloaaGreatDoor
open Go.RowKit
set_option linter.unusedVariables false
set_option linter.unusedSimpArgs false
set_option maxRecDepth 10000
set_option maxHeartbeats 1000000 in
theorem k_FnExactCpuBalance {D:Wld} {M:MW} {c:Int} {w:World} (ft:FitW w D M) (_:InR .i64 c) (hg:ztf w) :
  Calls Tryz.prog zf6 #[.agg (encW D M).toArray,.int .i64 c] w fun e w'=>e = .returned (.bool true)∧ExtX [] w w':=by
 refine (zm6 D.now M.cO D.cpus.length M.cC M.tO D.tasks.length M.tC M.gO D.groups.length M.gC c (R:=fun v w'=>v = .bool true∧ExtX [] w w') ?_).mono fun e w' ⟨v,he,hv,h3⟩=>⟨by rw [he,hv],h3⟩
 have hl:LenW D:=⟨ft.lc,ft.lt,ft.lg,ft.ft⟩
 have hrd:=ft.rd
 intro b hb
 refine ⟨_,zaf2 ft (by decide) (by decide),fun _ w1 hx1=>⟨rfl,hx1⟩,fun hs => ?_⟩
 have hs:=of_decide_eq_false hs
 have sm:=(zalx (W:=D) (left:=1048576) (by decide) (by omega)).1
 have smr:SmW (ansD D (balB D c) (balW D c)).1:=zal7 sm fun hW hb=>zamz sm hW hb
 have hmD:=zagg sm
 generalize hr:ansD D (balB D c) (balW D c)=r at smr
 have hmR:=zagg smr
 intro wr1 hx1 hs1
 have s1:Sc w [b] wr1:=((Sc.start w).add hb).call0 hx1
 refine Calls.mono (zai3 hrd s1 hs1 sm) ?_
 rintro e wv ⟨mA,he,hA,hy⟩
 refine ⟨_,_,_,_,_,_,_,_,_,_,he,za9 hy hs1,fun wr2 hx2 hs2 => ?_⟩
 have s2:=(s1.call0 hy).step hx2
 have hA2:=hA.step hx2
 refine Calls.mono (zue (c:=c) hA2.rd0 hl) ?_
 rintro e1 wv1 ⟨v,he1,nW,mW,hv,hW0,hy1⟩
 subst hv
 rw [hr] at he1 hW0
 have s3:=s2.call0 hy1
 have hW1:=(OW.of hW0 hs2).mono s2.ext.size
 refine ⟨_,_,_,_,_,_,_,_,_,_,_,he1,za9 hy1 hs2,fun b1 hb1 wr3 hx3 hs3 => ?_⟩
 have s4:=s3.put hx3 hb1
 have hW2:=hW1.put hx3 hb1
 refine Calls.mono (zai3 hrd s4 hs3 sm) ?_
 rintro e2 wv2 ⟨mX,he2,hX0,hy2⟩
 have n0:=sepW hW2.own hX0.own (Nat.le_refl _)
 have s5:=s4.call0 hy2
 have hW3:=hW2.call0 hy2
 have hX1:=hX0.mono s4.ext.size
 refine ⟨_,_,_,_,_,_,_,_,_,_,he2,za9 hy2 hs3,fun b2 hb2 wr4 hx4 hs4 => ?_⟩
 have s6:=s5.put hx4 hb2
 have hW4:=hW3.put hx4 hb2
 have hX2:=hX1.put hx4 hb2
 refine Calls.mono (zm9 (c:=c) hX2.rd0 hl (hg.ext s6.ext)) ?_
 rintro e3 wv3 ⟨v,he3,nG,mG,hv,hG0,hy3⟩
 subst hv
 rw [hr] at he3 hG0
 have n1:=sepW hX2.own hG0 (Nat.le_refl _)
 have n2:=sepW hW4.own hG0 (Nat.le_refl _)
 have s7:=s6.call0 hy3
 have hW5:=hW4.call0 hy3
 have hX3:=hX2.call0 hy3
 have hG1:=(OW.of hG0 hs4).mono s6.ext.size
 refine ⟨_,_,_,_,_,_,_,_,_,_,_,he3,za9 hy3 hs4,fun b3 hb3=>⟨true,eqWW hG1.rd hW5.rd smr,fun hbad=>(by simp at hbad),fun _ wr6 hx6 hs6 => ?_⟩⟩
 have s8:=s7.put hx6 hb3
 have hW6:=hW5.put hx6 hb3
 have hX4:=hX3.put hx6 hb3
 have hG2:=hG1.put hx6 hb3
 refine Calls.mono (zai3 hrd s8 hs6 sm) ?_
 rintro e4 wv4 ⟨mY,he4,hY,hy4⟩
 refine ⟨_,_,_,_,_,_,_,_,_,_,he4,za9 hy4 hs6,rfl,true,eqWW (hX4.call0 hy4).rd hY.rd sm,fun hbad=>(by simp at hbad),fun _ wr8 hx8 hs8 => ?_⟩
 have s9:=(s8.call0 hy4).step hx8
 have hW7:=(hW6.call0 hy4).step hx8
 have hX5:=(hX4.call0 hy4).step hx8
 have hG3:=(hG2.call0 hy4).step hx8
 refine Calls.mono (zzt hX5.own sm) ?_
 rintro e5 wv5 ⟨he5,_,hy5⟩
 have s10:=s9.call hy5 fun x hx=>(hX5.own.lt x hx).1
 have hW8:=hW7.call hy5 n0.1
 have hG4:=hG3.call hy5 n1.2
 refine ⟨_,he5,zjz hy5 hs8 hX5.nb,true,fun _=>eqWW hG4.rd hW8.rd smr,fun hbad => ?_,fun _ wr10 hx10 hs10 => ?_⟩
 ·rw [decide_eq_false (by omega)] at hbad
  simp at hbad
 have s11:=s10.step hx10
 have hW9:=hW8.step hx10
 have hG5:=hG4.step hx10
 refine Calls.mono (zzt hG5.own smr) ?_
 rintro e6 wv6 ⟨he6,hGm,hy6⟩
 have s12:=s11.call hy6 fun x hx=>(hG5.own.lt x hx).1
 have hW10:=hW9.call hy6 n2.1
 have hH:OW nG w.heap.size _ wv6 (zai8 r.1) mG:=⟨hGm,hG5.nb⟩
 refine ⟨_,he6,zjz hy6 hs10 hG5.nb,_,zzq hH.rd smr,fun hbad => ?_,fun _=>⟨fun hbad=>(by simp at hbad),fun _ wr13 hx13 hs13 => ?_⟩⟩
 ·have:=of_decide_eq_true hbad
  omega
 have s13:=s12.step hx13
 have hW11:=hW10.step hx13
 have hH2:=hH.step hx13
 refine Calls.mono (zai3 hrd s13 hs13 sm) ?_
 rintro e7 wv7 ⟨mZ,he7,hZ,hy7⟩
 refine ⟨_,_,_,_,_,_,_,_,_,_,he7,za9 hy7 hs13,fun wr14 hx14 hs14 => ?_⟩
 have s14:=(s13.call0 hy7).step hx14
 have hW12:=(hW11.call0 hy7).step hx14
 have hH3:=(hH2.call0 hy7).step hx14
 refine Calls.mono (zm9 (c:=c) (hZ.step hx14).rd0 hl (hg.ext s14.ext)) ?_
 rintro e8 wv8 ⟨v,he8,nI,mI,hv,hI0,hy8⟩
 subst hv
 rw [hr] at he8 hI0
 have s15:=s14.call0 hy8
 have hW13:=hW12.call0 hy8
 have hH4:=hH3.call0 hy8
 have hI:=OW.of hI0 hs14
 refine ⟨_,_,_,_,_,_,_,_,_,_,_,he8,za9 hy8 hs14,fun b4 hb4=>⟨true,eqWW hI.rd hW13.rd smr,fun hbad=>(by simp at hbad),fun _=>⟨_,zzq hH4.rd smr,fun hbad => ?_,fun _=>⟨fun hbad=>(by simp at hbad),fun _ wr18 hx18=>⟨rfl,(s15.step hx18).ext⟩⟩⟩⟩⟩
 have:=of_decide_eq_true hbad
 omega
end Go.Proofs.YtajdcjidpolloaaGreatDoor
