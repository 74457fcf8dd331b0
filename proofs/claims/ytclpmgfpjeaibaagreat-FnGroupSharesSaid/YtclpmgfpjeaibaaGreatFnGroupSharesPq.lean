/- Part 17 of what the law FnGroupShares needs: the engine, the functions' propositions, the contracts. -/
import Derived.Test.YtclpmgfpjeaibaaGreatFnGroupSharesPp
namespace Go.Proofs.YtclpmgfpjeaibaaGreat
open Go.RowKit
set_option linter.unusedVariables false
set_option linter.unusedSimpArgs false
set_option maxRecDepth 10000
theorem zhh {Q:Nat->Prop} (h:∃f,Q f):∃f,Q f/\∀g,Q g->f<=g:=by
 obtain ⟨f,hf⟩:=h
 induction f using Nat.strongRecOn with
 | ind f ih=>
  by_cases h:∃g,g<f/\Q g
  ·obtain ⟨g,hg,hq⟩:=h;exact ih g hg hq
  ·exact ⟨f,hf,fun g hq=>Nat.le_of_not_lt fun hlt=>h ⟨g,hlt,hq⟩⟩
open Classical in
noncomputable def zhg (Q:Nat->Prop):Nat:=if h:∃f,Q f then (zhh h).choose else 0
theorem zkz {Q:Nat->Prop} (h:∃f,Q f):Q (zhg Q):=by
 unfold zhg;rw [dif_pos h];exact (zhh h).choose_spec.1
theorem zql {Q:Nat->Prop} {f:Nat} (h:Q f):zhg Q<=f:=by
 unfold zhg;rw [dif_pos ⟨f,h⟩];exact (zhh ⟨f,h⟩).choose_spec.2 f h
noncomputable def Ep (W:Q8) (c n:Int):Int:=if Yh n 1 100=false\/Y5 W c=false then 1 else if (gi W.cpus c).up=false then 6 else if QG W=false then 10 else 0
def zoc (W:Q8) (c n:Int):Q8:=AA c 400 W n
theorem zfv {c:Int} {f:Nat} {W:Q8} {left:Int} (h:left<=0):AA c (f+1) W left=Qg W:=by
 rw [AA,if_pos h]
theorem zbh {c:Int} {f:Nat} {W:Q8} {left:Int} (h:¬left<=0) (hp:Qm W c<0):AA c (f+1) W left=Qg (endW (setCp W c (K3 W c left)) c):=by
 rw [AA,if_neg h,if_pos hp]
theorem zbi {c:Int} {f:Nat} {W:Q8} {left:Int} (h:¬left<=0) (hp:¬Qm W c<0):AA c (f+1) W left=AA c f (HR W c left).1 (HR W c left).2:=by
 rw [AA,if_neg h,if_neg hp]
theorem zoe {W:Q8} {c n:Int} (hW:Qz W=true) (hb:Ep W c n=0):Yh n 1 100=true/\Y5 W c=true/\(gi W.cpus c).up=true/\QG W=true/\C3 400 c W W n:=by
 unfold Ep at hb
 split at hb
 ·cases hb
 ·rename_i h1
  split at hb
  ·cases hb
  ·rename_i h2
   split at hb
   ·cases hb
   ·rename_i h3
    have h1a:Yh n 1 100=true:=by
     cases h:Yh n 1 100 with
     | true=>rfl
     | false=>exact absurd (.inl h) h1
    have h1b:Y5 W c=true:=by
     cases h:Y5 W c with
     | true=>rfl
     | false=>exact absurd (.inr h) h1
    have h2:(gi W.cpus c).up=true:=by simpa using h2
    have h3:QG W=true:=by simpa using h3
    obtain ⟨c0,c1⟩:=Uc h1b;have:=Qn.1 h1a;exact ⟨h1a,h1b,h2,h3,zhy (Qi.1 hW) (Qi.1 h3) c0 c1 h2 (by omega) (by omega)⟩
theorem zob {f:Nat} {c left:Int} {W0 W:Q8} (h:C3 f c W0 W left):∃g,f=g+1:=by
 have h1:=h.f1;have h2:=h.l0;exact ⟨f - 1,by omega⟩
theorem zmz {f:Nat} {c left:Int} {W0 W:Q8} (h:C3 f c W0 W left):SW (HS f) (endW (setCp W c (K3 W c left)) c)/\SW (HS f) (setCp W c (K3 W c left))/\0<=(gi W.cpus c).idle+left/\(gi W.cpus c).idle+left<=60000000000000000:=by
 have c0:=h.c0;have c1:=h.c1;have hcu:=h.sw.cu c c0 c1;have hl0:=h.l0;have hl1:=h.l1;have hr:=h.rb.c c c0 c1;have s1:SW (HS f) (setCp W c (K3 W c left)):=h.sw.setCp c0 c1 (EF (c:=c) (by rw [List.length_set]; exact h.sw.a.c2) c0 (by rw [List.length_set]; exact c1) (by rw [show gi (W.cpus.set c.toNat (K3 W c left)) c=K3 W c left from (Qy _ _ c0 c1 c0).trans (if_pos rfl)]; exact h.up)) hcu.1 hcu.2;exact ⟨s1.endW c0 (by show c<((W.cpus.set c.toNat (K3 W c left)).length:Int); rw [List.length_set]; exact c1),s1,by omega,by omega⟩
section
variable {W:Q8} {m:MW} {w:World}
def zj6 (y y1:Nat) (w0:World) (c n:Int) (W:Q8) (f:Nat) (vs:List Value) (w2:World):Prop:=
 ∃(V:Q8) (m2:MW) (left:Int),vs = .int .i64 left::Qa V m2/\Wk 8 [y,y1] w0 w2 V m2/\C3 f c W V left/\AA c f V left=zoc W c n
set_option maxHeartbeats 4000000 in
theorem FY {c n:Int} (h:Xa [] w W m) (hl:X7 W) :
  Cz VU #[.agg (Qa W m).toArray,.int .i64 c,.int .i64 n] w fun e w'=>∃v,e = .returned v/\QD (Xn W (Ep W c n) (zoc W c n)) w v w':=by
 refine FH W.now m.cO W.cpus.length m.cC m.tO W.tasks.length m.tC m.gO W.groups.length m.gC c n (R:=fun v w'=>QD (Xn W (Ep W c n) (zoc W c n)) w v w') ?_;intro y hy y1 hy1;have hm0:=YW;have hlc:=hl.c;refine ⟨_,X0 h hl.c hl.t hl.g hl.f,fun g wr hx=>QD.bad (by simpa using g) hx,fun g wr hx2 hs2 => ?_⟩;have hW:Qz W=true:=by simpa using g
 have wp:=Qi.1 hW;refine Calls.mono (O0 (h.ext hx2) wp.a) ?_;rintro e wv ⟨m',he,hM,hy2⟩;have hK:=Wk.begin hy hy1 hx2 hs2 hM hy2;have hr:=hK.rd;refine ⟨_,_,_,_,_,_,_,_,_,_,he,Qf hy2 hs2,_,Qh,fun _=>⟨by omega,by omega⟩,Y5 W c,fun _=>Qh,fun g wr1 hx3 => ?_,fun g => ?_⟩
 ·have hb:Ep W c n=1:=by
   unfold Ep; rw [if_pos]
   simpa using g
  exact QD.no hW (by rw [hb]; decide) (hK.step hx3) hb
 have g:Yh n 1 100=true/\Y5 W c=true:=by simpa using g
 have hn1:¬(Yh n 1 100=false\/Y5 W c=false):=by rw [g.1,g.2]; simp
 obtain ⟨c0,c1⟩:=Uc g.2;have hro:=Pz hr hl;refine ⟨hr.c.ix ZX c0 c1,_,hr.c.f c0 c1 (j:=0) rfl,fun g2 wr1 hx3 => ?_,fun g2=>⟨_,hro,fun g3 wr1 hx3 => ?_,fun g3 => ?_⟩⟩
 ·have hb:Ep W c n=6:=by unfold Ep; rw [if_neg hn1,if_pos (by simpa using g2)]
  exact QD.no hW (by rw [hb]; decide) (hK.step hx3) hb
 ·have g2:(gi W.cpus c).up=true:=by simpa using g2
  have hr0:¬QG W=true:=fun hr=>by
   rw [show Jm (Xq W/\Lh W)=true from Qi.2 ⟨wp,Qi.1 hr⟩] at g3;cases g3
  have hb:Ep W c n=10:=by unfold Ep; rw [if_neg hn1,if_neg (by rw [g2]; decide),if_pos (by simpa using hr0)]
  exact QD.no hW (by rw [hb]; decide) (hK.step hx3) hb
 have g2:(gi W.cpus c).up=true:=by simpa using g2
 have hr0:QG W=true:=by
  have hd:Jm (Xq W/\Lh W)=true:=by simpa using g3
  exact Qi.2 (Qi.1 hd).2
 have hb:Ep W c n=0:=by unfold Ep; rw [if_neg hn1,if_neg (by rw [g2]; decide),if_neg (by rw [hr0]; decide)]
 obtain ⟨_,_,_,_,hI0⟩:=zoe hW hb;refine ⟨fun vs _ w2=>∃(V:Q8) (m2:MW) (K:Int),vs=Qa V m2/\Wk 8 [y,y1] w w2 V m2/\SW K V/\0<=K/\K<=60000000000000000/\Qg V=zoc W c n,?_,?_⟩
 ·refine ⟨fun vs w2=>∃f,zj6 y y1 w c n W f vs w2,fun vs w2=>zhg fun f=>zj6 y y1 w c n W f vs w2,fun wr hx3 _=>⟨400,W,m',n,rfl,hK.step hx3,hI0,rfl⟩,?_⟩;intro left l0 l1O l1L l1C l2O l2L l2C l3O l3L l3C w2 hs3 hinv;obtain ⟨f0,hf0⟩:∃f0,f0=zhg fun f=>zj6 y y1 w c n W f [.int .i64 left,.int .i64 l0,.slice l1O l1L l1C,.slice l2O l2L l2C,.slice l3O l3L l3C] w2:=⟨_,rfl⟩
  have hS:=zkz hinv;simp only [<-hf0] at hS ⊢;clear hf0 hinv;obtain ⟨V,m2,left',hv,hK2,hI,hN⟩:=hS;simp only [Qa,List.cons.injEq,Value.int.injEq,Value.slice.injEq,true_and,and_true] at hv;obtain ⟨rfl,rfl,⟨rfl,rfl,rfl⟩,⟨rfl,rfl,rfl⟩,rfl,rfl,rfl⟩:=hv;obtain ⟨f,rfl⟩:=zob hI;have hnext:∀{vs:List Value} {w9:World},zj6 y y1 w c n W f vs w9->(∃f,zj6 y y1 w c n W f vs w9)/\(zhg fun f=>zj6 y y1 w c n W f vs w9)<f+1:=fun hh=>⟨⟨f,hh⟩,Nat.lt_succ_of_le (zql hh)⟩
  have hr2:=hK2.rd;have hf:=hI.f2;have hKu:=HT hf;have hSu:=zd0 hf;have hh0:(0:Int)<=Qo:=by decide
  have c1V:=hI.c1;have hixc:=hr2.c.ix ZX c0 c1V;refine ⟨fun hlt => ?_,fun hge => ?_⟩
  ·have hlt:=of_decide_eq_true hlt;refine ⟨_,j9 hr2 hI.sw.a c0 c1V,fun gp => ?_,fun gp => ?_⟩
   ·have gp:=of_decide_eq_true gp;rw [zbh (by omega) gp] at hN;obtain ⟨i1,i2,i3,i4⟩:=zmz hI;have e1:Yj 8 w.heap.size _ (setCp V c (K3 V c left)) m2:=hK2.own.stoC c0 c1V (j:=4) (vs:=[.int .i64 ((gi V.cpus c).idle+left)]) (x:=K3 V c left) rfl (by simp);refine ⟨hixc,_,hr2.c.f c0 c1V (j:=4) rfl,⟨by omega,by omega⟩,hixc,zly hK2.own hK2.nb c0 c1V (j:=4) (by decide),fun wr4 hx4 hs4 => ?_⟩;have hK4:=(hK2.sto e1 zal).step hx4;have hcall:=Zm hK4.own c0 (by show c<((V.cpus.set c.toNat (K3 V c left)).length:Int); rw [List.length_set]; exact c1V);rw [Bv] at hcall;refine Calls.mono hcall ?_;rintro e2 wv2 ⟨he2,hy4⟩;exact ⟨_,_,_,_,_,_,_,_,_,_,he2,hK4.kept hy4 hs4,fun wr5 hx5 _=>⟨_,m2,_,rfl,(hK4.deed hy4 hs4).step hx5,i1,by omega,by omega,hN⟩⟩
   ·have gp:=of_decide_eq_false gp;rw [zbi (by omega) gp] at hN;have hR:=zhx hI hlt gp;have t0:=hR.line.t0;have t1:=hR.line.t1;have htl:V.tasks.length=12:=hI.sw.a.t;refine ⟨fun _ _ w3=>Wk 8 [y,y1] w w3 (YK V c (Qm V c)) m2,?_,?_⟩
    ·refine ⟨hixc,_,hr2.c.f c0 c1V (j:=1) rfl,fun _=>hixc,_,fun _=>hr2.c.f c0 c1V (j:=2) rfl,fun g5 => ?_,fun g5 wr4 hx4 _ => ?_⟩
     ·have g5:Qm V c≠(gi V.cpus c).cur\/(gi V.cpus c).ran>=50:=by simpa using g5
      have hS:Y9 V c (Qm V c)={ gi V.cpus c with cur:=Qm V c,ran:=0 }:=by unfold Y9; rw [if_pos g5]
      have e1:=hK2.own.stoC c0 c1V (j:=1) (vs:=[.int .i64 (Qm V c)]) (x:={ gi V.cpus c with cur:=Qm V c }) rfl (by simp);have hl1:(V.cpus.set c.toNat { gi V.cpus c with cur:=Qm V c }).length=V.cpus.length:=List.length_set;have hg1:gi (V.cpus.set c.toNat { gi V.cpus c with cur:=Qm V c }) c={ gi V.cpus c with cur:=Qm V c }:=(Qy _ _ c0 c1V c0).trans (if_pos rfl);have e2:=e1.stoC c0 (by simpa using c1V) (j:=2) (vs:=[.int .i64 0]) (x:=Y9 V c (Qm V c)) (by rw [hg1,hS]; rfl) (by simp)
      have hW2:({ V with cpus:=(V.cpus.set c.toNat { gi V.cpus c with cur:=Qm V c }).set c.toNat (Y9 V c (Qm V c)) }:Q8)=YK V c (Qm V c):=by
       unfold YK setCp;rw [List.set_set]
      have hK3:=hK2.sto e1 zal;have hK4:Wk 8 [y,y1] w _ ({ V with cpus:=(V.cpus.set c.toNat { gi V.cpus c with cur:=Qm V c }).set c.toNat (Y9 V c (Qm V c)) }:Q8) m2:=hK3.sto e2 zal;rw [hW2] at hK4;exact ⟨hixc,zly hK2.own hK2.nb c0 c1V (j:=1) (by decide),hixc,zly e1 hK2.nb c0 (by show c<((V.cpus.set c.toNat { gi V.cpus c with cur:=Qm V c }).length:Int); rw [hl1]; exact c1V) (j:=2) (by decide),fun wr4 hx4 _=>hK4.step hx4⟩
     ·have g5:¬(Qm V c≠(gi V.cpus c).cur\/(gi V.cpus c).ran>=50):=by simpa using g5
      have hS:YK V c (Qm V c)=V:=by
       unfold YK Y9 setCp;rw [if_neg g5,zli c0 c1V]
      rw [hS];exact hK2.step hx4
    ·intro wv5 hs5 hK5 wr6 hx6 hs6;have hK6:=hK5.step hx6;have hcG:=Mq (t:=Qm V c) (hK6.rd.less (cs:=[]) (by simp)) hR.s1.a.tree t0 (by show _<((V.tasks.length:Nat):Int); omega) hR.us;have ecp:Qa (YK V c (Qm V c)) m2=Qa V m2:=Bv _ _ _ _;rw [ecp] at hcG;refine Calls.mono hcG ?_;rintro e3 wv6 ⟨pO,pC,he3,hO,hy6⟩;have hO:JC XG 1 Qc wr6.heap.size wv6 pO pC (Yw V (Qm V c)):=hO;have he3:e3 = .returned (.slice pO (Yw V (Qm V c)).length pC):=he3;have hK7:=hK6.call0 hy6;refine ⟨_,_,_,he3,Qf hy6 hs6,fun wr8 hx8 hs8 => ?_⟩;have hK8:=hK7.step hx8
     have hpn0:∀z∈Qw pO,z∉[y,y1]:=fun z hz hm=>by
      have:=(hO.lt z hz).1;have:=hs6 z hm;omega
     have hO8:=hO.ext hx8 hpn0
     have hpn8:∀z∈Qw pO,z∉QL 8 m2:=fun z hz hm=>by
      have:=(hO.lt z hz).1;have:=(hK6.own.lt z hm).2;omega
     have hcT:=q7 hK8.own hR.s1 hK8.base hO8 hpn8 hR.len c0 (by rw [(HY hI.sw hI.rb c0 c1V hI.up t0 t1).2.2.2.2.2]; exact c1V) hR.pin hR.dr;rw [ecp] at hcT;refine Calls.mono hcT ?_;rintro e4 wv9 ⟨m3,he4,hy9⟩;have hK9:Wk 8 [y,y1] w wv9 (YE V c).1 m3:=hK8.deed hy9 hs8;have hTk:zbv c (Yw V (Qm V c)) (YK V c (Qm V c))=YE V c:=rfl;rw [hTk] at he4 hy9;have hO9:=hO8.ext hy9.ext hpn8
     have hpn9:∀z∈Qw pO,z∉QL 8 m3:=fun z hz hm=>by
      rcases hy9.sub z hm with h1 | h1
      ·exact hpn8 z hz h1
      ·have:=(hO8.lt z hz).2;omega
     have eC:(YE V c).1.cpus=(YK V c (Qm V c)).cpus:=hR.tk.o.c;have lT:(YE V c).1.cpus.length=V.cpus.length:=by rw [eC]; exact (HY hI.sw hI.rb c0 c1V hI.up t0 t1).2.2.2.2.2
     have cT:c<((YE V c).1.cpus.length:Int):=by rw [lT]; exact c1V
     have e9:Qa (YE V c).1 m3=Qa V m2:=by
      rw [hy9.encW_eq (W0:=YK V c (Qm V c)) hR.tk.o.n (by rw [eC]) (by rw [hR.tk.o.t]) hR.tk.o.g.len];exact ecp
     have rT:RB (Er (f+1)) (YE V c).1:=hR.r1.sum hR.tk.su hR.tk.o.g (by rw [eC]);have eT:(YE V c).1.tasks=V.tasks:=hR.tk.o.t;have eG:QR V.groups (YE V c).1.groups:=hR.tk.o.g;have pT:Yw (YE V c).1 (Qm V c)=Yw V (Qm V c):=zdx eT eG _;have uT:Q6 (YE V c).1.groups (Q7 (YE V c).1 (Qm V c)).group=true:=by rw [eG.usd,XF eT]; exact hR.us
     have upT:(gi (YE V c).1.cpus c).up=true:=by rw [eC]; exact (HY hI.sw hI.rb c0 c1V hI.up t0 t1).2.2.1
     have ranT:(gi (YE V c).1.cpus c).ran<50:=by rw [eC]; exact hR.ran
     have hnx:=hR.nx;refine ⟨_,_,_,_,_,_,_,_,_,_,_,he4,hK8.kept hy9 hs8,fun gt wr10 hx10 hs10 => ?_,fun gt => ?_⟩
     ·have gt:¬(YE V c).2=true:=by simpa using gt
      have hRW:HR V c left=(Qg (endW (YE V c).1 c),left):=by unfold HR; rw [if_neg gt]
      rw [hRW] at hnx hN;have hK10:=hK9.step hx10;have hcE:=Zm hK10.own c0 cT;rw [e9] at hcE;refine Calls.mono hcE ?_;rintro e5 wv11 ⟨he5,hy11⟩;refine ⟨_,_,_,_,_,_,_,_,_,_,he5,hK10.kept hy11 hs10,fun wr12 hx12 hs12 => ?_⟩;have hK12:=(hK10.deed hy11 hs10).step hx12;refine Calls.mono (Qp hK12.own (hR.tk.sw.endW c0 cT) (by omega) (by omega) hK12.base) ?_;rintro e6 wv13 ⟨m4,he6,hy13⟩;generalize Qg (endW (YE V c).1 c)=V9 at he6 hy13 hnx hN;exact ⟨_,_,_,_,_,_,_,_,_,_,he6,hK12.kept hy13 hs12,fun wr14 hx14 _=>hnext ⟨V9,m4,left,rfl,(hK12.deed hy13 hs12).step hx14,hnx,hN⟩⟩
     ·have gt:(YE V c).2=true:=by simpa using gt
      have hRW:HR V c left=(Qg (O9 (YE V c).1 c (Qm V c) (U1 V c left)),left - U1 V c left):=by unfold HR; rw [if_pos gt]
      rw [hRW] at hnx hN;obtain ⟨m1,m2'⟩:=hR.m gt;have hl1:=hI.l1;have hcM:=CZ (n:=left) hK9.rd hR.tk.sw.a (hO9.rd Zs.len hpn0) (pC:=pC) hR.len c0 cT (fun z hz=>by rw [eG.usd]; exact hR.pin z hz);rw [e9] at hcM;refine ⟨_,hcM,fun wr10 hx10 hs10 => ?_⟩;have hK10:=hK9.step hx10;have hO10:JC XG 1 Qc wr6.heap.size wr10 pO pC (Yw (YE V c).1 (Qm V c)):=by rw [pT]; exact hO9.ext hx10 hpn0
      have hcC:=B4 (t:=Qm V c) (n:=U1 V c left) hK10.own hK10.base hO10 hpn9 hR.tk.sw rT ⟨by omega,by omega⟩ ⟨by omega,by omega⟩ c0 cT upT ranT t0 t1 uT (by omega) (by omega);rw [e9,pT] at hcC;refine Calls.mono hcC ?_;rintro e7 wv11 ⟨m4,he7,hy11⟩;generalize Qg (O9 (YE V c).1 c (Qm V c) (U1 V c left))=V9 at he7 hy11 hnx hN;exact ⟨_,_,_,_,_,_,_,_,_,_,he7,hK10.kept hy11 hs10,⟨by show _<=left - U1 V c left; omega,by show left - U1 V c left<=_; omega⟩,fun wr12 hx12 _=>hnext ⟨V9,m4,left - U1 V c left,rfl,(hK10.deed hy11 hs10).step hx12,hnx,hN⟩⟩
  ·have hge:=of_decide_eq_false hge;rw [zfv (by omega)] at hN;exact fun wr4 hx4 _=>⟨V,m2,_,rfl,hK2.step hx4,hI.sw,by omega,by omega,hN⟩
 ·rintro a0 a1O a1L a1C a2O a2L a2C a3O a3L a3C w2 hs3 ⟨V,m2,K,hv,hK2,sw,k0,k1,hN⟩ wr4 hx4 hs4;simp only [Qa,List.cons.injEq,Value.int.injEq,Value.slice.injEq,true_and,and_true] at hv;obtain ⟨rfl,⟨rfl,rfl,rfl⟩,⟨rfl,rfl,rfl⟩,rfl,rfl,rfl⟩:=hv;have hK4:=hK2.step hx4;refine Calls.mono (Qp hK4.own sw k0 (by omega) hK4.base) ?_;rintro e3 wv3 ⟨m3,he3,hy5⟩;rw [hN] at he3 hy5;exact ⟨_,_,_,_,_,_,_,_,_,_,he3,hK4.kept hy5 hs4,fun wr8 hx8=>QD.ok hW hb ((hK4.deed hy5 hs4).step hx8)⟩
end
set_option maxRecDepth 100000
set_option maxHeartbeats 1600000
def cO:Code->Code
 | .loop c=>c
 | c=>c
theorem zg6 {W:Q8} {g c:Int} (h:¬QF W g c<0):ZG W g c 20=true/\Z6 W g c 20=Ze W c (QF W g c).toNat:=by
 unfold ZG Z6;unfold QF at h ⊢;rw [if_neg h];exact ⟨decide_eq_true (by omega),rfl⟩
theorem znw {W:Q8} (ha:WA W) (fl:zua W) {c:Int} (c0:0<=c) (c1:c<(W.cpus.length:Int)) (f:Nat):∀g:Int,Q6 W.groups g=true->(4 - dep 3 W.groups g).toNat=f->(∀x∈QU W.groups g,(Qb W x c).v<=(Qb W (gi W.groups x).parent c).floor)->0<=PF W g c->
  (Q7 W (PF W g c)).v<=(Qb W (Q7 W (PF W g c)).group c).floor/\∀x∈QU W.groups (Q7 W (PF W g c)).group,(Qb W x c).v<=(Qb W (gi W.groups x).parent c).floor:=by
 induction f with
 | zero=>
  intro g hu hf;have:=MU ha hu;omega
 | succ f ih=>
  intro g hu hf hp h;rw [Ea ha hu] at h ⊢
  by_cases h1:QF W g c<0
  ·rw [if_pos h1] at h; omega
  ·rw [if_neg h1] at h ⊢;obtain ⟨b1,b2⟩:=zg6 h1;have hfl:=fl g c hu c0 c1 b1;rw [b2] at hfl
   by_cases h2:QF W g c<12
   ·rw [if_pos h2] at h ⊢
    have hm:Zd W g c (QF W g c).toNat=true:=by
     rcases Za (Zd W g c) (Ze W c) 20 with ⟨a,_⟩ | ⟨_,_,a,_⟩
     ·unfold QF at h1; omega
     ·exact a
    rw [Vn (by omega)] at hm;unfold Tw at hm;rw [show (((QF W g c).toNat:Nat):Int)=QF W g c by omega] at hm;simp only [Bool.and_eq_true,beq_iff_eq] at hm;unfold Ze at hfl;rw [if_pos (by omega),show (((QF W g c).toNat:Nat):Int)=QF W g c by omega] at hfl;rw [show (Q7 W (QF W g c)).group=g from hm.1.2];exact ⟨hfl,hp⟩
   ·rw [if_neg h2] at h ⊢;obtain ⟨k1,k2,k3,k4⟩:=KD ha hu (g:=g) (c:=c) (by omega)
    have hm:Zd W g c (QF W g c).toNat=true:=by
     rcases Za (Zd W g c) (Ze W c) 20 with ⟨a,_⟩ | ⟨_,_,a,_⟩
     ·unfold QF at h1; omega
     ·exact a
    rw [show (QF W g c).toNat=12+(QF W g c - 12).toNat by omega,Jw] at hm;unfold XU at hm;rw [show (((QF W g c - 12).toNat:Nat):Int)=QF W g c - 12 by omega] at hm;simp only [Bool.and_eq_true,beq_iff_eq] at hm;unfold Ze at hfl;rw [if_neg (by omega),show (((QF W g c).toNat - 12:Nat):Int)=QF W g c - 12 by omega] at hfl;refine ih _ k1 (by omega) (fun x hx => ?_) h;rw [Ye ha.tree k1 k2] at hx;rcases List.mem_cons.1 hx with e | e
    ·rw [e,hm.1.2.2]; exact hfl
    ·rw [hm.1.2.2] at e; exact hp x e
structure ztc (W:Q8) (c t ran:Int):Prop where
 r0:0<=ran
 r1:ran<50
 t1:(Q7 W t).v - (Qb W (Q7 W t).group c).floor<=Z0 ran (Qd (Q7 W t).nice)
 t2:(Qb W (Q7 W t).group c).floor<=(Q7 W t).v
 p1:∀x∈QU W.groups (Q7 W t).group,(Qb W x c).v - (Qb W (gi W.groups x).parent c).floor<=Z0 ran (Qb W x c).w
 p2:∀x∈QU W.groups (Q7 W t).group,(Qb W (gi W.groups x).parent c).floor<=(Qb W x c).v
theorem zpf {W:Q8} (iv:XK W) {c:Int} (c0:0<=c) (c1:c<(W.cpus.length:Int)) (hl:zih W (Qm W c) c) (hp:¬Qm W c<0):ztc W c (Qm W c) (gi (YK W c (Qm W c)).cpus c).ran:=by
 have wp:=iv.wp;have p:=X3 wp;have h:=Te p hl.t0 hl.t1 (by rw [hl.st]; decide);have e:gi (YK W c (Qm W c)).cpus c=Y9 W c (Qm W c):=(Qy _ _ c0 c1 c0).trans (if_pos rfl)
 have t2:(Qb W (Q7 W (Qm W c)).group c).floor<=(Q7 W (Qm W c)).v:=by
  have:=(h.f hl.st).1
  rwa [hl.cpu] at this
 have p2:∀x∈QU W.groups (Q7 W (Qm W c)).group,(Qb W (gi W.groups x).parent c).floor<=(Qb W x c).v:=fun x hx=>by
  obtain ⟨xu,xz⟩:=Yo wp.a.tree _ h.g x hx;exact ((p.s x c xu c0 c1).st xz (hl.on x hx)).1
 rw [e]
 by_cases hc:(gi W.cpus c).cur>=0/\(gi W.cpus c).ran<50
 ·have hpk:Qm W c=(gi W.cpus c).cur:=by unfold Qm; rw [if_pos hc]
  have hs:Y9 W c (Qm W c)=gi W.cpus c:=by
   unfold Y9;rw [if_neg];rintro (h | h)
   ·exact h hpk
   ·omega
  rw [hs];have hy:=(p.c c c0 c1).yes hc.1;have hq:=(p.c c c0 c1).q hc.1 (by rw [<-hpk]; exact hl.st) (by rw [<-hpk]; exact hl.cpu);rw [<-hpk] at hq;exact ⟨by omega,hc.2,hq.1,t2,fun x hx=>(hq.2 x hx).2,p2⟩
 ·have hpk:Qm W c=PF W 0 c:=by unfold Qm; rw [if_neg hc]
  have hs:(Y9 W c (Qm W c)).ran=0:=by
   unfold Y9;rw [if_pos]
   by_cases h0:(gi W.cpus c).cur>=0
   ·exact .inr (by omega)
   ·exact .inl (by omega)
  rw [hs];have hn:=znw wp.a iv.fl c0 c1 _ 0 wp.a.root rfl (fun x hx=>by rw [show QU W.groups 0=[] from Z8 _ _] at hx; cases hx) (by rw [<-hpk]; omega);rw [<-hpk] at hn;have v0:∀w:Int,0<=Z0 0 w:=fun w=>(Ku 0 w).1
  refine ⟨Int.le_refl _,by decide,?_,t2,fun x hx => ?_,p2⟩
  ·have:=v0 (Qd (Q7 W (Qm W c)).nice);have:=hn.1;omega
  ·have:=v0 (Qb W x c).w;have:=hn.2 x hx;omega
theorem zn3 {gs:List ZD} (ht:ZQ gs):∀g:Int,Q6 gs g=true->∀x∈QU gs g,dep 3 gs x<=dep 3 gs g:=
 OI ht (fun x hx=>by rw [show QU gs 0=[] from Z8 _ _] at hx; cases hx) fun h hu hz ih x hx=>by
  rw [Ye ht hu hz] at hx;rcases List.mem_cons.1 hx with e | e
  ·subst e; exact Int.le_refl _
  ·obtain ⟨_,_,_,d,e1,e2,_⟩:=ZS ht hu hz;have:=ih x e;omega
theorem zqy {gs:List ZD} (ht:ZQ gs):∀g:Int,Q6 gs g=true->(QU gs g++[0]).Nodup:=
 OI ht (by rw [show QU gs 0=[] from Z8 _ _]; simp) fun h hu hz ih=>by
  rw [Ye ht hu hz,List.cons_append,List.nodup_cons];refine ⟨fun hm => ?_,ih⟩;rcases List.mem_append.1 hm with hm | hm
  ·obtain ⟨hp,_,_,d,e1,e2,_⟩:=ZS ht hu hz;have:=zn3 ht _ hp h hm;omega
  ·exact hz (List.mem_singleton.1 hm)
theorem zpj {W:Q8} {c n g:Int} (hgl:W.groups.length=8) (u0:0<=g) (u1:g<8) (c0:0<=c) (cs:c<((gi W.groups g).shelves.length:Int)) (i d:Int) (hi:0<=i) (hd:0<=d):Qb (Nf W c n g) i d=if g=i/\c=d then Bt W c n g else Qb W i d:=by
 rw [<-J8 (W:=W) (s:=Bt W c n g) u0 (by omega) c0 cs hi hd];have hl2:g<((MQ W c n g).groups.length:Int):=by rw [Kz]; omega
 have hl1:g<((setGr (MQ W c n g) g (EK W c n g)).groups.length:Int):=by simp only [setGr,List.length_set]; rw [Kz]; omega
 unfold Qb;show gi (gi (Nf W c n g).groups i).shelves d=gi (gi (MQ W c n g).groups i).shelves d;unfold Nf setBd;rw [Yf u0 hl1 hi,Yf u0 hl2 hi,Yf u0 hl2 u0,if_pos rfl];split
 ·rename_i e;subst e;rfl
 ·rfl
theorem zpk {K S c n:Int} (c0:0<=c) (n0:0<=n) (n1:n<=100):∀(l:List Int) {W:Q8},l.Nodup->SW K W->RB S W->S+100*(l.length:Int)<=100000000000000000->c<(W.cpus.length:Int)->(∀g∈l,Q6 W.groups g=true)->
  ∀i d:Int,0<=i->0<=d->Qb (zck c n l W) i d=if i∈l/\c=d then Bt W c n i else Qb W i d:=by
 intro l
 induction l generalizing K S with
 | nil=>
  intro W _ _ _ _ _ _ i d _ _;rw [if_neg (by simp)]; rfl
 | cons g l ih=>
  intro W nd sw rb hS c1 hu i d hi hd;rw [List.length_cons] at hS;have hug:=hu g List.mem_cons_self;obtain ⟨u0,u1,_⟩:=sw.a.u hug;have hsl:=sw.a.sl hug;have h1:=zgx sw rb (by omega) c0 c1 hug n0 n1;obtain ⟨hng,ndl⟩:=List.nodup_cons.1 nd;have e:=zpj (n:=n) sw.a.gl u0 u1 c0 (by omega);rw [zeo,ih ndl h1.sw (h1.rb.mono (show S+n<=S+100 by omega)) (by omega) (by rw [h1.cp]; exact c1) (fun x hx=>by rw [h1.g.usd]; exact hu x (List.mem_cons_of_mem _ hx)) i d hi hd]
  by_cases hil:i∈l
  ·have hgi:g≠i:=fun h=>hng (h▸hil)
   by_cases hcd:c=d
   ·rw [if_pos ⟨hil,hcd⟩,if_pos ⟨List.mem_cons_of_mem _ hil,hcd⟩];unfold Bt;rw [e i c hi c0,if_neg fun h=>hgi h.1]
   ·rw [if_neg fun h=>hcd h.2,if_neg fun h=>hcd h.2,e i d hi hd,if_neg fun h=>hcd h.2]
  ·rw [if_neg fun h=>hil h.1,e i d hi hd]
   by_cases hgi:g=i
   ·subst hgi
    by_cases hcd:c=d
    ·rw [if_pos ⟨rfl,hcd⟩,if_pos ⟨List.mem_cons_self,hcd⟩]
    ·rw [if_neg fun h=>hcd h.2,if_neg fun h=>hcd h.2]
   ·rw [if_neg fun h=>hgi h.1,if_neg];rintro ⟨hm,_⟩;rcases List.mem_cons.1 hm with h | h
    ·exact hgi h.symm
    ·exact hil h
theorem zj2 {a b w:Int} (ha:0<=a) (hb:0<=b) (h:a+b<=149) (w1:1<=w) (w2:w<=20):Z0 (a+b) w=Z0 a w+Z0 b w/\Z0 a w+Z0 b w<=Zn w:=by
 have e1:=zbx ha hb (by omega) w1 w2;have e2:=zbx (a:=a+b) (b:=149 - (a+b)) (w:=w) (by omega) (by omega) (by omega) w1 w2;rw [show a+b+(149 - (a+b))=149 by omega] at e2;have:=(Ku (149 - (a+b)) w).1;unfold Zn;omega
structure zui (V T:Q8) (c t:Int):Prop where
 tk:T.tasks=V.tasks
 g:QR V.groups T.groups
 s:∀i:Int,0<=i->(gi T.groups i).shelves=(gi V.groups i).shelves
 cp:∀d:Int,0<=d->gi T.cpus d=if c=d then Y9 V c t else gi V.cpus d
 l:T.cpus.length=V.cpus.length
set_option maxHeartbeats 1000000 in
theorem zr5 {K S:Int} {V T:Q8} {c t m:Int} (iv:XK V) (hM:zui V T c t) (sw:SW K T) (rb:RB S T) (hS:0<=S/\S+500<=100000000000000000) (c0:0<=c) (c1:c<(V.cpus.length:Int)) (up:(gi V.cpus c).up=true) (t0:0<=t) (t1:t<12) (hst:(Q7 V t).state=1) (hcp:(Q7 V t).cpu=c) (hcur:(Y9 V c t).cur=t) (hb:ztc V c t (Y9 V c t).ran) (m0:1<=m) (m1:m<=100):Vu (O9 T c t m):=by
 have wp:=iv.wp;have p:=X3 wp;have hht:=Te p t0 t1 (by rw [hst]; decide);have hgl:=wp.a.gl;have htl:=wp.a.t;have c1T:c<(T.cpus.length:Int):=by rw [hM.l]; exact c1
 have eTc:gi T.cpus c=Y9 V c t:=(hM.cp c c0).trans (if_pos rfl);have upT:(gi T.cpus c).up=true:=by rw [eTc]; unfold Y9; split <;> exact up
 have ranT:(gi T.cpus c).ran<50:=by rw [eTc]; exact hb.r1
 have hg:Q6 V.groups (Q7 V t).group=true:=hht.g;have huT:Q6 T.groups (Q7 T t).group=true:=by rw [hM.g.usd,XF hM.tk]; exact hg
 have pT:Yw T t=Yw V t:=zdx hM.tk hM.g t;obtain ⟨sE,rE,_,_,hlE,_,s1,r1,cp1⟩:=zcl sw rb hS.2 c0 c1T upT ranT t0 t1 huT (by omega) m1;obtain ⟨pin,plen⟩:=BE sw.a huT;have hTG:QR V.groups (O9 T c t m).groups:=hM.g.trans cp1.g;have shT:∀i d:Int,0<=i->Qb T i d=Qb V i d:=fun i d hi=>by unfold Qb; rw [hM.s i hi]
 have hnd:(Yw T t).Nodup:=by rw [pT]; exact zqy wp.a.tree _ hg
 have eS:∀i d:Int,0<=i->0<=d->Qb (O9 T c t m) i d=if i∈Yw V t/\c=d then Bt V c m i else Qb V i d:=fun i d hi hd=>by
  have e:=zpk c0 (by omega) m1 (Yw T t) hnd s1 r1 (by omega) c1T pin i d hi hd;have e':Qb (O9 T c t m) i d=if i∈Yw T t/\c=d then Bt T c m i else Qb T i d:=e;rw [e',pT,shT i d hi];have:Bt T c m i=Bt V c m i:=by unfold Bt; rw [shT i c hi]
  rw [this]
 have fF:∀i d:Int,0<=i->0<=d->(Qb (O9 T c t m) i d).floor=(Qb V i d).floor:=fun i d hi hd=>by
  rw [eS i d hi hd]; split
  ·rename_i h; rw [<-h.2]; rfl
  ·rfl
 have fO:∀i d:Int,0<=i->0<=d->(Qb (O9 T c t m) i d).on=(Qb V i d).on:=fun i d hi hd=>by
  rw [eS i d hi hd]; split
  ·rename_i h; rw [<-h.2]; rfl
  ·rfl
 have fW:∀i d:Int,0<=i->0<=d->(Qb (O9 T c t m) i d).w=(Qb V i d).w:=fun i d hi hd=>by
  rw [eS i d hi hd]; split
  ·rename_i h; rw [<-h.2]; rfl
  ·rfl
 have fV:∀i d:Int,0<=i->0<=d->¬(i∈QU V.groups (Q7 V t).group/\c=d)->(Qb (O9 T c t m) i d).v=(Qb V i d).v:=fun i d hi hd hn=>by
  rw [eS i d hi hd]; split
  ·rename_i h
   have hz:¬i≠0:=fun hz=>by
    rcases List.mem_append.1 h.1 with h' | h'
    ·exact hn ⟨h',h.2⟩
    ·exact hz (List.mem_singleton.1 h')
   rw [<-h.2];show (if i≠0 then _ else _)=_;rw [if_neg hz]
  ·rfl
 have fP:∀i:Int,i∈QU V.groups (Q7 V t).group->(Qb (O9 T c t m) i c).v=(Qb V i c).v+Z0 m (Qb V i c).w:=fun i hi=>by
  obtain ⟨iu,iz⟩:=Yo wp.a.tree _ hg i hi;rw [eS i c (Q5.1 iu).1 c0,if_pos ⟨List.mem_append_left _ hi,rfl⟩];show (if i≠0 then _ else _)=_;rw [if_pos iz]
 have eK:∀i:Int,0<=i->Q7 (O9 T c t m) i=if t=i then MR V t m else Q7 V i:=fun i hi=>by
  have h1:Q7 (O9 T c t m) i=gi (T.tasks.set t.toNat (MR T t m)) i:=by
   show gi (zck c m (Yw T t) (setTk T t (MR T t m))).tasks i=_;rw [cp1.t]; rfl
  have h2:MR T t m=MR V t m:=by unfold MR; rw [XF hM.tk]
  rw [h1,Qy _ _ t0 (by rw [hM.tk]; omega) hi,h2];split
  ·rfl
  ·exact XF hM.tk i
 have eC:∀d:Int,0<=d->gi (O9 T c t m).cpus d=if c=d then zir T c m else gi V.cpus d:=fun d hd=>by
  have h1:gi (O9 T c t m).cpus d=gi (T.cpus.set c.toNat (zir T c m)) d:=by
   show gi ((zck c m (Yw T t) (setTk T t (MR T t m))).cpus.set c.toNat (zir T c m)) d=_;rw [cp1.cp]; rfl
  rw [h1,Qy _ _ c0 c1T hd];split
  ·rfl
  ·rename_i h;rw [hM.cp d hd,if_neg h]
 have wn:1<=Qd (Q7 V t).nice/\Qd (Q7 V t).nice<=20:=by
  have:=Yz (Q7 V t).nice;have:=hht.n;omega
 have hv0:∀w:Int,0<=Z0 m w:=fun w=>(Ku m w).1
 have hw20:∀i d:Int,Q6 V.groups i=true->0<=d->d<(V.cpus.length:Int)->1<=(Qb V i d).w/\(Qb V i d).w<=20:=fun i d hu d0 d1=>by
  have:=Gt wp hu d0 d1;exact ⟨this.w1,this.w2⟩
 have vt:=zj2 hb.r0 (show 0<=m by omega) (by have:=hb.r1; omega) wn.1 wn.2
 have vp:∀i:Int,i∈QU V.groups (Q7 V t).group->Z0 ((Y9 V c t).ran+m) (Qb V i c).w=Z0 (Y9 V c t).ran (Qb V i c).w+Z0 m (Qb V i c).w/\Z0 (Y9 V c t).ran (Qb V i c).w+Z0 m (Qb V i c).w<=Zn (Qb V i c).w:=fun i hi=>by
  have h:=hw20 i c (Yo wp.a.tree _ hg i hi).1 c0 c1;exact zj2 hb.r0 (show 0<=m by omega) (by have:=hb.r1; omega) h.1 h.2
 have par0:∀i:Int,Q6 V.groups i=true->i≠0->0<=(gi V.groups i).parent:=fun i hu hz=>(Q5.1 (ZS wp.a.tree hu hz).1).1
 have hstd:∀i:Int,i∈QU V.groups (Q7 V t).group->UK (O9 T c t m) i c:=fun i hi=>by
  obtain ⟨iu,iz⟩:=Yo wp.a.tree _ hg i hi;have i0:=(Q5.1 iu).1;unfold UK;rw [hTG.p,fF _ c (par0 i iu iz) c0,fP i hi,fW i c i0 c0];have h1:=hb.p1 i hi;have h2:=hb.p2 i hi;have h3:=vp i hi;have:=hv0 (Qb V i c).w;omega
 refine ⟨⟨sE.a,fun i a b => ?_,fun i a b n => ?_,fun k d hk d0 d1 => ?_⟩,fun d d0 d1 => ?_⟩
 ·have hrt:=rE.t i a b;rw [eK i a] at hrt ⊢;split
  ·rename_i he;rw [if_pos he] at hrt;refine .inr ⟨by show (Q7 V t).state≠0; rw [hst]; decide,hht.st,by rw [hTG.usd]; exact hg,hht.n,hht.m,hht.m0,ZV.2 ⟨hrt.1,by omega⟩,ZV.2 ⟨hrt.2.2.1,by omega⟩,hht.l1,hht.l2,fun _ => ?_⟩;show (Qb (O9 T c t m) (Q7 V t).group (Q7 V t).cpu).floor<=(Q7 V t).v+Z0 m (Qd (Q7 V t).nice)/\(Q7 V t).v+Z0 m (Qd (Q7 V t).nice) - (Qb (O9 T c t m) (Q7 V t).group (Q7 V t).cpu).floor<=Zn (Qd (Q7 V t).nice);rw [hcp,fF _ c (Q5.1 hg).1 c0];have:=hb.t1;have:=hb.t2;have:=hv0 (Qd (Q7 V t).nice);omega
  ·rcases p.t i a b with h | ⟨h1,h2⟩
   ·exact .inl h
   ·refine .inr ⟨h1,h2.st,by rw [hTG.usd]; exact h2.g,h2.n,h2.m,h2.m0,h2.s,h2.u,h2.l1,h2.l2,fun hs => ?_⟩;rw [fF _ _ (Q5.1 h2.g).1 (p.l i a b h1).1];exact h2.f hs
 ·rw [hlE,hM.l];rw [eK i a] at n ⊢;split
  ·show 0<=(Q7 V t).cpu/\(Q7 V t).cpu<_;rw [hcp]; exact ⟨c0,c1⟩
  ·rename_i he;rw [if_neg he] at n;exact p.l i a b n
 ·have hrs:=rE.s k d hk d0 d1;rw [hTG.usd] at hk;rw [hlE,hM.l] at d1;have k0:=(Q5.1 hk).1;have hp:=p.s k d hk d0 d1;refine ⟨ZV.2 ⟨hrs.1,by omega⟩,fun hz => ?_,fun hz ho => ?_⟩
  ·have h:=hp.root hz;rw [fO k d k0 d0,fW k d k0 d0,fV k d k0 d0 fun h=>(Yo wp.a.tree _ hg k h.1).2 hz];exact h
  ·rw [fO k d k0 d0] at ho
   by_cases hin:k∈QU V.groups (Q7 V t).group/\c=d
   ·obtain ⟨h1,rfl⟩:=hin;exact hstd k h1
   ·have h:=hp.st hz ho;unfold UK at h ⊢;rw [hTG.p,fF _ d (par0 k hk hz) d0,fV k d k0 d0 hin,fW k d k0 d0];exact h
 ·have hrc:=rE.c d d0 d1;rw [hlE,hM.l] at d1
  by_cases hd:c=d
  ·subst hd;have e:=(eC c c0).trans (if_pos rfl);have ecur:(gi (O9 T c t m).cpus c).cur=t:=by rw [e]; show (gi T.cpus c).cur=t; rw [eTc]; exact hcur
   have eran:(gi (O9 T c t m).cpus c).ran=(Y9 V c t).ran+m:=by rw [e]; show (gi T.cpus c).ran+m=_; rw [eTc]
   have hr0:=hb.r0;have hr1:=hb.r1;refine ⟨ZV.2 ⟨hrc.1,by omega⟩,ZV.2 ⟨hrc.2.2.1,by have:=hrc.2.2.2.1; omega⟩,by omega,by omega,fun h0=>by omega,fun _=>⟨by rw [e]; exact upT,by omega,by omega⟩,fun _ _ _ => ?_⟩;rw [ecur,eran,eK t t0,if_pos rfl];refine ⟨?_,fun x hx => ?_⟩
   ·show (Q7 V t).v+Z0 m (Qd (Q7 V t).nice) - (Qb (O9 T c t m) (Q7 V t).group c).floor<=Z0 ((Y9 V c t).ran+m) (Qd (Q7 V t).nice);rw [fF _ c (Q5.1 hg).1 c0,vt.1];have:=hb.t1;omega
   ·have hx:x∈QU (O9 T c t m).groups (Q7 V t).group:=hx;rw [Vp hTG] at hx;obtain ⟨xu,xz⟩:=Yo wp.a.tree _ hg x hx;refine ⟨hstd x hx,?_⟩;rw [hTG.p,fF _ c (par0 x xu xz) c0,fP x hx,fW x c (Q5.1 xu).1 c0,(vp x hx).1];have:=hb.p1 x hx;omega
  ·have e:=(eC d d0).trans (if_neg hd);have h:=p.c d d0 d1;refine ⟨by rw [e]; exact h.b,by rw [e]; exact h.i,by rw [e]; exact h.c1,by rw [e]; exact h.c2,by rw [e]; exact h.no,by rw [e]; exact h.yes,?_⟩;rw [e];intro h0 h1 h2;rw [eK _ h0] at h1 h2 ⊢
   by_cases ht:t=(gi V.cpus d).cur
   ·rw [if_pos ht] at h2;have h2:(Q7 V t).cpu=d:=h2;exact absurd (hcp.symm.trans h2) hd
   ·rw [if_neg ht] at h1 h2 ⊢;obtain ⟨q1,q2⟩:=h.q h0 h1 h2;have hgu:=(Te p h0 h.c2 (by rw [h1]; decide)).g;refine ⟨by rw [fF _ d (Q5.1 hgu).1 d0]; exact q1,fun x hx => ?_⟩;rw [Vp hTG] at hx;obtain ⟨xu,xz⟩:=Yo wp.a.tree _ hgu x hx;have x0:=(Q5.1 xu).1;have:=q2 x hx;unfold UK at this ⊢;rw [hTG.p,fF _ d (par0 x xu xz) d0,fV x d x0 d0 fun h=>hd h.2,fW x d x0 d0];exact this
theorem zra (W:Q8) (c n g:Int):Vy W (Nf W c n g):=
 ((AK W g c (Bt W c n g)).trans (zh3 (W:=MQ W c n g) (g:=g) (x:=EK W c n g) rfl rfl rfl rfl rfl)).trans (zh2 _ _ _)
theorem zjs (c n:Int):∀(l:List Int) (W:Q8),Vy W (zck c n l W)
 | [],W=>Vy.refl _
 | g::l,W=>(zra W c n g).trans (zjs c n l _)
theorem zjt (W:Q8) (c g:Int):Vy W (BJ W c g).1:=by
 unfold BJ;split
 ·exact Vy.refl _
 ·exact zh2 _ _ _
theorem zju (c:Int):∀(l:List Int) (W:Q8),Vy W (zbv c l W).1
 | [],W=>Vy.refl _
 | g::l,W=>by
  simp only [zbv];split
  ·exact (zjt W c g).trans (zju c l _)
  ·exact zjt W c g
theorem zok (W:Q8) (c t:Int):Vy W (YK W c t):=zd3 (by unfold Y9; split <;> rfl)
theorem zki (W:Q8) (c t:Int):Xo (Y9 W c t)=Xo (gi W.cpus c):=by unfold Y9; split <;> rfl
theorem zpx {f:Nat} {c left:Int} {W0 V:Q8} (h:C3 f c W0 V left) (iv:XK V):XK (Qg (endW (setCp V c (K3 V c left)) c)):=by
 have p:=X3 iv.wp;have c0:=h.c0;have c1:=h.c1;have hK:=HT h.f2;have hh0:(0:Int)<=Qo:=by decide
 have hst:UJ=173430457200:=rfl;obtain ⟨sE,s1,i3,i4⟩:=zmz h;have hl:(setCp V c (K3 V c left)).cpus.length=V.cpus.length:=List.length_set
 have hP:Vu (setCp V c (K3 V c left)):=by
  refine ⟨⟨s1.a,fun t t0 t1=>(p.t t t0 t1).imp id fun h=>⟨h.1,h.2.gr rfl⟩,fun t t0 t1 n => ?_,fun k d hk d0 d1 => ?_⟩,fun d d0 d1 => ?_⟩
  ·rw [hl]; exact p.l t t0 t1 n
  ·rw [hl] at d1; exact (p.s k d hk d0 d1).cong rfl fun _=>rfl
  ·rw [hl] at d1;have hd:=p.c d d0 d1;have e:gi (setCp V c (K3 V c left)).cpus d=if c=d then K3 V c left else gi V.cpus d:=Qy _ _ c0 c1 d0
   by_cases he:c=d
   ·subst he;have e:=e.trans (if_pos rfl);exact ⟨by rw [e]; exact hd.b,by rw [e]; exact ZV.2 ⟨i3,by show (gi V.cpus c).idle+left<=_; omega⟩,by rw [e]; exact hd.c1,by rw [e]; exact hd.c2,by rw [e]; exact hd.no,by rw [e]; exact hd.yes,by rw [e]; exact hd.q⟩
   ·have e:=e.trans (if_neg he);exact ⟨by rw [e]; exact hd.b,by rw [e]; exact hd.i,by rw [e]; exact hd.c1,by rw [e]; exact hd.c2,by rw [e]; exact hd.no,by rw [e]; exact hd.yes,by rw [e]; exact hd.q⟩
 exact Zi sE (by omega) (by omega) (hP.endW c0 (by rw [hl]; exact c1)) (((zd3 (W:=V) (c:=c) (x:=K3 V c left) rfl).loc rfl (U0 iv.wp)).endW _)
theorem zq6 {f:Nat} {c left:Int} {W0 V:Q8} (h:C3 (f+1) c W0 V left) (iv:XK V) (hl:0<left) (hp:¬Qm V c<0):XK (HR V c left).1:=by
 have hR:=zhx h hl hp;have c0:=h.c0;have c1:=h.c1;have hK:=HT h.f2;have hSu:=zd0 h.f2;have hh0:(0:Int)<=Qo:=by decide
 have hst:UJ=173430457200:=rfl;have hlg:Qk=34686091440:=rfl;have t0:=hR.line.t0;have t1:=hR.line.t1;obtain ⟨q1,q2,q3,q4,q5,q6⟩:=HY h.sw h.rb c0 c1 h.up t0 t1;have eC:(YE V c).1.cpus=(YK V c (Qm V c)).cpus:=hR.tk.o.c;have lT:(YE V c).1.cpus.length=V.cpus.length:=by rw [eC]; exact q6
 have cT:c<((YE V c).1.cpus.length:Int):=by rw [lT]; exact c1
 have rT:RB (Er (f+1)) (YE V c).1:=hR.r1.sum hR.tk.su hR.tk.o.g (by rw [eC]);have eT:(YE V c).1.tasks=V.tasks:=hR.tk.o.t;have eG:QR V.groups (YE V c).1.groups:=hR.tk.o.g;have eN:(YE V c).1.now=V.now:=hR.tk.o.n;have eSh:∀i:Int,0<=i->(gi (YE V c).1.groups i).shelves=(gi V.groups i).shelves:=hR.tk.o.s;have sT:Vy V (YE V c).1:=(zok V c (Qm V c)).trans (zju c _ _);have lcT:BK (YE V c).1:=sT.loc eT (U0 iv.wp)
 have eCp:∀d:Int,0<=d->gi (YE V c).1.cpus d=if c=d then Y9 V c (Qm V c) else gi V.cpus d:=fun d hd=>by
  rw [eC]; exact Qy _ _ c0 c1 hd
 have hRW:HR V c left=if (YE V c).2=true then (Qg (O9 (YE V c).1 c (Qm V c) (U1 V c left)),left - U1 V c left) else (Qg (endW (YE V c).1 c),left):=rfl;rw [hRW]
 by_cases gt:(YE V c).2=true
 ·rw [if_pos gt];obtain ⟨m1,m2⟩:=hR.m gt;obtain ⟨sC,rC⟩:=hR.ch gt;have hl1:=h.l1;have hb:=zpf iv c0 c1 hR.line hp;have es:gi (YK V c (Qm V c)).cpus c=Y9 V c (Qm V c):=(Qy _ _ c0 c1 c0).trans (if_pos rfl);rw [es] at hb q5;have hP:Vu (O9 (YE V c).1 c (Qm V c) (U1 V c left)):=zr5 iv ⟨eT,eG,eSh,eCp,lT⟩ hR.tk.sw rT ⟨by omega,by omega⟩ c0 c1 h.up t0 t1 hR.line.st hR.line.cpu q5 hb m1 (by omega);refine Zi sC (by omega) (by omega) hP ?_;have uT:Q6 (YE V c).1.groups (Q7 (YE V c).1 (Qm V c)).group=true:=by rw [eG.usd,XF eT]; exact hR.us
  have upT:(gi (YE V c).1.cpus c).up=true:=by rw [eC]; exact q3
  have ranT:(gi (YE V c).1.cpus c).ran<50:=by rw [eC]; exact hR.ran
  have cp1:=(zcl (t:=Qm V c) (n:=U1 V c left) hR.tk.sw rT (by omega) c0 cT upT ranT t0 t1 uT (by omega) (by omega)).2.2.2.2.2.2.2.2;have l1:BK (setTk (YE V c).1 (Qm V c) (MR (YE V c).1 (Qm V c) (U1 V c left))):=lcT.setTk hR.tk.sw.a t0 t1 fun n=>lcT _ t0 t1 n
  have l2:=(zjs c (U1 V c left) (Yw (YE V c).1 (Qm V c)) (setTk (YE V c).1 (Qm V c) (MR (YE V c).1 (Qm V c) (U1 V c left)))).loc cp1.t l1;refine Vy.loc (zd3 ?_) rfl l2;show (gi (YE V c).1.cpus c).up=(gi (zck c (U1 V c left) (Yw (YE V c).1 (Qm V c)) (setTk (YE V c).1 (Qm V c) (MR (YE V c).1 (Qm V c) (U1 V c left)))).cpus c).up;rw [cp1.cp]; rfl
 ·rw [if_neg gt]
  have hE:endW (YE V c).1 c=endW { (YE V c).1 with cpus:=V.cpus } c:=by
   have e1:=(eCp c c0).trans (if_pos rfl);show ({ (YE V c).1 with cpus:=(YE V c).1.cpus.set c.toNat (Xo (gi (YE V c).1.cpus c)) }:Q8)={ (YE V c).1 with cpus:=V.cpus.set c.toNat (Xo (gi V.cpus c)) };rw [e1,zki,eC];show ({ (YE V c).1 with cpus:=(V.cpus.set c.toNat (Y9 V c (Qm V c))).set c.toNat (Xo (gi V.cpus c)) }:Q8)=_;rw [List.set_set]
  have ha:WA ({ (YE V c).1 with cpus:=V.cpus }:Q8):=hR.tk.sw.a.cp lT.symm iv.wp.a.ups;have p2:Vu ({ (YE V c).1 with cpus:=V.cpus }:Q8):=(X3 iv.wp).onlyB ⟨eN,rfl,eT,eG,eSh⟩ ha;have hloc:=lcT.endW c;have sE:=hR.tk.sw.endW c0 cT;rw [hE] at hloc sE ⊢;exact Zi sE (by omega) (by omega) (p2.endW c0 c1) hloc
theorem zfw {c:Int} {W0:Q8}:∀(f:Nat) {V:Q8} {left:Int},C3 f c W0 V left->XK V->XK (AA c f V left)
 | 0,V,left,h,_=>by
  have:=h.f1;have:=h.l0;omega
 | f+1,V,left,h,iv=>by
  have hK:=HT h.f2;have hh0:(0:Int)<=Qo:=by decide
  have hst:UJ=173430457200:=rfl
  by_cases hl:left<=0
  ·rw [zfv hl];exact Zi h.sw (by omega) (by omega) (X3 iv.wp) (U0 iv.wp)
  ·by_cases hp:Qm V c<0
   ·rw [zbh hl hp];exact zpx h iv
   ·rw [zbi hl hp];have hR:=zhx h (by omega) hp;exact zfw f hR.nx (zq6 h iv (by omega) hp)
theorem zp7 {W:Q8} {c n:Int} (iv:XK W) (hb:Ep W c n=0):XK (zoc W c n):=zfw 400 (zoe (Qi.2 iv.wp) hb).2.2.2.2 iv
theorem zks {W:Q8} (iv:XK W) {c:Int} (c0:0<=c) (c1:c<(W.cpus.length:Int)):XK (endW W c):=by
 have wp:=iv.wp;have hl:(endW W c).cpus.length=W.cpus.length:=List.length_set;have e:∀d:Int,0<=d->gi (endW W c).cpus d=if c=d then Xo (gi W.cpus c) else gi W.cpus d:=fun d d0=>Qy _ _ c0 c1 d0
 have sta:=KP W c
 have ha:WA (endW W c):=wp.a.cp (cs:=W.cpus.set c.toNat (Xo (gi W.cpus c))) List.length_set (by
  rw [show J2 (W.cpus.set c.toNat (Xo (gi W.cpus c)))=J2 W.cpus from sta.ups];exact wp.a.ups)
 refine ⟨⟨ha,fun t t0 t1 => ?_,fun k d k0 k1 d0 d1 => ?_,fun d d0 d1 => ?_⟩,fun k d hu d0 d1 hb => ?_⟩
 ·rcases wp.t t t0 t1 with hz | ⟨n,hx⟩
  ·exact .inl hz
  ·refine .inr ⟨n,hx.st,hx.g,hx.n,hx.m,hx.m0,hx.v,hx.s,hx.u,hx.l1,hx.l2,?_,hx.f⟩;rw [sta.wh]; exact hx.c
 ·have hs:=wp.s k d k0 k1 d0 d1;exact ⟨hs.f,hs.v,hs.s,hs.w1,hs.w2,hs.root,hs.on,hs.st⟩
 ·rw [hl] at d1;have h:=wp.c d d0 d1
  by_cases hd:c=d
  ·subst hd;have e1:=(e c c0).trans (if_pos rfl);refine ⟨by rw [e1]; exact h.b,by rw [e1]; exact h.i,by rw [e1]; show (-1:Int)<=-1; decide,by rw [e1]; show (-1:Int)<_; have:=wp.a.t; show (-1:Int)<(W.tasks.length:Int); omega,fun _=>by rw [e1]; rfl,fun h0 => ?_⟩;rw [e1] at h0;have h0:(0:Int)<=-1:=h0;omega
  ·have e1:=(e d d0).trans (if_neg hd);refine ⟨by rw [e1]; exact h.b,by rw [e1]; exact h.i,by rw [e1]; exact h.c1,by rw [e1]; exact h.c2,by rw [e1]; exact h.no,fun h0 => ?_⟩;rw [e1] at h0 ⊢;obtain ⟨y1,y2,y3,y4,y5,y6⟩:=h.yes h0;refine ⟨y1,y2,y3,y4,y5,?_⟩;unfold OM at y6 ⊢;rw [e1];exact y6
 ·rw [hl] at d1;exact iv.fl k d hu d0 d1 hb
def HF (W:Q8) (t g:Int):Int:=if Z4 (Qq W g (Q7 W t).mask) (Q7 W t).cpu=true then (Q7 W t).cpu else L7 (Qq W g (Q7 W t).mask)
noncomputable def q8 (W:Q8) (t g:Int):Int:=if ZR W t=false\/Q6 W.groups g=false then 2 else if QG W=false then 10 else 0
def zdk (W:Q8) (t g:Int):Q8:=if (Q7 W t).group=g then W else Qg (UH (QQ W t) t g (HF W t g))
theorem zjc {W:Q8} (wp:Xq W) {t g:Int} (t0:0<=t) (t1:t<12) (n:(Q7 W t).state≠0):0<=HF W t g/\HF W t g<(W.cpus.length:Int)/\Z4 (Qq W g (Q7 W t).mask) (HF W t g)=true:=by
 unfold HF;split
 ·rename_i h;have:=(X3 wp).l t t0 t1 n;exact ⟨this.1,this.2,h⟩
 ·have hw:=Kw wp.a g (Q7 W t).mask;have hf:=KU wp.a g (Q7 W t).mask;exact ⟨hf.1,hf.2,HD hw.1 hw.2⟩
theorem zp3 {W:Q8} {t g:Int} (iv:XK W) (hb:q8 W t g=0):XK (zdk W t g):=by
 have wp:=iv.wp;unfold q8 at hb
 split at hb
 ·cases hb
 ·rename_i h1
  split at hb
  ·cases hb
  ·rename_i h3;have hth:ZR W t=true:=by cases h:ZR W t with | true=>rfl | false=>exact absurd (.inl h) h1
   have hu:Q6 W.groups g=true:=by cases h:Q6 W.groups g with | true=>rfl | false=>exact absurd (.inr h) h1
   have hr:QG W=true:=by simpa using h3
   obtain ⟨t0,t1,n⟩:=Yy hth;have htl:=wp.a.t;unfold zdk;split
   ·exact iv
   ·obtain ⟨m0,m1,m2⟩:=zjc wp (g:=g) t0 (by omega) n;have sw:=ON wp (Qi.1 hr);obtain ⟨c0,c1⟩:=(X3 wp).l t t0 (by omega) n
    have key:Vu (QQ W t)/\Vy W (QQ W t)/\SW Qo (QQ W t)/\Q7 (QQ W t) t=Q7 W t/\(QQ W t).tasks=W.tasks/\(QQ W t).groups=W.groups:=by
     unfold QQ;split
     ·exact ⟨(X3 wp).endW c0 c1,KP _ _,sw.endW c0 c1,rfl,rfl,rfl⟩
     ·exact ⟨X3 wp,Vy.refl _,sw,rfl,rfl,rfl⟩
    obtain ⟨k1,k2,k3,k4,k5,k6⟩:=key;have hlo:=k2.loc k5 (U0 wp);have hu2:Q6 (QQ W t).groups g=true:=by rw [k6]; exact hu
    have hm1:HF W t g<((QQ W t).cpus.length:Int):=by rw [k2.len]; exact m1
    have sf:=(BF (PL k3) (Int.le_refl _) (t:=t) t0 (by omega) hu2 m0 hm1).2;refine Zi sf.w (by simp only [Qk]; decide) (by simp only [Qk,UJ]; decide) (Ax k1 t0 (by omega) (by rw [k4]; exact n) hu2 m0 hm1) fun i i0 i1 hn => ?_
    rw [(BH (QQ W t) t g (HF W t g)).wh];rw [zhu k1.a.t t0 (by omega) i0] at hn ⊢
    split at hn
    ·rename_i he;rw [if_pos he];show Z4 (Qq (QQ W t) g (Q7 (QQ W t) t).mask) (HF W t g)=true;rw [k4,k2.wh]; exact m2
    ·rename_i he;rw [if_neg he];exact hlo i i0 i1 hn
structure zby (W:Q8) (g:Int):Prop where
 g1:1<=g
 us:Q6 W.groups g=true
 nk:∀h:Int,1<=h->h<8->(gi W.groups h).used=true->(gi W.groups h).parent≠g
 nt:∀t:Int,0<=t->t<12->(Q7 W t).state≠0->(Q7 W t).group≠g
def Xr (W:Q8) (g:Int):Q8:=setGr W g AZ
section
variable {W:Q8} {g:Int}
theorem zby.g8 (h:zby W g) (ha:WA W):g<8:=by
 have:=ha.gl;have:=(Q5.1 h.us).2.1;omega
theorem Lj (ha:WA W) (h:zby W g) {i:Int} (hi:0<=i):gi (Xr W g).groups i=if g=i then AZ else gi W.groups i:=Yf (by have:=h.g1; omega) (Q5.1 h.us).2.1 hi
theorem LX (ha:WA W) (h:zby W g) {k:Int} (hu:Q6 W.groups k=true) (hk:k≠g):gi (Xr W g).groups k=gi W.groups k:=by
 rw [Lj ha h (Q5.1 hu).1,if_neg fun e=>hk e.symm]
theorem zcp (ha:WA W):(Xr W g).groups.length=8:=by
 have:=ha.gl;simp [Xr,setGr]; omega
theorem Nh (ha:WA W) (h:zby W g) {k:Int} (hu:Q6 W.groups k=true) (hz:k≠0):(gi W.groups k).parent≠g:=by
 obtain ⟨a,b,c⟩:=Q5.1 hu;have:=ha.gl;exact h.nk k (by omega) (by omega) c
theorem Bu (ha:WA W) (h:zby W g) {k:Int}:Q6 (Xr W g).groups k=true↔Q6 W.groups k=true/\k≠g:=by
 have hgl:=ha.gl;rw [Q5,Q5,zcp ha,hgl];constructor
 ·rintro ⟨x,y,z⟩;rw [Lj ha h x] at z
  by_cases e:g=k
  ·rw [if_pos e] at z; cases z
  ·rw [if_neg e] at z;exact ⟨⟨x,y,z⟩,fun e2=>e e2.symm⟩
 ·rintro ⟨⟨x,y,z⟩,e⟩;refine ⟨x,y,?_⟩;rw [Lj ha h x,if_neg fun e2=>e e2.symm];exact z
theorem zmm (ha:WA W) (h:zby W g):∀(f:Nat) (k:Int),Q6 W.groups k=true->k≠g->dep f (Xr W g).groups k=dep f W.groups k
 | 0,_,_,_=>rfl
 | f+1,k,hu,hk=>by
  by_cases hz:k=0
  ·subst hz; rw [Y6,Y6]
  ·have ih:=zmm ha h f _ (ZS ha.tree hu hz).1 (Nh ha h hu hz);simp only [dep];rw [LX ha h hu hk,ih]
theorem zcq (ha:WA W) (h:zby W g):∀(f:Nat) (k:Int),Q6 W.groups k=true->k≠g->JQ f (Xr W g).groups k=JQ f W.groups k
 | 0,_,_,_=>rfl
 | f+1,k,hu,hk=>by
  by_cases hz:k=0
  ·subst hz; rw [Z8,Z8]
  ·have ih:=zcq ha h f _ (ZS ha.tree hu hz).1 (Nh ha h hu hz);simp only [JQ];rw [LX ha h hu hk,ih]
theorem zgz (ha:WA W) (h:zby W g):∀k:Int,Q6 W.groups k=true->k≠g->∀x∈QU W.groups k,x≠g:=
 OI ha.tree (fun _ x hx=>by rw [show QU W.groups 0=[] from Z8 _ _] at hx; cases hx) fun k hu hz ih hk x hx=>by
  rw [Ye ha.tree hu hz] at hx;rcases List.mem_cons.1 hx with e | e
  ·rw [e]; exact hk
  ·exact ih (Nh ha h hu hz) x e
theorem zpm (ha:WA W) (h:zby W g):ZQ (Xr W g).groups:=by
 have ht:=ha.tree;have r:=LX ha h ha.root (by have:=h.g1; omega)
 have sp:∀{k:Int},1<=k->k<8->(gi (Xr W g).groups k).used=true->Q6 W.groups k=true/\k≠g/\gi (Xr W g).groups k=gi W.groups k:=fun {k} b d hh=>by
  have:=(Bu ha h).1 (Q5.2 ⟨by omega,by rw [zcp ha]; omega,hh⟩);exact ⟨this.1,this.2,LX ha h this.1 this.2⟩
 refine ⟨zcp ha,by rw [r]; exact ht.ru,by rw [r]; exact ht.rp,by rw [r]; exact ht.rn,fun k b d hh => ?_,fun k b d hh => ?_,fun k b d hh => ?_,fun x k b d e hx hk => ?_⟩
 ·obtain ⟨_,_,e⟩:=sp b d hh;rw [e] at hh ⊢; exact ht.nm k b d hh
 ·obtain ⟨_,_,e⟩:=sp b d hh;rw [e] at hh ⊢;exact (Bu ha h).2 ⟨ht.par k b d hh,h.nk k b d hh⟩
 ·obtain ⟨u,n,_⟩:=sp b d hh;rw [zmm ha h 3 k u n]; exact ht.dp k b d (Q5.1 u).2.2
 ·rintro ⟨q1,q2⟩;obtain ⟨u1,_,e1⟩:=sp (by omega) e hx;obtain ⟨u2,_,e2⟩:=sp b (by omega) hk;rw [e1,e2] at q1 q2;exact ht.uniq x k b d e (Q5.1 u1).2.2 (Q5.1 u2).2.2 ⟨q1,q2⟩
theorem M1 (ha:WA W) (h:zby W g) {k c:Int} (hu:Q6 W.groups k=true) (hk:k≠g):Qb (Xr W g) k c=Qb W k c:=by
 unfold Qb;rw [LX ha h hu hk]
theorem zpl (wp:Xq W) (h:zby W g) {c:Int}:QO W g c=false:=by
 have hl:=wp.a.gl;have ht:=wp.a.t
 have e1:∀j,j<W.tasks.length->Tw W g c j=false:=fun j hj=>by
  unfold Tw
  cases hs:((gi W.tasks (j:Int)).state==1) with
  | false=>rfl
  | true=>
   have hs:(gi W.tasks (j:Int)).state=1:=by simpa using hs
   have:(gi W.tasks (j:Int)).group≠g:=h.nt (j:Int) (by omega) (by omega) (by rw [show (Q7 W (j:Int)).state=1 from hs]; decide);rw [show ((gi W.tasks (j:Int)).group==g)=false by simpa using this];rfl
 have e2:∀j,j<W.groups.length->XU W g c j=false:=fun j hj=>by
  unfold XU
  by_cases hj1:1<=j
  ·cases hs:(gi W.groups (j:Int)).used with
   | false=>simp
   | true=>
    have:=h.nk (j:Int) (by omega) (by omega) hs;rw [show ((gi W.groups (j:Int)).parent==g)=false by simpa using this];simp
  ·rw [decide_eq_false hj1]; rfl
 unfold QO;rw [Po e1,Po e2];rfl
theorem zr7 (wp:Xq W) (h:zby W g) {c:Int} (c0:0<=c) (c1:c<(W.cpus.length:Int)):(Qb W g c).on=false:=by
 have g1:=h.g1;have:=(wp.s g c (by omega) (h.g8 wp.a) c0 (by rw [wp.a.sl h.us]; exact c1)).on (by omega);rw [this,zpl wp h]; rfl
theorem ziv (wp:Xq W) (h:zby W g) {k c:Int} (c0:0<=c) (c1:c<(W.cpus.length:Int)) (j:Nat):XU (Xr W g) k c j=XU W k c j:=by
 have ha:=wp.a;unfold XU
 by_cases e:g=(j:Int)
 ·rw [Lj ha h (by omega),if_pos e,<-e,zr7 wp h c0 c1];simp [AZ]
 ·rw [Lj ha h (by omega),if_neg e]
  have:Qb (Xr W g) (j:Int) c=Qb W (j:Int) c:=by
   unfold Qb;rw [Lj ha h (by omega),if_neg e]
  rw [this]
theorem zr6 (wp:Xq W) (h:zby W g) {k c:Int} (c0:0<=c) (c1:c<(W.cpus.length:Int)):QO (Xr W g) k c=QO W k c:=by
 unfold QO;rw [show VA (Tw (Xr W g) k c) (Xr W g).tasks.length=VA (Tw W k c) W.tasks.length from rfl,zcp wp.a,wp.a.gl];rw [Pn fun j _=>ziv wp h c0 c1 j]
theorem zr8 (ha:WA W) (h:zby W g) {k:Int} (hu:Q6 W.groups k=true) (hk:k≠g) (u:Int):UU (Xr W g).groups k u=UU W.groups k u:=by
 have e:QU (Xr W g).groups k=QU W.groups k:=zcq ha h 3 k hu hk;have g1:=h.g1;unfold UU;rw [e];refine DJ _ _ fun s x hx => ?_
 have hxu:Q6 W.groups x=true/\x≠g:=by
  rcases List.mem_append.1 hx with hx | hx
  ·exact ⟨(Yo ha.tree k hu x hx).1,zgz ha h k hu hk x hx⟩
  ·rw [List.mem_singleton.1 hx]; exact ⟨ha.root,by omega⟩
 rw [LX ha h hxu.1 hxu.2]
theorem ztm (ha:WA W) (h:zby W g) {k:Int} (hu:Q6 W.groups k=true) (hk:k≠g) (m:Int):Qq (Xr W g) k m=Qq W k m:=zo2 (W:=W) (W':=Xr W g) rfl (zr8 ha h hu hk) m
theorem zp0 (iv:XK W) (h:zby W g):XK (Xr W g):=by
 have wp:=iv.wp;have ha:=wp.a;have g1:=h.g1;have g8:=h.g8 ha;have hgl:=ha.gl;have hpu:∀{k:Int},Q6 W.groups k=true->k≠0->Q6 W.groups (gi W.groups k).parent=true:=fun hu hz=>(ZS ha.tree hu hz).1
 have hA:WA (Xr W g):=by
  refine ⟨ha.n1,ha.n2,ha.c1,ha.c2,ha.t,zpm ha h,ha.ups,fun k k0 k1 => ?_⟩;unfold P5;rw [Lj ha h k0];split
  ·exact ⟨fun _=>⟨rfl,rfl,rfl,rfl,rfl,rfl,rfl,rfl,show T3 ⟨0,0,0,[],[]⟩=true by decide⟩,fun hh=>by cases hh⟩
  ·have:=ha.grp k k0 k1;exact ⟨this.1,fun hu=>by have:=this.2 hu; exact ⟨this.w1,this.w2,this.m,this.m0,this.s,this.len,this.root,this.none,this.band⟩⟩
 refine ⟨⟨hA,fun t t0 t1 => ?_,fun k c k0 k1 c0 c1 => ?_,fun c c0 c1 => ?_⟩,fun k c hu c0 c1 hb => ?_⟩
 ·rcases wp.t t t0 t1 with hz | ⟨n,hx⟩
  ·exact .inl hz
  ·have hn:=h.nt t t0 t1 n;refine .inr ⟨n,hx.st,(Bu ha h).2 ⟨hx.g,hn⟩,hx.n,hx.m,hx.m0,hx.v,hx.s,hx.u,hx.l1,hx.l2,?_,fun hs => ?_⟩
   ·rw [show (Q7 (Xr W g) t)=Q7 W t from rfl,ztm ha h hx.g hn]; exact hx.c
   ·rw [show (Q7 (Xr W g) t)=Q7 W t from rfl,M1 ha h hx.g hn]; exact hx.f hs
 ·by_cases e:g=k
  ·subst e;rw [Lj ha h k0,if_pos rfl] at c1;have c1:c<(0:Int):=c1;omega
  ·have hg:gi (Xr W g).groups k=gi W.groups k:=by rw [Lj ha h k0,if_neg e]
   have e2:k≠g:=fun h=>e h.symm
   rw [hg] at c1
   have hu:Q6 W.groups k=true:=by
    cases hh:(gi W.groups k).used with
    | true=>exact Q5.2 ⟨k0,by omega,hh⟩
    | false=>
     have:=((ha.grp k k0 k1).1 hh).l;omega
   have cl:c<(W.cpus.length:Int):=by rw [<-ha.sl hu]; exact c1
   have hs:=wp.s k c k0 k1 c0 c1;have es:=M1 ha h (c:=c) hu e2;refine ⟨by rw [es]; exact hs.f,by rw [es]; exact hs.v,by rw [es]; exact hs.s,by rw [es]; exact hs.w1,by rw [es]; exact hs.w2,fun hz=>by rw [es]; exact hs.root hz,fun hz => ?_,fun hz ho => ?_⟩
   ·rw [es,zr6 wp h c0 cl,show US (Xr W g) k c=US W k c by unfold US; rw [hg]];exact hs.on hz
   ·rw [es] at ho;rw [es,hg,M1 ha h (hpu hu hz) (Nh ha h hu hz)];exact hs.st hz ho
 ·have hc:=wp.c c c0 c1;refine ⟨hc.b,hc.i,hc.c1,hc.c2,hc.no,fun h0 => ?_⟩;have h0:0<=(gi W.cpus c).cur:=h0;obtain ⟨y1,y2,y3,y4,y5,y6⟩:=hc.yes h0;have hl:=ha.t;have hc2:=hc.c2
  have hgu:Q6 W.groups (Q7 W (gi W.cpus c).cur).group=true/\(Q7 W (gi W.cpus c).cur).group≠g:=by
   rcases wp.t _ h0 (by omega) with hz | ⟨n,hx⟩
   ·unfold Zp at y5;rw [hz.1] at y5;simp at y5
   ·exact ⟨hx.g,h.nt _ h0 (by omega) n⟩
  obtain ⟨hgu,hgn⟩:=hgu;have hpt:QU (Xr W g).groups (Q7 W (gi W.cpus c).cur).group=QU W.groups (Q7 W (gi W.cpus c).cur).group:=zcq ha h 3 _ hgu hgn;refine ⟨y1,y2,y3,y4,?_,?_⟩
  ·unfold Zp U7 at y5 ⊢;rw [show (gi (Xr W g).cpus c).cur=(gi W.cpus c).cur from rfl,show Q7 (Xr W g) (gi W.cpus c).cur=Q7 W (gi W.cpus c).cur from rfl,hpt];rw [Bool.and_eq_true,List.all_eq_true] at y5 ⊢;exact ⟨y5.1,fun x hx=>by rw [M1 ha h (Yo ha.tree _ hgu x hx).1 (zgz ha h _ hgu hgn x hx)]; exact y5.2 x hx⟩
  ·unfold OM VF at y6 ⊢;rw [show (gi (Xr W g).cpus c).cur=(gi W.cpus c).cur from rfl,show (gi (Xr W g).cpus c).ran=(gi W.cpus c).ran from rfl,show Q7 (Xr W g) (gi W.cpus c).cur=Q7 W (gi W.cpus c).cur from rfl,hpt,M1 ha h hgu hgn];rw [Bool.and_eq_true,List.all_eq_true] at y6 ⊢;refine ⟨y6.1,fun x hx => ?_⟩;obtain ⟨xu,xz⟩:=Yo ha.tree _ hgu x hx;have xg:=zgz ha h _ hgu hgn x hx;rw [M1 ha h xu xg,LX ha h xu xg,M1 ha h (hpu xu xz) (Nh ha h xu xz)];exact y6.2 x hx
 ·have cl:c<(W.cpus.length:Int):=c1;obtain ⟨hk,hkg⟩:=(Bu ha h).1 hu
  have hmem:∀j,j<20->Zd (Xr W g) k c j=Zd W k c j:=fun j hj=>by
   by_cases hj12:j<12
   ·rw [Vn hj12,Vn hj12]; rfl
   ·rw [show j=12+(j - 12) by omega,Jw,Jw,ziv wp h c0 cl (j - 12)]
  have hv:∀j,j<20->Zd (Xr W g) k c j=true->Ze (Xr W g) c j=Ze W c j:=fun j hj hm=>by
   unfold Ze;split
   ·rfl
   ·rename_i hj12;have hm2:=hm;rw [show j=12+(j - 12) by omega,Jw] at hm2;unfold XU at hm2;simp only [Bool.and_eq_true] at hm2
    have hne:((j - 12:Nat):Int)≠g:=fun e=>by
     have hu2:=hm2.1.2.1;rw [Lj ha h (by omega),if_pos e.symm] at hu2;cases hu2
    rw [hmem j hj,show j=12+(j - 12) by omega,Jw] at hm;unfold XU at hm;simp only [Bool.and_eq_true] at hm;rw [M1 ha h (Q5.2 ⟨by omega,by omega,hm.1.2.1⟩) hne]
  have e:QI (Zd (Xr W g) k c) (Ze (Xr W g) c) 20=QI (Zd W k c) (Ze W c) 20:=OZ hmem hv;have hfl:=iv.fl k c hk c0 cl (by unfold ZG at hb ⊢; rwa [e] at hb);rw [M1 ha h hk hkg];refine Int.le_trans (Int.le_of_eq ?_) hfl;unfold ZG at hb;have hb:=of_decide_eq_true hb;rw [e] at hb;unfold Z6;rw [e,if_neg (by omega),if_neg (by omega)];rcases Za (Zd W k c) (Ze W c) 20 with ⟨q,_⟩ | ⟨_,q2,q3,_⟩
  ·omega
  ·have hlt:(QI (Zd W k c) (Ze W c) 20).toNat<20:=by omega
   exact hv _ hlt (by rw [hmem _ hlt]; exact q3)
def zl2 (W:Q8) (g:Int):Prop:=(∃h:Int,1<=h/\h<8/\(gi W.groups h).used=true/\(gi W.groups h).parent=g)\/∃t:Int,0<=t/\t<12/\(Q7 W t).state≠0/\(Q7 W t).group=g
noncomputable def Dy (W:Q8) (g:Int):Int:=if g=0 then 1 else if Q6 W.groups g=false then 2 else if Jm (zl2 W g)=true then 4 else if QG W=false then 10 else 0
theorem zr9 {W:Q8} {g:Int} (hb:Dy W g=0):zby W g/\QG W=true:=by
 unfold Dy at hb
 split at hb
 ·cases hb
 rename_i h1
 split at hb
 ·cases hb
 rename_i h2
 split at hb
 ·cases hb
 rename_i h3
 split at hb
 ·cases hb
 rename_i h4;have h3:¬zl2 W g:=fun h=>h3 (Qi.2 h)
 have hu:Q6 W.groups g=true:=by simpa using h2
 have:=(Q5.1 hu).1;exact ⟨⟨by omega,hu,fun h a b c d=>h3 (.inl ⟨h,a,b,c,d⟩),fun t a b c d=>h3 (.inr ⟨t,a,b,c,d⟩)⟩,by simpa using h4⟩
end
def AW (W:Q8) (c:Int):Int:=if Y5 W c=false then 1 else if (gi W.cpus c).cur<0 then 6 else 0
theorem zs6 {W:Q8} {c:Int} (h:AW W c=0):Y5 W c=true/\0<=(gi W.cpus c).cur:=by
 unfold AW at h
 split at h
 ·cases h
 ·rename_i h1
  split at h
  ·cases h
  ·exact ⟨by simpa using h1,by omega⟩
section
variable {W:Q8} {m:MW} {w:World} {bs:List Nat}
theorem Hw {c:Int} (h:Xa [] w W m) (hl:X7 W) :
  Cz UC #[.agg (Qa W m).toArray,.int .i64 c] w fun e w'=>∃v,e = .returned v/\QD (Xn W (AW W c) (endW W c)) w v w':=by
 refine Hc W.now m.cO W.cpus.length m.cC m.tO W.tasks.length m.tC m.gO W.groups.length m.gC c (R:=fun v w'=>QD (Xn W (AW W c) (endW W c)) w v w') ?_;intro y hy y1 hy1;have hm0:=YW;have hlc:=hl.c;refine ⟨_,X0 h hl.c hl.t hl.g hl.f,fun g wr hx=>QD.bad (by simpa using g) hx,fun g wr hx2 hs2 => ?_⟩;have hW:Qz W=true:=by simpa using g
 have wp:=Qi.1 hW;refine Calls.mono (O0 (h.ext hx2) wp.a) ?_;rintro e wv ⟨m',he,hM,hy2⟩;have hK:=Wk.begin hy hy1 hx2 hs2 hM hy2;have hr:=hK.rd;refine ⟨_,_,_,_,_,_,_,_,_,_,he,Qf hy2 hs2,⟨by omega,by omega⟩,Y5 W c,Qh,fun g wr1 hx3 => ?_,fun g => ?_⟩
 ·have hb:AW W c=1:=by unfold AW; rw [if_pos (by simpa using g)]
  exact QD.no hW (by rw [hb]; decide) (hK.step hx3) hb
 have g:Y5 W c=true:=by simpa using g
 obtain ⟨c0,c1⟩:=Uc g;refine ⟨hr.c.ix ZX c0 c1,_,hr.c.f c0 c1 (j:=1) rfl,fun g2 wr2 hx3 => ?_,fun g2 wr4 hx4 hs4 => ?_⟩
 ·have g2:=of_decide_eq_true g2;have hb:AW W c=6:=by unfold AW; rw [if_neg (by rw [g]; decide),if_pos g2]
  exact QD.no hW (by rw [hb]; decide) (hK.step hx3) hb
 have g2:=of_decide_eq_false g2;have hb:AW W c=0:=by unfold AW; rw [if_neg (by rw [g]; decide),if_neg g2]
 have hK4:=hK.step hx4;refine Calls.mono (Zm hK4.own c0 c1) ?_;rintro e1 wv1 ⟨he1,hy3⟩;exact ⟨_,_,_,_,_,_,_,_,_,_,he1,hK4.kept hy3 hs4,fun wr5 hx5=>QD.ok hW hb ((hK4.deed hy3 hs4).step hx5)⟩
theorem zkh (V:Q8) (t g c:Int) (m:MW):Qa (UH V t g c) m=Qa V m:=by
 unfold UH
 split <;> simp [Qa,endW,setCp,setTk]
theorem zsp {K:Int} {W:Q8} (sw:SW K W) {t:Int} (t0:0<=t) (t1:t<12) (n:(Q7 W t).state≠0):SW K (QQ W t):=by
 unfold QQ;split
 ·have:=sw.t t t0 t1 n;exact sw.endW this.2.1 this.2.2
 ·exact sw
set_option maxHeartbeats 1000000 in
theorem FT {t g:Int} (h:Xa [] w W m) (hl:X7 W) :
  Cz VP #[.agg (Qa W m).toArray,.int .i64 t,.int .i64 g] w fun e w'=>∃v,e = .returned v/\QD (Xn W (q8 W t g) (zdk W t g)) w v w':=by
 refine FB W.now m.cO W.cpus.length m.cC m.tO W.tasks.length m.tC m.gO W.groups.length m.gC t g (R:=fun v w'=>QD (Xn W (q8 W t g) (zdk W t g)) w v w') ?_;intro y hy y1 hy1 wr hx2 hs2;refine Calls.mono (Z2 (h.ext hx2) hl) ?_;rintro e wv (⟨hW,he,hy2⟩ | ⟨hW,m',he,hM,hy2⟩)
 ·exact ⟨_,_,_,_,_,_,_,_,_,_,_,he,Qf hy2 hs2,fun _ wr1 hx3=>QD.bad hW ((hx2.trans hy2).fresh hx3 fun z hm=>.inl (Yp hy hy1 z hm)),fun g=>by simp at g⟩
 have hK:=Wk.begin hy hy1 hx2 hs2 hM hy2;have hr:=hK.rd;have wp:=Qi.1 hW;have htl:=wp.a.t;refine ⟨_,_,_,_,_,_,_,_,_,_,_,he,Qf hy2 hs2,fun g=>by split at g <;> simp at g,fun _=>⟨_,J6 hr hl.t,_,fun _=>Yn hr.g,fun q wr2 hx3 => ?_,fun q => ?_⟩⟩
 ·have hb:q8 W t g=2:=by
   unfold q8;rw [if_pos]
   simpa using q
  exact QD.no hW (by rw [hb]; decide) (hK.step hx3) hb
 simp only [Bool.or_eq_false_iff,Bool.not_eq_false'] at q;obtain ⟨q1,q2⟩:=q;have n1:¬(ZR W t=false\/Q6 W.groups g=false):=by rw [q1,q2]; simp
 obtain ⟨t0,t1,tn⟩:=Yy q1;have hix:=hr.t.ix QE t0 t1;refine ⟨fun g3 wr4 hx3 => ?_,fun g3 => ?_⟩
 ·have hr0:¬QG W=true:=fun hr=>by rw [if_pos hr] at g3; simp at g3
  have hb:q8 W t g=10:=by unfold q8; rw [if_neg n1,if_pos (by simpa using hr0)]
  rw [if_neg hr0];exact QD.no hW (by rw [hb]; decide) (hK.step hx3) hb
 have hr0:QG W=true:=Decidable.byContradiction fun hr=>by rw [if_neg hr] at g3; simp at g3
 have hb:q8 W t g=0:=by unfold q8; rw [if_neg n1,if_neg (by rw [hr0]; decide)]
 have sw:=ON wp (Qi.1 hr0);obtain ⟨hu,c0,c1⟩:=sw.t t t0 (by omega) tn;refine ⟨hix,_,_,_,_,_,_,_,_,_,hr.t t t0 t1,fun b2 hb2=>⟨fun g4 wr4 hx4 => ?_,fun g4 => ?_⟩⟩
 ·have g4:(Q7 W t).group=g:=by simpa [Q7] using g4
  have hE:zdk W t g=W:=by unfold zdk; rw [if_pos g4]
  have:=QD.ok (W':=zdk W t g) hW hb (m':=m') (hE.symm▸hK.step hx4)
  rwa [hE] at this ⊢
 have g4:¬(Q7 W t).group=g:=by simpa [Q7] using g4
 have hE:zdk W t g=Qg (UH (QQ W t) t g (HF W t g)):=by unfold zdk; rw [if_neg g4]
 obtain ⟨m0,m1,_⟩:=zjc wp (g:=g) t0 (by omega) tn;have hK0:=hK.add hb2;refine ⟨_,XA hr wp.a.c2 wp.a.tree q2,fun vs bs w1=>bs=[]/\vs=[.int .i64 (HF W t g)]/\Q0 [y,y1] wv w1,⟨_,ZL,fun g5=>⟨_,Py,fun wr5 hx5 _=>⟨rfl,?_,hx5⟩⟩,fun g5 wr6 hx6 _=>⟨rfl,?_,hx6⟩⟩,?_⟩
 ·have g5:¬Z4 (Qq W g (Q7 W t).mask) (Q7 W t).cpu=true:=by simpa [Q7] using g5
  unfold HF; rw [if_neg g5]; rfl
 ·have g5:Z4 (Qq W g (Q7 W t).mask) (Q7 W t).cpu=true:=by simpa [Q7] using g5
  unfold HF; rw [if_pos g5]; rfl
 rintro cv wv1 hs1 ⟨-,hv,hxv⟩;simp only [List.cons.injEq,Value.int.injEq,true_and,and_true] at hv;subst hv;have hxv3:Q0 ([y,y1]++[b2]) wv wv1:=hxv.mono fun x hm=>List.mem_append_left _ hm
 have hK1:=hK0.step hxv3;have e5:Qa (endW W (Q7 W t).cpu) m'=Qa W m':=by simp [Qa,endW,setCp]
 refine ⟨fun vs bs w1=>bs=[]/\vs=Qa W m'/\Wk 8 ([y,y1]++[b2]) w w1 (QQ W t) m',⟨hK1.rd.c.ix ZX c0 c1,_,hK1.rd.c.f c0 c1 (j:=1) rfl,fun g6 wr7 hx7 hs7 => ?_,fun g6 wr9 hx9 _=>⟨rfl,rfl,?_⟩⟩,?_⟩
 ·have g6:(gi W.cpus (Q7 W t).cpu).cur=t:=by simpa using g6
  have hK2:=hK1.step hx7;refine Calls.mono (Zm hK2.own c0 c1) ?_;rintro e1 wv2 ⟨he1,hy3⟩;rw [show Qa (endW W (gi W.tasks t).cpu) m'=Qa W m' from e5] at he1;refine ⟨_,_,_,_,_,_,_,_,_,_,he1,hK2.kept hy3 hs7,fun wr8 hx8 _=>⟨rfl,rfl,?_⟩⟩;have hlv:QQ W t=endW W (Q7 W t).cpu:=by unfold QQ; rw [if_pos g6]
  rw [hlv];exact (hK2.deed hy3 hs7).step hx8
 ·have g6:¬(gi W.cpus (Q7 W t).cpu).cur=t:=by simpa using g6
  have hlv:QQ W t=W:=by unfold QQ; rw [if_neg g6]
  rw [hlv];exact hK1.step hx9
 rintro l l1O l1L l1C l2O l2L l2C l3O l3L l3C wv3 hs3 ⟨-,hv,hK3⟩;simp only [Qa,List.cons.injEq,Value.int.injEq,Value.slice.injEq,true_and,and_true] at hv;obtain ⟨rfl,⟨rfl,rfl,rfl⟩,⟨rfl,rfl,rfl⟩,rfl,rfl,rfl⟩:=hv;have swl:=zsp sw t0 (by omega) tn;have ht:(QQ W t).tasks=W.tasks:=by unfold QQ; split <;> rfl
 have hg:(QQ W t).groups=W.groups:=by unfold QQ; split <;> rfl
 have hcl:(QQ W t).cpus.length=W.cpus.length:=by
  unfold QQ; split
  ·exact List.length_set
  ·rfl
 have hn:(QQ W t).now=W.now:=by unfold QQ; split <;> rfl
 have eL:∀mm,Qa (QQ W t) mm=Qa W mm:=fun mm=>by simp [Qa,ht,hg,hcl,hn]
 have tn2:(Q7 (QQ W t) t).state≠0:=by rw [XF ht]; exact tn
 have hu2:Q6 (QQ W t).groups g=true:=by rw [hg]; exact q2
 have hm1:HF W t g<((QQ W t).cpus.length:Int):=by rw [hcl]; exact m1
 rw [hE];generalize QQ W t=V at hK3 swl eL tn2 hu2 hm1;generalize HF W t g=c at m0 hm1;intro wr10 hx10 hs10;have hK4:=hK3.step hx10;have hcall:=U6 hK4.own (PL swl) (Int.le_refl _) (by simp only [Qk]; decide) (t:=t) (g:=g) (c:=c) t0 (by omega) tn2 hu2 m0 hm1;rw [eL] at hcall;refine Calls.mono hcall ?_;rintro e2 wv4 ⟨he2,hy4⟩;have hK5:=hK4.deed hy4 hs10;have sf2:=(BF (PL swl) (Int.le_refl _) (t:=t) t0 (by omega) hu2 m0 hm1).2;have eP:Qa (UH V t g c) m'=Qa W m':=by rw [<-eL]; exact zkh V t g c m'
 refine ⟨_,_,_,_,_,_,_,_,_,_,he2,hK4.kept hy4 hs10,fun wr11 hx11 hs11 => ?_⟩;have hK6:=hK5.step hx11;have hcall3:=Qp hK6.own sf2.w (by simp only [Qk]; decide) (by simp only [Qk]; decide) hK6.base;rw [eP] at hcall3;refine Calls.mono hcall3 ?_;rintro e3 wv5 ⟨m2,he3,hy5⟩;exact ⟨_,_,_,_,_,_,_,_,_,_,he3,hK6.kept hy5 hs11,fun wr12 hx12=>QD.ok hW hb ((hK6.deed hy5 hs11).step hx12)⟩
theorem FZ {g:Int} (h:Xa bs w W m) (hg8:W.groups.length=8) (ht12:W.tasks.length=12) :
  PX bs VV #[.agg (Qa W m).toArray,.int .i64 g] w (.bool (Jm (zl2 W g))):=
 Bf W.now m.cO W.cpus.length m.cC m.tO W.tasks.length m.tC m.gO W.groups.length m.gC g fun wr hx=>by
  have h:=(h.ext hx).less (cs:=[]) (by simp);intro b hb;refine Xh 8 1 rfl (fun k=>1<=k/\k<=8/\∀j:Int,1<=j->j<(k:Int)->¬((gi W.groups j).used=true/\(gi W.groups j).parent=g)) ⟨by omega,by omega,fun j a b=>by omega⟩ fun k ⟨hk1,hk8,hno⟩=>⟨fun hlt => ?_,fun hge => ?_⟩
  ·have hlt:=of_decide_eq_true hlt;have k0:(0:Int)<=(k:Int):=by omega
   refine ⟨h.g.ix k0 hlt,_,h.g.used k0 hlt,fun _=>h.g.ix k0 hlt,_,fun _=>h.g.parent k0 hlt,fun q => ?_,fun q=>⟨⟨by omega,by omega⟩,Qu (by omega) ⟨by omega,by omega,fun j a b => ?_⟩⟩⟩
   ·rw [Bool.and_eq_true,beq_iff_eq] at q;exact zgl (.inl ⟨(k:Int),by omega,by omega,q.1,q.2⟩)
   ·by_cases e:j<(k:Int)
    ·exact hno j a e
    ·have:j=(k:Int):=by omega
     subst this;rintro ⟨q1,q2⟩;rw [q1,beq_iff_eq.2 q2] at q;cases q
  ·have hge:=of_decide_eq_false hge;refine Xh 12 0 rfl (fun k=>k<=12/\∀j:Int,0<=j->j<(k:Int)->¬((Q7 W j).state≠0/\(Q7 W j).group=g)) ⟨by omega,fun j a b=>by omega⟩ fun k2 ⟨hk12,hnt⟩=>⟨fun hlt2 => ?_,fun hge2 => ?_⟩
   ·have hlt2:=of_decide_eq_true hlt2;have k0:(0:Int)<=(k2:Int):=by omega
    refine ⟨h.t.ix QE k0 hlt2,_,h.t.f k0 hlt2 (j:=0) rfl,fun _=>h.t.ix QE k0 hlt2,_,fun _=>h.t.f k0 hlt2 (j:=1) rfl,fun q => ?_,fun q=>⟨⟨by omega,by omega⟩,Qu (by omega) ⟨by omega,fun j a b => ?_⟩⟩⟩
    ·rw [Bool.and_eq_true,beq_iff_eq,bne_iff_ne] at q;exact zgl (.inr ⟨(k2:Int),by omega,by omega,q.1,q.2⟩)
    ·by_cases e:j<(k2:Int)
     ·exact hnt j a e
     ·have:j=(k2:Int):=by omega
      subst this;rintro ⟨q1,q2⟩;have q1:(gi W.tasks (k2:Int)).state≠0:=q1;have q2:(gi W.tasks (k2:Int)).group=g:=q2;rw [bne_iff_ne.2 q1,beq_iff_eq.2 q2] at q;cases q
   ·have hge2:=of_decide_eq_false hge2;refine ME ?_;rintro (⟨j,a,b,c,d⟩ | ⟨j,a,b,c,d⟩)
    ·exact hno j a (by omega) ⟨c,d⟩
    ·exact hnt j a (by omega) ⟨c,d⟩
theorem DS {g:Int} (h:Xa [] w W m) (hl:X7 W) :
  Cz V8 #[.agg (Qa W m).toArray,.int .i64 g] w fun e w'=>∃v,e = .returned v/\QD (Xn W (Dy W g) (Xr W g)) w v w':=by
 refine DA W.now m.cO W.cpus.length m.cC m.tO W.tasks.length m.tC m.gO W.groups.length m.gC g (R:=fun v w'=>QD (Xn W (Dy W g) (Xr W g)) w v w') ?_;intro x hx x1 hx1 wr hx2 hs2;refine Calls.mono (Uk (g:=g) (ok:=true) (h.ext hx2) hl) ?_;rintro e wv (⟨hW,he,hy⟩ | ⟨hW,m',he,hM,hy⟩)
 ·exact ⟨_,_,_,_,_,_,_,_,_,_,_,he,Qf hy hs2,fun _ wr1 hx3=>QD.bad hW ((hx2.trans hy).fresh hx3 fun y hm=>.inl (Yp hx hx1 y hm)),fun g=>by simp at g⟩
 have hK:=Wk.begin hx hx1 hx2 hs2 hM hy;have hr:=hK.rd;have wp:=Qi.1 hW;refine ⟨_,_,_,_,_,_,_,_,_,_,_,he,Qf hy hs2,fun g1 wr1 hx3 => ?_,fun g1=>⟨_,FZ hr wp.a.gl wp.a.t,fun g2 wr2 hx3 => ?_,fun g2=>⟨fun g3 wr3 hx3 => ?_,fun g3 => ?_⟩⟩⟩
 ·have hb:Dy W g=Pb W g true:=by
   by_cases h0:g=0
   ·unfold Dy Pb;rw [if_pos h0,if_pos (.inr h0)]
   ·have e0:¬(true=false\/g=0):=by simp [h0]
    by_cases h1:Q6 W.groups g=false
    ·unfold Dy Pb;rw [if_neg h0,if_neg e0,if_pos h1,if_pos h1]
    ·exfalso
     unfold Pb at g1;rw [if_neg e0,if_neg h1] at g1
     split at g1 <;> simp at g1
  exact QD.no hW (fun h0=>by rw [<-hb,h0] at g1; simp at g1) (hK.step hx3) hb
 all_goals
  have g1':¬g=0/\¬Q6 W.groups g=false:=by
   unfold Pb at g1
   by_cases h0:g=0
   ·rw [if_pos (.inr h0)] at g1; simp at g1
   ·refine ⟨h0,fun h1 => ?_⟩;rw [if_neg (show ¬(true=false\/g=0) by simp [h0]),if_pos h1] at g1;simp at g1
  have hgB:Pb W g true=if QG W=false then 10 else 0:=by
   unfold Pb;rw [if_neg (show ¬(true=false\/g=0) by simp [g1'.1]),if_neg g1'.2]
 ·have hb:Dy W g=4:=by unfold Dy; rw [if_neg g1'.1,if_neg g1'.2,if_pos g2]
  exact QD.no hW (by rw [hb]; decide) (hK.step hx3) hb
 ·have hr0:QG W=false:=by
   cases hq:QG W with
   | false=>rfl
   | true=>rw [hgB,hq] at g3; simp at g3
  have hb:Dy W g=10:=by unfold Dy; rw [if_neg g1'.1,if_neg g1'.2,if_neg (by rw [g2]; decide),if_pos hr0]
  rw [hgB,if_pos hr0];exact QD.no hW (by rw [hb]; decide) (hK.step hx3) hb
 ·have hr0:QG W=true:=by
   cases hq:QG W with
   | true=>rfl
   | false=>rw [hgB,hq] at g3; simp at g3
  have hb:Dy W g=0:=by unfold Dy; rw [if_neg g1'.1,if_neg g1'.2,if_neg (by rw [g2]; decide),if_neg (by rw [hr0]; decide)]
  have hu:Q6 W.groups g=true:=by simpa using g1'.2
  obtain ⟨u0,u1,_⟩:=Q5.1 hu;have hgl:=wp.a.gl
  have hset:Wk 8 [x,x1] w (sto wv m'.gO (Int.toNat g*14) (Yr AZ B5)) (Xr W g) (O3 m' g.toNat B5):=
   ⟨hK.s.call Ex fun y hy=>(hK.own.lt y hy).1,⟨hK.own.stoG u0 (by omega) (g:=AZ) (p:=B5) (j:=0) (vs:=Yr AZ B5) ⟨.inl ⟨rfl,rfl,rfl⟩,.inl ⟨rfl,rfl,rfl⟩,.inl ⟨rfl,rfl,rfl⟩⟩ (fun y hy=>by simp [Qr,B5,Qw] at hy) (by simp [Yr]) (by simp [Yr]),fun y hy hm=>by
    rcases T6 y hy with h1 | h1
    ·exact hK.nb y h1 hm
    ·simp [Qr,B5,Qw] at h1⟩⟩
  refine ⟨hr.g.ix u0 u1,zao hK.own hK.nb u0 (by omega) (j:=0) (by decide),fun wr4 hx4 => ?_⟩;have hfin:=QD.ok hW hb (hset.step hx4);have ew:Qa (Xr W g) (O3 m' g.toNat B5)=Qa W m':=by simp [Qa,Xr,setGr,O3]
  rw [ew] at hfin;have hgz:Pb W g true=0:=by rw [hgB,if_neg (by rw [hr0]; decide)]
  exact hfin
end
theorem zqh {V:Q8} (ha:WA V):X7 V:=by
 have h1:=ha.c2;have h2:=ha.t;have h3:=ha.gl;have hm:=Zj;have hn1:=ha.n1;have hn2:=ha.n2;refine ⟨by omega,by omega,by omega,fun i a b => ?_⟩;have hb:=H5 ha a (by omega);have hg:=ha.grp i a (by omega);have hz:(⟨[].toArray⟩:ByteArray).size=0:=rfl;refine ⟨?_,?_,by omega,by omega,by omega⟩
 ·cases hu:(gi V.groups i).used with
  | false=>rw [(hg.1 hu).n,hz]; omega
  | true=>
   by_cases e:i=0
   ·rw [e,ha.tree.rn,hz]; omega
   ·have:=(M6.1 (ha.tree.nm i (by omega) (by omega) hu)).1;omega
 cases hu:(gi V.groups i).used with
 | false=>rw [(hg.1 hu).ne]; exact ⟨by decide,by decide⟩
 | true=>
  have hg:=hg.2 hu
  by_cases hq:(gi V.groups i).band.quota=0
  ·rw [(hg.none hq).2.2]; exact ⟨by decide,by decide⟩
  ·have:=hg.band hq;exact ⟨by omega,by omega⟩
set_option maxHeartbeats 1000000 in
theorem K6 {n:Nat} {p:Int} {name:ByteArray} {w:World} (hn:n<=4) :
  Cz Uf #[.int .i64 (n:Int),.int .i64 p,.string name] w fun e w'=>∃mg,e = .returned (.agg (Yr (O2 n p name) mg).toArray)/\PV w.heap.size w' (O2 n p name,mg)/\Q0 [] w w':=by
 refine (Nq (n:Int) p name (R:=fun v w'=>∃mg,v = .agg (Yr (O2 n p name) mg).toArray/\PV w.heap.size w' (O2 n p name,mg)/\Q0 [] w w') ?_).mono fun e w' ⟨v,he,mg,hv,h3⟩=>⟨mg,by rw [he,hv],h3⟩
 intro b hb b1 hb1
 refine ⟨fun vs w2=>∃(k:Nat) (o:OA) (cap:Nat),vs=[.int .i64 (k:Int),.bool true,.int .i64 p,.string name,.int .i64 10,.int .i64 15,.int .i64 0,.int .i64 0,.int .i64 0,.int .i64 0,.int .i64 0,.int .i64 0,.slice none 0 0,.slice none 0 0,.slice o k cap]/\k<=n/\Sc w [b,b1] w2/\Ob Ps 5 Yq w.heap.size [b,b1] w2 o cap (List.replicate k q9),
  Zk n 0,fun wr hx _=>⟨0,none,0,rfl,Nat.zero_le _,(((Sc.start w).add hb).add hb1).call0 hx,⟨.inl ⟨rfl,rfl,rfl⟩,by simp [Qw]⟩⟩,?_⟩
 rintro c1 l l1 l2 l3 l4 l5 l6 l7 l8 l9 l10 l11O l11L l11C l12O l12L l12C l13O l13L l13C wv hs2 ⟨k,o,cap,he,hk,s1,hO⟩;simp only [List.cons.injEq,Value.int.injEq,Value.bool.injEq,Value.string.injEq,Value.slice.injEq,true_and,and_true] at he;obtain ⟨rfl,rfl,rfl,rfl,rfl,rfl,rfl,rfl,rfl,rfl,rfl,rfl,⟨rfl,rfl,rfl⟩,⟨rfl,rfl,rfl⟩,rfl,rfl,rfl⟩:=he;refine ⟨fun hlt => ?_,fun hge => ?_⟩
 ·have hlt:=of_decide_eq_true hlt;intro b3 hb3 wr3 hx3 hs3 hcell;have s2:=s1.put hx3 hb3;have hO2:=hO.put hx3 hb3;obtain ⟨o2,c2,w2,hrun,hk2,hO3,hx2⟩:=hO2.app1 VL Ms (x:=q9) hs3 s2.ext.size hcell (zty _) (by simp; omega) (by decide) ZC #[false,false];have s3:=s2.call hx2 fun x hm=>(hO2.own.lt x hm).1
  have hL:List.replicate l13L q9++[q9]=List.replicate (l13L+1) q9:=by rw [List.replicate_succ']
  rw [hL] at hrun hO3;rw [List.length_replicate,List.length_replicate] at hrun;exact ⟨_,_,_,w2,hrun,hk2,⟨by omega,by omega⟩,fun wr4 hx4 _=>⟨⟨l13L+1,o2,c2,by simp,by omega,(s3.step hx4).sub (by simp),(hO3.step hx4).sub (by simp)⟩,QM (k:=l13L) rfl rfl (by omega)⟩⟩
 ·have hge:=of_decide_eq_false hge;have:l13L=n:=by omega
  subst this;intro wr5 hx5;refine ⟨⟨none,0,none,0,l13O,l13C⟩,?_,⟨.inl ⟨rfl,rfl,rfl⟩,.inl ⟨rfl,rfl,rfl⟩,(hO.step hx5).own⟩,(s1.step hx5).ext⟩;simp [Yr,O2,Z3]
theorem ztw:QK≠Zy:=by decide
theorem zrs:QN≠Zy:=by decide
theorem ztv:QN≠QK:=by decide
theorem Hn {i:Int} (h0:0<=i) (h1:i<8):gi (List.replicate 8 Tt) i=Tt:=by
 obtain ⟨k,rfl⟩:=Int.eq_ofNat_of_zero_le h0;rw [XH (by rw [List.length_replicate]; omega)];exact List.getElem_replicate _
theorem zk7 {base:Nat} {w:World} {o:OA} {cap:Nat} (h:JC Od 14 QN base w o cap (List.replicate 8 Tt)):PU base w o cap (List.replicate 8 Tt):=by
 refine ⟨h,fun i h0 h1 => ?_,fun i j h0 h1 _ _ _ x hm => ?_⟩
 ·rw [Hn h0 (by simpa using h1)];exact ⟨.inl ⟨rfl,rfl,rfl⟩,.inl ⟨rfl,rfl,rfl⟩,.inl ⟨rfl,rfl,rfl⟩⟩
 ·rw [Hn h0 (by simpa using h1)] at hm;simp [Qr,Tt,Qw] at hm
section
variable {w:World} {b:Nat}
def zuj (b:Nat) (w:World) (vs:List Value) (bs:List Nat) (w2:World):Prop:=
 ∃(bx:Nat) (tO gO:OA) (tC gC:Nat),bs=[bx]/\vs=[.int .i64 0,.slice none 0 0,.slice tO 12 tC,.slice gO 8 gC]/\Sc w [b,bx] w2/\Ob YQ 9 QK w.heap.size [b,bx] w2 tO tC (List.replicate 12 VG)/\Ob Od 14 QN w.heap.size [b,bx] w2 gO gC (List.replicate 8 Tt)
theorem znp {bs:List Nat} {w1:World} (s:Sc w bs w1) (hs:∀x∈bs,x<w1.heap.size):∃(o:OA) (c:Nat) (w2:World),(Instr.makeSlice Zh (.int .i64 12) (.int .i64 12):Sem Value).run Tryz.prog w1 = .ok (.slice o 12 c) w2/\Q9 bs w1 w2/\Q0 [] w1 w2/\Ob YQ 9 QK w.heap.size bs w2 o c (List.replicate 12 VG):=
 ⟨_,_,_,Kl Oc Ks 12 (by decide) (by have:=Zj; omega) w1,Qf (Zb _ _) hs,Zb _ _,(Ob.of (Tq (enc:=YQ) Oc.len QK 12 VG w1) hs).mono s.ext.size⟩
theorem zno {bs:List Nat} {w1:World} (s:Sc w bs w1) (hs:∀x∈bs,x<w1.heap.size):∃(o:OA) (c:Nat) (w2:World),(Instr.makeSlice QT (.int .i64 8) (.int .i64 8):Sem Value).run Tryz.prog w1 = .ok (.slice o 8 c) w2/\Q9 bs w1 w2/\Q0 [] w1 w2/\Ob Od 14 QN w.heap.size bs w2 o c (List.replicate 8 Tt):=
 ⟨_,_,_,Kl YP Mr 8 (by decide) (by have:=Zj; omega) w1,Qf (Zb _ _) hs,Zb _ _,(Ob.of (Tq (enc:=Od) YP.len QN 8 Tt w1) hs).mono s.ext.size⟩
set_option maxHeartbeats 2000000 in
theorem FX {n:Nat} (n0:1<=n) (n1:n<=4) :
  Cz VT #[.int .i64 (n:Int)] w fun e w'=>∃m,e = .returned (.tuple #[.agg (Qa (Jz n) m).toArray,.bool true])/\Yj 8 w.heap.size w' (Jz n) m/\Q0 [] w w':=by
 refine (FG (n:Int) (R:=fun v w'=>∃m,v = .tuple #[.agg (Qa (Jz n) m).toArray,.bool true]/\Yj 8 w.heap.size w' (Jz n) m/\Q0 [] w w') ?_).mono fun e w' ⟨v,he,m,hv,h3⟩=>⟨m,by rw [he,hv],h3⟩
 intro b hb;have hin:Yh (n:Int) 1 4=true:=Qn.2 ⟨by omega,by omega⟩;have s0:Sc w [b] w:=(Sc.start w).add hb;refine ⟨_,Qh,fun g=>(by rw [hin] at g; cases g),fun _=>⟨zuj b w,?_,?_⟩⟩
 ·refine ⟨fun wr1 hx1 hs1 => ?_,fun wr6 hx6 hs6 => ?_,fun b5 hb5=>⟨fun wr11 hx11 hs11 => ?_,fun wr14 hx14 hs14 => ?_⟩⟩
  ·have s1:=s0.call0 hx1;obtain ⟨tO,tC,w2,hr,hk,he,hT⟩:=znp s1 hs1;have s2:=s1.call0 he;refine ⟨_,_,_,w2,hr,hk,fun wr2 hx2 hs2 => ?_,fun b2 hb2 wr4 hx4 hs4 => ?_⟩
   ·have s3:=s2.step hx2;obtain ⟨gO,gC,w3,hr3,hk3,he3,hG⟩:=zno s3 hs2;exact ⟨_,_,_,w3,hr3,hk3,fun b1 hb1 wr3 hx3 _=>⟨b1,tO,gO,tC,gC,rfl,rfl,(s3.call0 he3).put hx3 hb1,((hT.step hx2).call0 he3).put hx3 hb1,hG.put hx3 hb1⟩⟩
   ·have s3:=s2.put hx4 hb2;obtain ⟨gO,gC,w3,hr3,hk3,he3,hG⟩:=zno s3 hs4;exact ⟨_,_,_,w3,hr3,hk3,fun wr5 hx5 _=>⟨b2,tO,gO,tC,gC,rfl,rfl,(s3.call0 he3).step hx5,((hT.put hx4 hb2).call0 he3).step hx5,hG.step hx5⟩⟩
  ·have s1:=s0.call0 hx6;obtain ⟨gO,gC,w2,hr,hk,he,hG⟩:=zno s1 hs6;have s2:=s1.call0 he;refine ⟨_,_,_,w2,hr,hk,fun wr2 hx2 hs2 => ?_,fun b2 hb2 wr4 hx4 hs4 => ?_⟩
   ·have s3:=s2.step hx2;obtain ⟨tO,tC,w3,hr3,hk3,he3,hT⟩:=znp s3 hs2;exact ⟨_,_,_,w3,hr3,hk3,fun b1 hb1 wr3 hx3 _=>⟨b1,tO,gO,tC,gC,rfl,rfl,(s3.call0 he3).put hx3 hb1,hT.put hx3 hb1,((hG.step hx2).call0 he3).put hx3 hb1⟩⟩
   ·have s3:=s2.put hx4 hb2;obtain ⟨tO,tC,w3,hr3,hk3,he3,hT⟩:=znp s3 hs4;exact ⟨_,_,_,w3,hr3,hk3,fun wr5 hx5 _=>⟨b2,tO,gO,tC,gC,rfl,rfl,(s3.call0 he3).step hx5,hT.step hx5,((hG.put hx4 hb2).call0 he3).step hx5⟩⟩
  ·have s1:=(s0.add hb5).call0 hx11;obtain ⟨tO,tC,w2,hr,hk,he,hT⟩:=znp s1 hs11;refine ⟨_,_,_,w2,hr,hk,fun wr2 hx2 hs2 => ?_⟩;have s3:=(s1.call0 he).step hx2;obtain ⟨gO,gC,w3,hr3,hk3,he3,hG⟩:=zno s3 hs2;exact ⟨_,_,_,w3,hr3,hk3,fun wr5 hx5 _=>⟨b5,tO,gO,tC,gC,rfl,rfl,(s3.call0 he3).step hx5,((hT.step hx2).call0 he3).step hx5,hG.step hx5⟩⟩
  ·have s1:=(s0.add hb5).call0 hx14;obtain ⟨gO,gC,w2,hr,hk,he,hG⟩:=zno s1 hs14;refine ⟨_,_,_,w2,hr,hk,fun wr2 hx2 hs2 => ?_⟩;have s3:=(s1.call0 he).step hx2;obtain ⟨tO,tC,w3,hr3,hk3,he3,hT⟩:=znp s3 hs2;exact ⟨_,_,_,w3,hr3,hk3,fun wr5 hx5 _=>⟨b5,tO,gO,tC,gC,rfl,rfl,(s3.call0 he3).step hx5,hT.step hx5,((hG.step hx2).call0 he3).step hx5⟩⟩
 ·rintro l l1O l1L l1C l2O l2L l2C l3O l3L l3C b6 wv10 hs10 ⟨bx,tO,gO,tC,gC,hbx,hv,s1,hT,hG⟩;simp only [List.cons.injEq,Value.int.injEq,Value.slice.injEq,true_and,and_true] at hbx hv;subst hbx;obtain ⟨rfl,⟨rfl,rfl,rfl⟩,⟨rfl,rfl,rfl⟩,rfl,rfl,rfl⟩:=hv
  refine ⟨fun vs w2=>∃(k:Nat) (o:OA) (cap:Nat),vs=[.int .i64 (k:Int),.int .i64 0,.slice o k cap,.slice l2O 12 l2C,.slice l3O 8 l3C]/\k<=n/\Sc w [b,b6] w2/\Ob MB 5 Zy w.heap.size [b,b6] w2 o cap (List.replicate k (⟨true,-1,0,0,0⟩:OS))/\Ob YQ 9 QK w.heap.size [b,b6] w2 l2O l2C (List.replicate 12 VG)/\Ob Od 14 QN w.heap.size [b,b6] w2 l3O l3C (List.replicate 8 Tt),
   Zk n 0,fun wr hx _=>⟨0,none,0,rfl,Nat.zero_le _,s1.step hx,⟨.inl ⟨rfl,rfl,rfl⟩,by simp [Qw]⟩,hT.step hx,hG.step hx⟩,?_⟩
  rintro c1 l4 l5O l5L l5C l6O l6L l6C l7O l7L l7C wv hs2 ⟨k,o,cap,he,hk,s2,hC,hT2,hG2⟩;simp only [List.cons.injEq,Value.int.injEq,Value.slice.injEq,true_and,and_true] at he;obtain ⟨rfl,rfl,⟨rfl,rfl,rfl⟩,⟨rfl,rfl,rfl⟩,rfl,rfl,rfl⟩:=he;clear hT hG;refine ⟨fun hlt => ?_,fun hge => ?_⟩
  ·have hlt:=of_decide_eq_true hlt;intro b3 hb3 wr3 hx3 hs3 hcell;have s3:=s2.put hx3 hb3;have hC2:=hC.put hx3 hb3;obtain ⟨o2,c2,w2,hrun,hk2,hC3,hx2⟩:=hC2.app1 KC LA (x:=(⟨true,-1,0,0,0⟩:OS)) hs3 s3.ext.size hcell (ztx _) (by simp; omega) (by decide) Y1 #[false,false];have s4:=s3.call hx2 fun x hm=>(hC2.own.lt x hm).1
   have hT3:=(hT2.put hx3 hb3);have hT4:Ob YQ 9 QK w.heap.size [b,b6,b3] w2 l6O l6C (List.replicate 12 VG):=⟨hT3.own.ext hx2 (hT3.own.ty_ne hC2.own ztw),hT3.nb⟩;have hG3:=(hG2.put hx3 hb3);have hG4:Ob Od 14 QN w.heap.size [b,b6,b3] w2 l7O l7C (List.replicate 8 Tt):=⟨hG3.own.ext hx2 (hG3.own.ty_ne hC2.own zrs),hG3.nb⟩;have hL:List.replicate l5L (⟨true,-1,0,0,0⟩:OS)++[⟨true,-1,0,0,0⟩]=List.replicate (l5L+1) (⟨true,-1,0,0,0⟩:OS):=by rw [List.replicate_succ']
   rw [hL] at hrun hC3;rw [List.length_replicate,List.length_replicate] at hrun;exact ⟨_,_,_,w2,hrun,hk2,⟨by omega,by omega⟩,fun wr4 hx4 _=>⟨⟨l5L+1,o2,c2,by simp,by omega,(s4.step hx4).sub (by simp),(hC3.step hx4).sub (by simp),(hT4.step hx4).sub (by simp),(hG4.step hx4).sub (by simp)⟩,QM (k:=l5L) rfl rfl (by omega)⟩⟩
  ·have hge:=of_decide_eq_false hge;have:l5L=n:=by omega
   subst this;intro wr5 hx5 hs5;have s3:=s2.step hx5;have hC3:=hC.step hx5;have hT3:=hT2.step hx5;have hG3:=hG2.step hx5;refine (K6 n1).mono fun e w3 ⟨mg,he,hM,hx3⟩ => ?_
   have s4:=s3.call0 hx3;have hC4:=hC3.call0 hx3;have hT4:=hT3.call0 hx3;have hG4:=hG3.call0 hx3;have G:=zk7 hG4.own
   have hmb:∀x∈Qr mg,x∉[b,b6]:=fun x hm hx=>by
    have h1:=(hM.lt x hm).1;have h2:=hs5 x hx;omega
   have P:=G.put (i:=0) (Int.le_refl _) (by simp) (p:=(O2 l5L (-1) ⟨[].toArray⟩,mg)) (hM.mono s3.ext.size) fun j j0 j1 _ x hm=>by
    rw [Hn j0 (by simpa using j1)] at hm;simp [Qr,Tt,Qw] at hm
   have hxs:=hG4.own.stoX (Int.toNat 0*14) (Od (O2 l5L (-1) ⟨[].toArray⟩,mg));have s5:Sc w [b,b6] (sto w3 l7O (Int.toNat 0*14) (Od (O2 l5L (-1) ⟨[].toArray⟩,mg))):=⟨hG4.own.stoB _ _ s4.ext (Nat.le_refl _),s4.new⟩;have hC5:=hC4.own.ext hxs (hC4.own.ty_ne hG4.own zrs.symm);have hT5:=hT4.own.ext hxs (hT4.own.ty_ne hG4.own ztv.symm);refine ⟨_,_,_,_,_,_,_,_,_,_,_,_,_,_,_,_,_,_,_,_,he,Qf hx3 hs5,rfl,hG4.own.ix (Int.le_refl _) (by simp),hG4.own.wr YP.len hG4.nb (i:=0) (j:=0) (Int.le_refl _) (by simp) (by decide),fun wr hx=>⟨⟨l5O,l5C,l6O,l6C,l7O,l7C,fun k=>if k=0 then mg else Tt.2⟩,?_,⟨?_,?_,?_,rfl⟩,(s5.step hx).ext⟩⟩
   ·simp [Qa,Jz]
   ·exact hC5.ext hx hC4.nb
   ·exact hT5.ext hx hT4.nb
   ·have hps:zlf (Jz l5L) ⟨l5O,l5C,l6O,l6C,l7O,l7C,fun k=>if k=0 then mg else Tt.2⟩=(List.replicate 8 Tt).set (Int.toNat 0) (O2 l5L (-1) ⟨[].toArray⟩,mg):=rfl;rw [hps];refine ⟨P.row.ext hx hG4.nb,fun i i0 i1=>(P.each i i0 i1).ext hx fun x hm => ?_,P.dj⟩;have hi8:i<8:=by simpa using i1
    have:=Qy (List.replicate 8 Tt) (O2 l5L (-1) ⟨[].toArray⟩,mg) (i:=0) (j:=i) (Int.le_refl _) (by simp) i0;rw [this] at hm
    split at hm
    ·exact hmb x hm
    ·rw [Hn i0 hi8] at hm;simp [Qr,Tt,Qw] at hm
end
def T0 (W:Q8) (j:Nat):Bool:=decide (1<=j) && !(gi W.groups (j:Int)).used
def Vi (W:Q8):Int:=G8 (T0 W) 8
def ztd (W:Q8) (p:Int) (name:ByteArray):Prop:=∃h:Int,1<=h/\h<8/\(gi W.groups h).used=true/\(gi W.groups h).parent=p/\(gi W.groups h).name=name
open Classical in
noncomputable def MD (W:Q8) (p:Int) (name:ByteArray):Int:=if Jy name=false then 1 else if Q6 W.groups p=false then 2 else if ztd W p name then 7 else if dep 3 W.groups p=3 then 9 else if Vi W<0 then 3 else if QG W=false then 10 else 0
def znm (W:Q8) (p:Int) (name:ByteArray):Q8:=TV W (Vi W) p name
theorem zez (W:Q8):(Vi W = -1/\∀h:Int,1<=h->h<8->(gi W.groups h).used=true)\/(1<=Vi W/\Vi W<8/\(gi W.groups (Vi W)).used=false):=by
 rcases Pu (T0 W) 8 with ⟨h1,h2⟩ | ⟨h1,h2,h3,_⟩
 ·refine .inl ⟨h1,fun h a b => ?_⟩;have:=h2 h.toNat (by omega);unfold T0 at this;rw [show ((h.toNat:Nat):Int)=h by omega,decide_eq_true (by omega:1<=h.toNat)] at this
  simpa using this
 ·have e:(((Vi W).toNat:Nat):Int)=Vi W:=by unfold Vi; omega
  have h3:T0 W (Vi W).toNat=true:=h3;unfold T0 at h3;rw [e,Bool.and_eq_true,decide_eq_true_eq,Bool.not_eq_true'] at h3;refine .inr ⟨by omega,by unfold Vi; omega,h3.2⟩
theorem zhj {W:Q8} {p:Int} {name:ByteArray} (hb:MD W p name=0):zb0 W (Vi W) p name/\QG W=true:=by
 unfold MD at hb
 split at hb
 ·cases hb
 rename_i h1
 split at hb
 ·cases hb
 rename_i h2
 split at hb
 ·cases hb
 rename_i h3
 split at hb
 ·cases hb
 rename_i h4
 split at hb
 ·cases hb
 rename_i h5
 split at hb
 ·cases hb
 rename_i h6;rcases zez W with ⟨a,_⟩ | ⟨a,b,c⟩
 ·omega
 ·exact ⟨⟨a,b,c,by simpa using h2,by simpa using h1,fun h a1 a2 u e=>h3 ⟨h,a1,a2,u,e.1,e.2⟩,h4⟩,by simpa using h6⟩
section
variable {W:Q8} {m:MW} {w:World}
set_option maxHeartbeats 1000000 in
theorem Px {p:Int} {name:ByteArray} (h:Xa [] w W m) (hl:X7 W) :
  Cz Qt #[.agg (Qa W m).toArray,.int .i64 p,.string name] w fun e w'=>∃v,e = .returned v/\Tu (O7 W (MD W p name) (znm W p name) (Vi W)) w v w':=by
 refine DB W.now m.cO W.cpus.length m.cC m.tO W.tasks.length m.tC m.gO W.groups.length m.gC p name (R:=fun v w'=>Tu (O7 W (MD W p name) (znm W p name) (Vi W)) w v w') ?_;intro y hy y1 hy1 wr hx2 hs2;refine Calls.mono (Z2 (h.ext hx2) hl) ?_;rintro e wv (⟨hW,he,hy2⟩ | ⟨hW,m',he,hM,hy2⟩)
 ·exact ⟨_,_,_,_,_,_,_,_,_,_,_,he,Qf hy2 hs2,true,fun g=>by simp at g,fun _ wr1 hx3=>Tu.bad hW ((hx2.trans hy2).fresh hx3 fun z hm=>.inl (Yp hy hy1 z hm)),fun g=>by simp at g⟩
 have hK:=Wk.begin hy hy1 hx2 hs2 hM hy2;have hr:=hK.rd;have wp:=Qi.1 hW;have hgl:=wp.a.gl;have hc1:((if QG W=true then 0 else 10:Int)==1)=false:=by split <;> rfl
 refine ⟨_,_,_,_,_,_,_,_,_,_,_,he,Qf hy2 hs2,_,fun _=>Ls,fun g1 wr1 hx3 => ?_,fun g1=>⟨_,Yn hr.g,fun g2 wr2 hx3 => ?_,fun g2 => ?_⟩⟩
 ·rw [hc1] at g1;have hb:MD W p name=1:=by unfold MD; rw [if_pos (by simpa using g1)]
  exact Tu.no hW (by rw [hb]; decide) (hK.step hx3) hb
 ·rw [hc1] at g1;have n1:¬Jy name=false:=by simpa using g1
  have hb:MD W p name=2:=by unfold MD; rw [if_neg n1,if_pos (by simpa using g2)]
  exact Tu.no hW (by rw [hb]; decide) (hK.step hx3) hb
 rw [hc1] at g1;have n1:¬Jy name=false:=by simpa using g1
 have hu:Q6 W.groups p=true:=by simpa using g2
 have n2:¬Q6 W.groups p=false:=by rw [hu]; decide
 refine ⟨fun vs w1=>∃k:Nat,vs=[.int .i64 (k:Int),.int .i64 0,.slice none 0 0,.slice none 0 0,.slice none 0 0]/\1<=k/\k<=8/\(∀q:Int,1<=q->q<(k:Int)->(gi W.groups q).used=true->¬((gi W.groups q).parent=p/\(gi W.groups q).name=name))/\Q0 [y,y1] wv w1,
  Zk 8 0,fun w1 hx0 _=>⟨1,rfl,by omega,by omega,fun q a b=>by omega,hx0⟩,?_⟩
 rintro h1 l l1O l1L l1C l2O l2L l2C l3O l3L l3C wv2 hs3 ⟨k,he2,hk1,hk8,hno,hxw⟩;simp only [List.cons.injEq,Value.int.injEq,Value.slice.injEq,true_and,and_true] at he2;obtain ⟨rfl,rfl,⟨rfl,rfl,rfl⟩,⟨rfl,rfl,rfl⟩,rfl,rfl,rfl⟩:=he2;have hK1:=hK.step hxw;have hr1:=hK1.rd;refine ⟨fun hlt => ?_,fun hge => ?_⟩
 ·have hlt:=of_decide_eq_true hlt;have hk0:(0:Int)<=(k:Int):=by omega
  refine ⟨hr1.g.ix hk0 hlt,_,hr1.g.used hk0 hlt,fun _=>hr1.g.ix hk0 hlt,_,fun _=>hr1.g.parent hk0 hlt,fun _=>hr1.g.ix hk0 hlt,_,fun _=>hr1.g.name hk0 hlt,fun g3 wr5 hx5 => ?_,fun g3=>⟨⟨by omega,by omega⟩,fun wr6 hx6 _=>⟨⟨k+1,by simp,by omega,by omega,fun q q1 q2 qu => ?_,hxw.trans hx6⟩,QM (k:=k) rfl rfl (by omega)⟩⟩⟩
  ·rw [Bool.and_eq_true,Bool.and_eq_true,JM,beq_iff_eq] at g3;have hb:MD W p name=7:=by unfold MD; rw [if_neg n1,if_neg n2,if_pos ⟨k,by omega,by omega,g3.1.1,g3.1.2,g3.2⟩]
   exact Tu.no hW (by rw [hb]; decide) (hK1.step hx5) hb
  ·by_cases e:q<(k:Int)
   ·exact hno q q1 e qu
   ·have:q=(k:Int):=by omega
    subst this;rintro ⟨c1,c2⟩;rw [qu,beq_iff_eq.2 c1,JM.2 c2] at g3;cases g3
 have hge:=of_decide_eq_false hge;have:k=8:=by omega
 subst this;have n3:¬ztd W p name:=fun ⟨q,a,b,c,d,e⟩=>hno q a (by omega) c ⟨d,e⟩
 refine ⟨_,OC hr1.g (by rw [hgl]; have:=Zj; omega),fun g4 wr7 hx7 => ?_,fun g4=>⟨⟨by omega,by omega⟩,?_⟩⟩
 ·rw [zco wp.a.tree hu,beq_iff_eq] at g4;have hb:MD W p name=9:=by unfold MD; rw [if_neg n1,if_neg n2,if_neg n3,if_pos g4]
  exact Tu.no hW (by rw [hb]; decide) (hK1.step hx7) hb
 rw [zco wp.a.tree hu,beq_eq_false_iff_ne] at g4
 refine ⟨fun vs w1=>∃a t:Int,vs=[.int .i64 a,.int .i64 t]/\0<=t/\t<8/\(a = -1/\(∀j:Nat,t<(j:Int)->j<8->T0 W j=false)\/t<a/\a<8/\T0 W a.toNat=true/\∀j:Nat,t<(j:Int)->(j:Int)<a->T0 W j=false)/\Q0 [y,y1] wv2 w1,
  fun vs _=>(Y3 1 vs+1).toNat,fun w1 hx0 _=>⟨-1,_,rfl,by omega,by omega,.inl ⟨rfl,fun j h1 h2=>by omega⟩,hx0⟩,?_⟩
 rintro av tv wv3 hs4 ⟨a,t,he2,ht0,ht1,hcond,hxw2⟩;simp only [List.cons.injEq,Value.int.injEq,true_and,and_true] at he2;obtain ⟨rfl,rfl⟩:=he2;have hK2:=hK1.step hxw2;have hr2:=hK2.rd;refine ⟨fun hlt => ?_,fun hge2 => ?_⟩
 ·have hlt:=of_decide_eq_true hlt;have e:((tv.toNat:Nat):Int)=tv:=by omega
  have hst:T0 W tv.toNat = !(gi W.groups tv).used:=by unfold T0; rw [e,decide_eq_true (by omega:1<=tv.toNat)]; rfl
  refine ⟨hr2.g.ix (by omega) (by omega),_,hr2.g.used (by omega) (by omega),fun g3=>⟨⟨by omega,by omega⟩,fun wr5 hx5 _=>⟨⟨tv,tv - 1,rfl,by omega,by omega,.inr ⟨by omega,ht1,by rw [hst]; exact g3,fun j h1 h2=>by omega⟩,hxw2.trans hx5⟩,?_⟩⟩,fun g3=>⟨⟨by omega,by omega⟩,fun wr6 hx6 _=>⟨⟨av,tv - 1,rfl,by omega,by omega,?_,hxw2.trans hx6⟩,?_⟩⟩⟩
  ·simp only [Y3,List.getElem?_cons_zero,List.getElem?_cons_succ]; omega
  ·have g3:T0 W tv.toNat=false:=by rw [hst]; exact g3
   have one:∀j:Nat,tv - 1<(j:Int)->¬tv<(j:Int)->T0 W j=false:=fun j h1 h2=>by
    have:j=tv.toNat:=by omega
    rw [this]; exact g3
   rcases hcond with ⟨h1,h2⟩ | ⟨h1,h2,h3,h4⟩
   ·exact .inl ⟨h1,fun j j1 j2=>if h:tv<(j:Int) then h2 j h j2 else one j j1 h⟩
   ·exact .inr ⟨by omega,h2,h3,fun j j1 j2=>if h:tv<(j:Int) then h4 j h j2 else one j j1 h⟩
  ·simp only [Y3,List.getElem?_cons_zero,List.getElem?_cons_succ]; omega
 have hge2:=of_decide_eq_false hge2;have ht:tv=0:=by omega
 subst ht;have hz:T0 W 0=false:=rfl
 have hfree:av=Vi W:=by
  rcases hcond with ⟨h1,h2⟩ | ⟨h1,h2,h3,h4⟩
  ·rw [h1]; exact (zi0 fun j hj=>if e:j=0 then by rw [e]; exact hz else h2 j (by omega) hj).symm
  ·exact (ziz (by omega) h2 h3 fun j hj=>if e:j=0 then by rw [e]; exact hz else h4 j (by omega) hj).symm
 subst hfree;refine ⟨fun g5 wr7 hx7 => ?_,fun g5=>⟨fun g6 wr8 hx8 => ?_,fun g6 wr13 hx13 hs13 => ?_⟩⟩
 ·have g5:=of_decide_eq_true g5;have hb:MD W p name=3:=by unfold MD; rw [if_neg n1,if_neg n2,if_neg n3,if_neg g4,if_pos g5]
  exact Tu.no hW (by rw [hb]; decide) (hK2.step hx7) hb
 ·have g5:=of_decide_eq_false g5;have hr0:¬QG W=true:=fun hr=>by rw [if_pos hr] at g6; simp at g6
  have hb:MD W p name=10:=by unfold MD; rw [if_neg n1,if_neg n2,if_neg n3,if_neg g4,if_neg g5,if_pos (by simpa using hr0)]
  rw [if_neg hr0];exact Tu.no hW (by rw [hb]; decide) (hK2.step hx8) hb
 have g5:=of_decide_eq_false g5;have hr0:QG W=true:=Decidable.byContradiction fun hr=>by rw [if_neg hr] at g6; simp at g6
 have hb:MD W p name=0:=by unfold MD; rw [if_neg n1,if_neg n2,if_neg n3,if_neg g4,if_neg g5,if_neg (by rw [hr0]; decide)]
 obtain ⟨hf,_⟩:=zhj hb;have a1:=hf.a1;have a8:=hf.a8;have hK3:=hK2.step hx13;refine (K6 (n:=W.cpus.length) wp.a.c2).mono fun e1 wv4 ⟨mg,he1,hMg,hx4⟩ => ?_
 have hK4:=hK3.call0 hx4;have hold:∀x∈QL 8 m',x<wr13.heap.size:=fun x hx=>(hK3.own.lt x hx).2
 have hnew:∀x∈Qr mg,wr13.heap.size<=x:=fun x hx=>(hMg.lt x hx).1
 have hset:Wk 8 [y,y1] w (sto wv4 m'.gO (Int.toNat (Vi W)*14) (Yr (O2 W.cpus.length p name) mg)) (znm W p name) (O3 m' (Vi W).toNat mg):=
  ⟨hK4.s.call Ex fun x hx=>(hK4.own.lt x hx).1,⟨hK4.own.stoG (by omega) a8 (g:=O2 W.cpus.length p name) (p:=mg) (j:=0) (vs:=Yr (O2 W.cpus.length p name) mg) (hMg.mono hK3.base) (fun x hx=>.inl fun hx'=>by have:=hold x hx'; have:=hnew x hx; omega) (by simp [Yr,Z3]) (by simp [Yr,Z3]),fun x hx hm=>by
   rcases T6 x hx with h1 | h1
   ·exact hK4.nb x h1 hm
   ·have:=hnew x h1;have:=hs13 x hm;omega⟩⟩
 refine ⟨_,_,_,_,_,_,_,_,_,_,_,_,_,_,_,_,_,_,_,_,he1,Qf hx4 hs13,rfl,hr2.g.ix (by omega) (by omega),zao hK4.own hK4.nb (by omega) a8 (j:=0) (k:=14) (by decide),fun wr14 hx14 => ?_⟩;have hfin:=Tu.ok (a:=Vi W) hW hb (hset.step hx14);have ew:Qa (znm W p name) (O3 m' (Vi W).toNat mg)=Qa W m':=by simp [Qa,znm,TV,setGr,O3]
 rw [ew] at hfin;exact hfin
end
theorem Q0.kept {bs B:List Nat} {w w':World} (h:Q0 bs w w') (hB:∀x∈B,x<w.heap.size/\x∉bs):Q9 B w w':=fun x hx=>h.block x (hB x hx).1 (hB x hx).2
theorem zne {b x:Nat} {w w':World} (h:Q0 [b] w w') (h1:x<w.heap.size) (h2:x≠b):Q9 [x] w w':=h.kept fun y hy=>by
 rw [List.mem_singleton.1 hy]; exact ⟨h1,by simpa using h2⟩
def zs8 (v:Int):Prop := -2<=v/\v<=21
theorem ze8 {b:Nat} {c:OA} {L N:Nat} {w:World} (h:J3 b c L N w) (hN:N<=900000000000) :
  Cz Zu #[.pointer (some ⟨b,0,none⟩)] w fun e w'=>∃v,e = .returned (.int .i64 v)/\zs8 v/\J3 b c L (N+2) w'/\Q0 [b] w w':=by
 refine (L5 (some ⟨b,0,none⟩) (R:=fun v w'=>∃x,v = .int .i64 x/\zs8 x/\J3 b c L (N+2) w'/\Q0 [b] w w') ?_).mono fun e w' ⟨v,he,x,hv,h1,h2,h3⟩=>⟨x,by rw [he,hv],h1,h2,h3⟩
 refine fun wr hx _=>(Gd (h.ext0 hx) (by omega)).mono fun e w1 ⟨v,he,hv,hr1,hx1⟩=>⟨v,he,OE,fun _ => ?_,fun _ b1 hb1 wr3 hx3 hsz => ?_⟩
 ·refine fun wr1 hy _=>(Gd (hr1.ext0 hy) (by omega)).mono fun e w2 ⟨u,he,hu,hr2,hx2⟩=>⟨u,he,OE,?_⟩
  have hu1:=hu.1;have hu2:=hu.2.2 (by decide);exact ⟨Jh (by omega) (by omega),fun wr2 hz=>⟨_,rfl,⟨by omega,by omega⟩,hr2.ext0 hz,(hx.of_nil.trans hx1).trans (hy.of_nil.trans (hx2.trans hz.of_nil))⟩⟩
 ·refine (Gd (hr1.ext0 hx3) (by omega)).mono fun e w2 ⟨u,he,hu,hr2,hx2⟩=>⟨u,he,zne hx2 (hsz b1 (by simp)) (by have:=hr1.lt; omega),?_⟩
  have hu1:=hu.1;have hu2:=hu.2.2 (by decide)
  have fin:∀(x:Int),zs8 x->∀wr4,Q0 [b1] w2 wr4->∃x',Value.int .i64 x = .int .i64 x'/\zs8 x'/\J3 b c L (N+2) wr4/\Q0 [b] w wr4:=fun x hxv wr4 hz=>
   ⟨x,rfl,hxv,hr1.extN hr2 hz (by simpa using hb1),(hx.of_nil.trans hx1).trans ((hx3.of_nil.trans hx2)) |>.fresh hz (fun y hy=>by
    rw [List.mem_singleton.1 hy];have h1:=hx.size; have h2:=hx1.size;exact .inl (by omega))⟩
  have:u=0\/u=1\/u=2\/u=3\/u=4\/u=5\/u=6\/u=7\/u=8\/u=9:=by omega
  refine ⟨⟨hu1,hu2⟩,?_⟩;rcases this with rfl | rfl | rfl | rfl | rfl | rfl | rfl | rfl | rfl | rfl <;> exact ⟨_,⟨by decide,rfl⟩,fin _ ⟨by decide,by decide⟩⟩
def EG (c:OA) (L:Nat) (w:World):Prop:=∀i<L,∃(a:Addr) (x:Int),c=some a/\0<=x/\x<=255/\w.cell? (a.add i)=some (.int .u8 x)
theorem EG.ext {c:OA} {L:Nat} {w w':World} (h:EG c L w) (hx:Q0 [] w w'):EG c L w':=fun i hi=>by
 obtain ⟨a,x,ha,h1,h2,h3⟩:=h i hi;obtain ⟨a',e,_,h''⟩:=(show UN [] w c i (.int .u8 x) from ⟨a,ha,by simp,h3⟩).ext hx;rw [ha] at e; cases e; exact ⟨a,x,ha,h1,h2,h''⟩
structure RS (rb:Nat) (c:OA) (L N:Nat) (bs:List Nat) (w:World):Prop where
 rd:J3 rb c L N w
 nb:rb∉bs
 oc:∀a,c=some a->a.block∉bs\/L=0
section
variable {rb:Nat} {c:OA} {L N:Nat} {bs cs:List Nat} {w w':World} {b:Nat}
theorem RS.step (h:RS rb c L N bs w) (hx:Q0 bs w w'):RS rb c L N bs w':=⟨h.rd.ext hx h.nb h.oc,h.nb,h.oc⟩
theorem RS.call0 (h:RS rb c L N bs w) (hx:Q0 [] w w'):RS rb c L N bs w':=⟨h.rd.ext0 hx,h.nb,h.oc⟩
theorem RS.call (h:RS rb c L N bs w) (hx:Q0 cs w w') (h1:rb∉cs) (h2:∀a,c=some a->a.block∉cs\/L=0):RS rb c L N bs w':=⟨h.rd.ext hx h1 h2,h.nb,h.oc⟩
theorem RS.add (h:RS rb c L N bs w) (hb:w.heap.size<=b):RS rb c L N (bs++[b]) w:=⟨h.rd,fun hm=>by
 rcases List.mem_append.1 hm with hm | hm
 ·exact h.nb hm
 ·have:rb=b:=by simpa using hm
  have:=h.rd.lt;omega,fun a ha=>by
 rcases h.oc a ha with h1 | h1
 ·rcases h.rd.ltc a ha with h2 | h2
  ·refine .inl fun hm => ?_
   rcases List.mem_append.1 hm with hm | hm
   ·exact h1 hm
   ·have:a.block=b:=by simpa using hm
    omega
  ·exact .inr h2
 ·exact .inr h1⟩
theorem RS.sub (h:RS rb c L N bs w) (hs:∀x∈cs,x∈bs):RS rb c L N cs w:=⟨h.rd,fun hm=>h.nb (hs _ hm),fun a ha=>by
 rcases h.oc a ha with h1 | h1
 ·exact .inl fun hm=>h1 (hs _ hm)
 ·exact .inr h1⟩
theorem RS.upd {M:Nat} (h:RS rb c L N bs w) (k:J3 rb c L M w'):RS rb c L M bs w':=⟨k,h.nb,h.oc⟩
theorem RS.mono {M:Nat} (h:RS rb c L N bs w) (hm:N<=M):RS rb c L M bs w:=⟨h.rd.mono hm,h.nb,h.oc⟩
theorem Sc.stepB {w0:World} (h:Sc w0 (rb::bs) w) (hx:Q0 bs w w'):Sc w0 (rb::bs) w':=h.step (hx.mono fun _ hm=>List.mem_cons_of_mem _ hm)
theorem Sc.stepR {w0:World} (h:Sc w0 (rb::bs) w) (hx:Q0 [rb] w w'):Sc w0 (rb::bs) w':=h.step (hx.mono fun x hm=>by
 have:x=rb:=by simpa using hm
 subst this; simp)
theorem OD (h:RS rb c L N bs w) (hx:Q0 [rb] w w') (hs:∀x∈bs,x<w.heap.size):Q9 bs w w':=znf hx hs fun x hm hm'=>by
 have:x=rb:=by simpa using hm
 subst this; exact h.nb hm'
end
section
variable {α:Type} {enc:α->List Value} {z:Nat} {ty:TypeId} {base rb:Nat} {bs:List Nat} {w w':World} {o:OA} {cap:Nat} {l:List α} {b:Nat}
end
theorem zhc {c:OA} {L C:Nat} {w:World} (h:EG c L w) (hC:L<=C) :
  Cz Ue #[.slice c L C] w fun e w'=>∃b c' L',e = .returned (.pointer (some ⟨b,0,none⟩))/\w.heap.size<=b/\J3 b c' L' 0 w'/\Q0 [] w w'/\∀a',c'=some a'->L'=0\/(0<L/\∃a,c=some a/\a'.block=a.block):=by
 refine (Np c L C (R:=fun v w'=>∃b c' L',v = .pointer (some ⟨b,0,none⟩)/\w.heap.size<=b/\J3 b c' L' 0 w'/\Q0 [] w w'/\∀a',c'=some a'->L'=0\/(0<L/\∃a,c=some a/\a'.block=a.block)) ?_).mono fun e w' ⟨v,he,b,c',L',hv,h1,h2,h3⟩=>⟨b,c',L',by rw [he,hv],h1,h2,h3⟩
 refine ⟨fun hlt=>⟨⟨by omega,by omega,by have:=of_decide_eq_true hlt; omega⟩,fun b wb hx hb hh _ wr hy=>⟨b,if C=Int.toNat 0 then c else c.map (·.add (Int.toNat 0*1)),Int.toNat 2000 - Int.toNat 0,rfl,hb,?_,hx.trans hy,fun a' ha' => ?_⟩⟩,fun hlt b wb hx hb hh _ wr hy=>⟨b,c,L,rfl,hb,?_,hx.trans hy,fun a' ha' => ?_⟩⟩
 ·refine J3.ext0 ⟨⟨_,0,hh,by omega,by omega⟩,fun i hi => ?_⟩ hy;have hlt:=of_decide_eq_true hlt;obtain ⟨a,x,ha,h1,h2,h3⟩:=h.ext hx i (by have:i<2000 - 0:=hi; omega);obtain ⟨a0,x0,ha0,_,_,h30⟩:=h i (by have:i<2000 - 0:=hi; omega);have hlt2:=World.block_lt_of_cell? w _ h30;rw [ZB] at hlt2;rw [ha] at ha0; cases ha0;rw [if_neg (show ¬C=Int.toNat 0 from fun e=>by have:C=0:=e; omega),ha];refine ⟨a.add 0,x,rfl,by rw [ZB]; omega,h1,h2,?_⟩;rw [U2,Nat.zero_add]; exact h3
 ·have hlt:=of_decide_eq_true hlt;refine .inr ⟨by omega,?_⟩;rw [if_neg (show ¬C=Int.toNat 0 from fun e=>by have:C=0:=e; omega)] at ha'
  cases c with
  | none=>cases ha'
  | some a=>
   simp only [Option.map_some,Option.some.injEq] at ha';exact ⟨a,rfl,by rw [<-ha',ZB]⟩
 ·refine J3.ext0 ⟨⟨_,0,hh,by omega,by omega⟩,fun i hi => ?_⟩ hy;obtain ⟨a,x,ha,h1,h2,h3⟩:=h.ext hx i hi;obtain ⟨a0,x0,ha0,_,_,h30⟩:=h i hi;have hlt2:=World.block_lt_of_cell? w _ h30;rw [ZB] at hlt2;rw [ha] at ha0; cases ha0;exact ⟨a,x,ha,by omega,h1,h2,h3⟩
 ·rcases Nat.eq_zero_or_pos L with h0 | h0
  ·exact .inl h0
  ·exact .inr ⟨h0,a',ha',rfl⟩
structure Dr (rb:Nat) (c:OA) (L N n:Nat) (bs:List Nat) (w0 w:World):Prop where
 r:RS rb c L (N+n) bs w
 ext:Q0 [rb] w0 w
 new:∀x∈bs,w0.heap.size<=x
section
variable {rb b b2:Nat} {c:OA} {L N n k:Nat} {bs cs:List Nat} {w0 w w':World}
theorem Dr.start (h:J3 rb c L N w):Dr rb c L N 0 [] w w:=⟨⟨h,by simp,fun _ _=>.inl (by simp)⟩,Q0.refl _ _,by simp⟩
theorem Dr.step (h:Dr rb c L N n bs w0 w) (hx:Q0 bs w w'):Dr rb c L N n bs w0 w':=⟨h.r.step hx,h.ext.fresh hx fun x hm=>.inl (h.new x hm),h.new⟩
theorem Dr.add (h:Dr rb c L N n bs w0 w) (hb:w.heap.size<=b):Dr rb c L N n (bs++[b]) w0 w:=⟨h.r.add hb,h.ext,fun x hm=>by
 rcases List.mem_append.1 hm with hm | hm
 ·exact h.new x hm
 ·have:x=b:=by simpa using hm
  have:=h.ext.size;omega⟩
theorem Dr.put (h:Dr rb c L N n bs w0 w) (hx:Q0 bs w w') (hb:w.heap.size<=b):Dr rb c L N n (bs++[b]) w0 w':=(h.add hb).step (hx.mono fun _ hm=>List.mem_append_left _ hm)
theorem Dr.put2 (h:Dr rb c L N n bs w0 w) (hx:Q0 bs w w') (hb:w.heap.size<=b) (hb2:w.heap.size<=b2):Dr rb c L N n (bs++[b]++[b2]) w0 w':=((h.add hb).add hb2).step (hx.mono fun _ hm=>List.mem_append_left _ (List.mem_append_left _ hm))
theorem Dr.more {m:Nat} (h:Dr rb c L N n bs w0 w) (hm:n<=m):Dr rb c L N m bs w0 w:=⟨h.r.mono (by omega),h.ext,h.new⟩
theorem Dr.sub (h:Dr rb c L N n bs w0 w) (hs:∀x∈cs,x∈bs):Dr rb c L N n cs w0 w:=⟨h.r.sub hs,h.ext,fun x hm=>h.new x (hs x hm)⟩
theorem Dr.fin {m:Nat} (h:Dr rb c L N n bs w0 w) (hm:n<=m):J3 rb c L (N+m) w/\Q0 [rb] w0 w:=⟨(h.more hm).r.rd,h.ext⟩
theorem Dr.call {f:FuncId} {args:Array Value} {Q:Int->Prop} (h:Dr rb c L N n bs w0 w) (hs:∀x∈bs,x<w.heap.size) (hc:Cz f args w fun e w'=>∃v,e = .returned (.int .i64 v)/\Q v/\J3 rb c L (N+n+k) w'/\Q0 [rb] w w') :
  Cz f args w fun e w'=>∃v,e = .returned (.int .i64 v)/\Q9 bs w w'/\Q v/\Dr rb c L N (n+k) bs w0 w':=
 hc.mono fun e w' ⟨v,he,hq,hr,hx⟩=>⟨v,he,OD h.r hx hs,hq,⟨h.r.upd (by rw [<-Nat.add_assoc]; exact hr),h.ext.trans hx,h.new⟩⟩
theorem Dr.pick (h:Dr rb c L N n bs w0 w) (hN:N+n<=1000000000000) (hs:∀x∈bs,x<w.heap.size) {q:Int} :
  Cz Q1 #[.pointer (some ⟨rb,0,none⟩),.int .i64 q] w fun e w'=>∃v,e = .returned (.int .i64 v)/\Q9 bs w w'/\GE q v/\Dr rb c L N (n+1) bs w0 w':=h.call hs (Gd h.r.rd hN)
theorem Dr.weight (h:Dr rb c L N n bs w0 w) (hN:N+n<=900000000000) (hs:∀x∈bs,x<w.heap.size) :
  Cz Zu #[.pointer (some ⟨rb,0,none⟩)] w fun e w'=>∃v,e = .returned (.int .i64 v)/\Q9 bs w w'/\zs8 v/\Dr rb c L N (n+2) bs w0 w':=h.call hs (ze8 h.r.rd hN)
end
def zuw:Value->Bool
 | .int .i64 _=>true
 | _=>false
def zuy:Value->Bool
 | .string _=>true
 | _=>false
theorem zpo {v:Int} {k:Nat} {ls:List Value} {P:Int->Prop} (ha:ls.all zuw=true) (hl:ls.length=k) (h0:0<=v) (h1:v<(k:Int)) (h:∀x,P x):∃x:Int,(0<=v/\ls[Int.toNat v+0]? = some (.int .i64 x))/\P x:=by
 have hlt:Int.toNat v+0<ls.length:=by omega
 have:=List.all_eq_true.1 ha _ (List.getElem_mem hlt);have e:=List.getElem?_eq_getElem hlt;generalize ls[Int.toNat v+0]=y at this e;unfold zuw at this
 split at this
 ·exact ⟨_,⟨h0,e⟩,h _⟩
 ·cases this
theorem zuu {v:Int} {k:Nat} {ls:List Value} {P:ByteArray->Prop} (ha:ls.all zuy=true) (hl:ls.length=k) (h0:0<=v) (h1:v<(k:Int)) (h:∀x,P x):∃x:ByteArray,(0<=v/\ls[Int.toNat v+0]? = some (.string x))/\P x:=by
 have hlt:Int.toNat v+0<ls.length:=by omega
 have:=List.all_eq_true.1 ha _ (List.getElem_mem hlt);have e:=List.getElem?_eq_getElem hlt;generalize ls[Int.toNat v+0]=y at this e;unfold zuy at this
 split at this
 ·exact ⟨_,⟨h0,e⟩,h _⟩
 ·cases this
theorem zrr (x:Int):Ql .i64 (10 - ZU (zdf x 1) 20):=by
 have:1<=ZU (zdf x 1) 20/\ZU (zdf x 1) 20<=20:=by
  have h:1<=zdf x 1:=by unfold zdf; split <;> omega
  unfold ZU
  split <;> omega
 exact ⟨by omega,by omega⟩
section
variable {rb:Nat} {c:OA} {L N n:Nat} {bs:List Nat} {w0 w:World}
def zgo (_:Int):Prop:=True
theorem zsm (h:J3 rb c L N w) (hN:N<=900000000000) :
  Cz Yc #[.pointer (some ⟨rb,0,none⟩)] w fun e w'=>∃v,e = .returned (.int .i64 v)/\zgo v/\J3 rb c L (N+2) w'/\Q0 [rb] w w':=by
 refine (Hg (some ⟨rb,0,none⟩) (R:=fun v w'=>∃x,v = .int .i64 x/\J3 rb c L (N+2) w'/\Q0 [rb] w w') ?_).mono fun e w' ⟨v,he,x,hv,h1⟩=>⟨x,by rw [he,hv],trivial,h1⟩
 have h0:=Dr.start h;intro wr hx hs;refine (Dr.pick (h0.step hx) (by omega) hs).mono ?_;rintro e w2 ⟨v,he,hk,_,h1⟩;refine ⟨_,he,hk,fun _ b hb wr1 hx1 hs1 => ?_,fun _ b hb wr1 hx1 hs1 => ?_⟩
 all_goals
  refine (Dr.pick (h1.put hx1 hb) (by omega) hs1).mono ?_;rintro e w3 ⟨u,he3,hk3,⟨u0,_,u2⟩,h2⟩;have u2:=u2 (by decide);refine ⟨_,he3,hk3,⟨by omega,by omega⟩,zpo (by decide) rfl (by omega) (by omega) fun x wr2 hx2=>⟨x,rfl,(h2.step hx2).fin (by omega)⟩⟩
theorem zqf (h:J3 rb c L N w) (hN:N<=900000000000) :
  Cz ZF #[.pointer (some ⟨rb,0,none⟩)] w fun e w'=>∃v,e = .returned (.int .i64 v)/\zgo v/\J3 rb c L (N+2) w'/\Q0 [rb] w w':=by
 refine (G2 (some ⟨rb,0,none⟩) (R:=fun v w'=>∃x,v = .int .i64 x/\J3 rb c L (N+2) w'/\Q0 [rb] w w') ?_).mono fun e w' ⟨v,he,x,hv,h1⟩=>⟨x,by rw [he,hv],trivial,h1⟩
 have h0:=Dr.start h;intro wr hx hs;refine (Dr.pick (h0.step hx) (by omega) hs).mono ?_;rintro e w2 ⟨v,he,hk,_,h1⟩;refine ⟨_,he,hk,fun _ b hb wr1 hx1 hs1 => ?_,fun _ b hb wr1 hx1 hs1 => ?_⟩
 all_goals
  refine (Dr.pick (h1.put hx1 hb) (by omega) hs1).mono ?_;rintro e w3 ⟨u,he3,hk3,⟨u0,_,u2⟩,h2⟩;have u2:=u2 (by decide);refine ⟨_,he3,hk3,⟨by omega,by omega⟩,zpo (by decide) rfl (by omega) (by omega) fun x wr2 hx2=>⟨x,rfl,(h2.step hx2).fin (by omega)⟩⟩
theorem zun (h:J3 rb c L N w) (hN:N<=900000000000) :
  Cz Ok #[.pointer (some ⟨rb,0,none⟩)] w fun e w'=>∃v,e = .returned (.int .i64 v)/\zgo v/\J3 rb c L (N+2) w'/\Q0 [rb] w w':=by
 refine (Hj (some ⟨rb,0,none⟩) (R:=fun v w'=>∃x,v = .int .i64 x/\J3 rb c L (N+2) w'/\Q0 [rb] w w') ?_).mono fun e w' ⟨v,he,x,hv,h1⟩=>⟨x,by rw [he,hv],trivial,h1⟩
 have h0:=Dr.start h;intro wr hx hs;refine (Dr.pick (h0.step hx) (by omega) hs).mono ?_;rintro e w2 ⟨v,he,hk,_,h1⟩;refine ⟨_,he,hk,fun _ b hb wr1 hx1 hs1 => ?_,fun _ wr1 hx1 hs1 => ?_⟩
 ·refine (Dr.pick (h1.put hx1 hb) (by omega) hs1).mono ?_;rintro e w3 ⟨u,he3,hk3,⟨u0,_,u2⟩,h2⟩;have u2:=u2 (by decide);refine ⟨_,he3,hk3,⟨by omega,by omega⟩,zpo (by decide) rfl (by omega) (by omega) fun x wr2 hx2=>⟨x,rfl,(h2.step hx2).fin (by omega)⟩⟩
 ·refine (Dr.pick (h1.step hx1) (by omega) hs1).mono ?_;rintro e w3 ⟨u,he3,hk3,_,h2⟩;exact ⟨_,he3,hk3,fun wr2 hx2=>⟨u,rfl,(h2.step hx2).fin (by omega)⟩⟩
theorem zqc (h:J3 rb c L N w) (hN:N<=900000000000) :
  Cz JY #[.pointer (some ⟨rb,0,none⟩)] w fun e w'=>∃v,e = .returned (.int .i64 v)/\zgo v/\J3 rb c L (N+2) w'/\Q0 [rb] w w':=by
 refine (G1 (some ⟨rb,0,none⟩) (R:=fun v w'=>∃x,v = .int .i64 x/\J3 rb c L (N+2) w'/\Q0 [rb] w w') ?_).mono fun e w' ⟨v,he,x,hv,h1⟩=>⟨x,by rw [he,hv],trivial,h1⟩
 have h0:=Dr.start h;intro wr hx hs;refine (Dr.pick (h0.step hx) (by omega) hs).mono ?_;rintro e w2 ⟨v,he,hk,_,h1⟩;refine ⟨_,he,hk,fun _ b hb wr1 hx1 hs1 => ?_,fun _ wr1 hx1 hs1 => ?_⟩
 ·refine (Dr.pick (h1.put hx1 hb) (by omega) hs1).mono ?_;rintro e w3 ⟨u,he3,hk3,⟨u0,_,u2⟩,h2⟩;have u2:=u2 (by decide);refine ⟨_,he3,hk3,⟨by omega,by omega⟩,zpo (by decide) rfl (by omega) (by omega) fun x wr2 hx2=>⟨x,rfl,(h2.step hx2).fin (by omega)⟩⟩
 ·refine (Dr.pick (h1.step hx1) (by omega) hs1).mono ?_;rintro e w3 ⟨u,he3,hk3,_,h2⟩;exact ⟨_,he3,hk3,fun wr2 hx2=>⟨u,rfl,(h2.step hx2).fin (by omega)⟩⟩
theorem zts (h:J3 rb c L N w) (hN:N<=900000000000) :
  Cz Vf #[.pointer (some ⟨rb,0,none⟩)] w fun e w'=>∃v,e = .returned (.int .i64 v)/\zgo v/\J3 rb c L (N+2) w'/\Q0 [rb] w w':=by
 refine (DE (some ⟨rb,0,none⟩) (R:=fun v w'=>∃x,v = .int .i64 x/\J3 rb c L (N+2) w'/\Q0 [rb] w w') ?_).mono fun e w' ⟨v,he,x,hv,h1⟩=>⟨x,by rw [he,hv],trivial,h1⟩
 have h0:=Dr.start h;intro wr hx hs;refine (Dr.pick (h0.step hx) (by omega) hs).mono ?_;rintro e w2 ⟨v,he,hk,⟨v0,_,v2⟩,h1⟩;have v2:=v2 (by decide);refine ⟨_,he,hk,fun wr1 hx1 hs1 => ?_⟩;refine (Dr.pick (h1.step hx1) (by omega) hs1).mono ?_;rintro e w3 ⟨u,he3,hk3,⟨u0,_,u2⟩,h2⟩;have u2:=u2 (by decide)
 have hd:0<=Int.tdiv u 19/\Int.tdiv u 19<=1:=by
  rw [Int.tdiv_eq_ediv_of_nonneg u0];omega
 exact ⟨_,he3,hk3,⟨by decide,⟨by omega,by omega⟩⟩,⟨by omega,by omega⟩,fun wr2 hx2=>⟨_,rfl,(h2.step hx2).fin (by omega)⟩⟩
theorem Dr.mask (h:Dr rb c L N n bs w0 w) (hN:N+n<=900000000000) (hs:∀x∈bs,x<w.heap.size) :
  Cz Yc #[.pointer (some ⟨rb,0,none⟩)] w fun e w'=>∃v,e = .returned (.int .i64 v)/\Q9 bs w w'/\zgo v/\Dr rb c L N (n+2) bs w0 w':=h.call hs (zsm h.r.rd hN)
theorem Dr.units (h:Dr rb c L N n bs w0 w) (hN:N+n<=900000000000) (hs:∀x∈bs,x<w.heap.size) :
  Cz ZF #[.pointer (some ⟨rb,0,none⟩)] w fun e w'=>∃v,e = .returned (.int .i64 v)/\Q9 bs w w'/\zgo v/\Dr rb c L N (n+2) bs w0 w':=h.call hs (zqf h.r.rd hN)
end
theorem XK.w {W:Q8} (iv:XK W):Qz W=true:=Qi.2 iv.wp
theorem XK.len {W:Q8} (iv:XK W):X7 W:=zqh iv.wp.a
theorem zpy {W W':Q8} {bar:Int} (iv:XK W) (hb:bar=0->XK W'):XK (Xn W bar W').1:=by
 unfold Xn;rw [if_neg (by rw [iv.w]; decide)];split
 ·exact iv
 ·rename_i e;exact hb (by simpa using e)
theorem zm3 {W W':Q8} {bar a:Int} (iv:XK W) (hb:bar=0->XK W'):XK (O7 W bar W' a).1:=by
 unfold O7;rw [if_neg (by rw [iv.w]; decide)];split
 ·exact iv
 ·rename_i e;exact hb (by simpa using e)
section
variable {f:FuncId} {args:Array Value} {W W':Q8} {bar a:Int} {m:MW} {w:World}
theorem JS (iv:XK W) (hc:Cz f args w fun e w'=>∃v,e = .returned v/\QD (Xn W bar W') w v w') (hb:bar=0->XK W') :
  Cz f args w fun e w'=>∃(V:Q8) (m':MW) (d:Int),e = .returned (.tuple #[.agg (Qa V m').toArray,.int .i64 d])/\XK V/\Yj 8 w.heap.size w' V m'/\Q0 [] w w':=
 hc.mono fun e w' ⟨v,he,n,m',hv,hM,hx⟩=>by
  have hi:=zpy iv hb;have hn:n=8:=hM.len.symm.trans hi.wp.a.gl;subst hn;exact ⟨_,m',_,by rw [he,hv],hi,hM,hx⟩
theorem Bs (iv:XK W) (hc:Cz f args w fun e w'=>∃v,e = .returned v/\Tu (O7 W bar W' a) w v w') (hb:bar=0->XK W') :
  Cz f args w fun e w'=>∃(V:Q8) (m':MW) (q d:Int),e = .returned (.tuple #[.agg (Qa V m').toArray,.int .i64 q,.int .i64 d])/\XK V/\Yj 8 w.heap.size w' V m'/\Q0 [] w w':=
 hc.mono fun e w' ⟨v,he,n,m',hv,hM,hx⟩=>by
  have hi:=zm3 (a:=a) iv hb;have hn:n=8:=hM.len.symm.trans hi.wp.a.gl;subst hn;exact ⟨_,m',_,_,by rw [he,hv],hi,hM,hx⟩
def zuh (w:World) (v:Value) (w':World):Prop:=∃(V:Q8) (m':MW) (d:Int),v = .tuple #[.agg (Qa V m').toArray,.int .i64 d]/\XK V/\Yj 8 w.heap.size w' V m'/\Q0 [] w w'
theorem XL {bs:List Nat} {w0 w2 w3:World} {d:Int} (s:Sc w0 bs w) (hs:∀x∈bs,x<w.heap.size) (hi:XK W') {m':MW} (hM:Yj 8 w.heap.size w2 W' m') (hy:Q0 [] w w2) (hx:Q0 bs w2 w3):zuh w0 (.tuple #[.agg (Qa W' m').toArray,.int .i64 d]) w3:=
 ⟨W',m',d,rfl,hi,(((OW.of hM hs).step hx).own).mono s.ext.size,((s.call0 hy).step hx).ext⟩
theorem zsh {c:Int} (iv:XK W) (h:AW W c=0):XK (endW W c):=by
 obtain ⟨c0,c1⟩:=Uc (zs6 h).1;exact zks iv c0 c1
set_option maxHeartbeats 4000000 in
theorem zku {k a n q:Int} {s:ByteArray} (h:Xa [] w W m) (iv:XK W) :
  Cz Ud #[.agg (Qa W m).toArray,.agg #[.int .i64 k,.int .i64 a,.int .i64 n,.int .i64 q,.string s]] w fun e w'=>∃v,e = .returned v/\zuh w v w':=by
 refine Nm W.now m.cO W.cpus.length m.cC m.tO W.tasks.length m.tC m.gO W.groups.length m.gC k a n q s (R:=fun v w'=>zuh w v w') ?_;intro b hb b1 hb1 b2 hb2;have hl:=iv.len;have hW:=iv.w;have s0:Sc w ([b]++[b1]++[b2]) w:=(((Sc.start w).add hb).add hb1).add hb2;have hS:∀{wr:World},Q0 [] w wr->Sc w [b,b1,b2] wr:=fun hx=>s0.call0 hx
 refine ⟨fun _ wr hx hs => ?_,fun _=>⟨fun _ wr hx hs => ?_,fun _=>⟨fun _ wr hx hs => ?_,fun _=>⟨fun _ wr hx hs => ?_,fun _=>⟨fun _ wr hx hs => ?_,fun _=>⟨fun _ wr hx hs => ?_,fun _=>⟨fun _ wr hx hs => ?_,fun _=>⟨fun _ wr hx hs => ?_,fun _=>⟨fun _ wr hx hs => ?_,fun _=>⟨fun _ wr hx hs => ?_,fun _=>⟨fun _ wr hx hs => ?_,fun _=>⟨fun _ wr hx hs => ?_,fun _=>⟨fun _ wr hx hs => ?_,fun _=>⟨fun _ wr hx hs => ?_,fun _=>⟨fun _ wr hx hs => ?_,fun _=>⟨fun _ wr hx hs => ?_,fun _=>⟨fun _ wr hx hs => ?_,fun _=>⟨fun _ wr hx hs => ?_,fun _=>⟨_,X0 h hl.c hl.t hl.g hl.f,fun g => ?_,fun _ wr hx hs => ?_⟩⟩⟩⟩⟩⟩⟩⟩⟩⟩⟩⟩⟩⟩⟩⟩⟩⟩⟩
 case refine_19=>rw [hW] at g; cases g
 case refine_20=>
  refine (O0 (h.ext hx) iv.wp.a).mono ?_;rintro e wv ⟨m',he,hM,hy⟩;exact ⟨_,_,_,_,_,_,_,_,_,_,he,Qf hy hs,fun wr2 hx2=>XL (hS hx) hs iv hM hy hx2⟩
 case refine_3=>
  refine (Bs iv (Ml (h.ext hx) hl) (ze5 hW)).mono ?_;rintro e wv ⟨V,m',q1,d,he,hi,hM,hy⟩;exact ⟨_,_,_,_,_,_,_,_,_,_,_,_,he,Qf hy hs,fun wr2 hx2=>XL (hS hx) hs hi hM hy hx2⟩
 case refine_10=>
  refine (Bs iv (Px (h.ext hx) hl) fun hb=>zm5 iv (zhj hb).1).mono ?_;rintro e wv ⟨V,m',q1,d,he,hi,hM,hy⟩;exact ⟨_,_,_,_,_,_,_,_,_,_,_,_,he,Qf hy hs,fun wr2 hx2=>XL (hS hx) hs hi hM hy hx2⟩
 case refine_1=>exact (JS iv (FY (h.ext hx) hl) (zp7 iv)).mono fun e wv ⟨V,m',d,he,hi,hM,hy⟩=>⟨_,_,_,_,_,_,_,_,_,_,_,he,Qf hy hs,fun wr2 hx2=>XL (hS hx) hs hi hM hy hx2⟩
 case refine_2=>exact (JS iv (Hw (h.ext hx) hl) (zsh iv)).mono fun e wv ⟨V,m',d,he,hi,hM,hy⟩=>⟨_,_,_,_,_,_,_,_,_,_,_,he,Qf hy hs,fun wr2 hx2=>XL (hS hx) hs hi hM hy hx2⟩
 case refine_4=>exact (JS iv (DU (h.ext hx) hl) (zkr hW)).mono fun e wv ⟨V,m',d,he,hi,hM,hy⟩=>⟨_,_,_,_,_,_,_,_,_,_,_,he,Qf hy hs,fun wr2 hx2=>XL (hS hx) hs hi hM hy hx2⟩
 case refine_5=>exact (JS iv (FV (h.ext hx) hl) (zm8 hW)).mono fun e wv ⟨V,m',d,he,hi,hM,hy⟩=>⟨_,_,_,_,_,_,_,_,_,_,_,he,Qf hy hs,fun wr2 hx2=>XL (hS hx) hs hi hM hy hx2⟩
 case refine_6=>exact (JS iv (FSx (h.ext hx) hl) (zm4 hW)).mono fun e wv ⟨V,m',d,he,hi,hM,hy⟩=>⟨_,_,_,_,_,_,_,_,_,_,_,he,Qf hy hs,fun wr2 hx2=>XL (hS hx) hs hi hM hy hx2⟩
 case refine_7=>exact (JS iv (FU (h.ext hx) hl) (zm6 hW)).mono fun e wv ⟨V,m',d,he,hi,hM,hy⟩=>⟨_,_,_,_,_,_,_,_,_,_,_,he,Qf hy hs,fun wr2 hx2=>XL (hS hx) hs hi hM hy hx2⟩
 case refine_8=>exact (JS iv (NV (h.ext hx) hl) (zp6 hW)).mono fun e wv ⟨V,m',d,he,hi,hM,hy⟩=>⟨_,_,_,_,_,_,_,_,_,_,_,he,Qf hy hs,fun wr2 hx2=>XL (hS hx) hs hi hM hy hx2⟩
 case refine_9=>exact (JS iv (FT (h.ext hx) hl) (zp3 iv)).mono fun e wv ⟨V,m',d,he,hi,hM,hy⟩=>⟨_,_,_,_,_,_,_,_,_,_,_,he,Qf hy hs,fun wr2 hx2=>XL (hS hx) hs hi hM hy hx2⟩
 case refine_11=>exact (JS iv (DS (h.ext hx) hl) fun hb=>zp0 iv (zr9 hb).1).mono fun e wv ⟨V,m',d,he,hi,hM,hy⟩=>⟨_,_,_,_,_,_,_,_,_,_,_,he,Qf hy hs,fun wr2 hx2=>XL (hS hx) hs hi hM hy hx2⟩
 case refine_12=>exact (JS iv (Hv (h.ext hx) hl) (zp8 hW)).mono fun e wv ⟨V,m',d,he,hi,hM,hy⟩=>⟨_,_,_,_,_,_,_,_,_,_,_,he,Qf hy hs,fun wr2 hx2=>XL (hS hx) hs hi hM hy hx2⟩
 case refine_13=>exact (JS iv (FR (h.ext hx) hl) (zp1 hW)).mono fun e wv ⟨V,m',d,he,hi,hM,hy⟩=>⟨_,_,_,_,_,_,_,_,_,_,_,he,Qf hy hs,fun wr2 hx2=>XL (hS hx) hs hi hM hy hx2⟩
 case refine_14=>exact (JS iv (Ht (h.ext hx) hl) (zp2 hW)).mono fun e wv ⟨V,m',d,he,hi,hM,hy⟩=>⟨_,_,_,_,_,_,_,_,_,_,_,he,Qf hy hs,fun wr2 hx2=>XL (hS hx) hs hi hM hy hx2⟩
 case refine_15=>exact (JS iv (FW (h.ext hx) hl) (zm7 hW)).mono fun e wv ⟨V,m',d,he,hi,hM,hy⟩=>⟨_,_,_,_,_,_,_,_,_,_,_,he,Qf hy hs,fun wr2 hx2=>XL (hS hx) hs hi hM hy hx2⟩
 case refine_16=>exact (JS iv (Hr (h.ext hx) hl) (zpz hW)).mono fun e wv ⟨V,m',d,he,hi,hM,hy⟩=>⟨_,_,_,_,_,_,_,_,_,_,_,he,Qf hy hs,fun wr2 hx2=>XL (hS hx) hs hi hM hy hx2⟩
 case refine_17=>exact (JS iv (CU (h.ext hx) hl) (zp5 hW)).mono fun e wv ⟨V,m',d,he,hi,hM,hy⟩=>⟨_,_,_,_,_,_,_,_,_,_,_,he,Qf hy hs,fun wr2 hx2=>XL (hS hx) hs hi hM hy hx2⟩
 case refine_18=>exact (JS iv (zda (h.ext hx) hl) (zsg hW)).mono fun e wv ⟨V,m',d,he,hi,hM,hy⟩=>⟨_,_,_,_,_,_,_,_,_,_,_,he,Qf hy hs,fun wr2 hx2=>XL (hS hx) hs hi hM hy hx2⟩
end
set_option maxHeartbeats 8000000 in
theorem zsk {rb:Nat} {c:OA} {L N:Nat} {w:World} {W:Q8} {m:MW} (h:J3 rb c L N w) (hN:N<=800000000000) :
  Cz XP #[.pointer (some ⟨rb,0,none⟩),.agg (Qa W m).toArray] w fun e w'=>∃(k a n q:Int) (s:ByteArray),e = .returned (.agg #[.int .i64 k,.int .i64 a,.int .i64 n,.int .i64 q,.string s])/\J3 rb c L (N+20) w'/\Q0 [rb] w w':=by
 refine (Hf (some ⟨rb,0,none⟩) W.now m.cO W.cpus.length m.cC m.tO W.tasks.length m.tC m.gO W.groups.length m.gC (R:=fun v w'=>∃(k a n q:Int) (s:ByteArray),v = .agg #[.int .i64 k,.int .i64 a,.int .i64 n,.int .i64 q,.string s]/\J3 rb c L (N+20) w'/\Q0 [rb] w w') ?_).mono fun e w' ⟨v,he,k,a,n,q,s,hv,h1⟩=>⟨k,a,n,q,s,by rw [he,hv],h1⟩
 intro b hb b1 hb1;refine ⟨_,Vl,fun wr hx hs => ?_⟩;refine (Dr.pick ((Dr.start h).put2 hx hb hb1) (by omega) hs).mono ?_;rintro e w1 ⟨v1,he,hk,_,h1⟩;refine ⟨_,he,hk,fun wr hx hs => ?_⟩;refine (Dr.pick (h1.step hx) (by omega) hs).mono ?_;rintro e w2 ⟨v2,he,hk,_,h2⟩;refine ⟨_,he,hk,fun vs bs w2=>bs=[]/\(∃x:Int,vs=[.int .i64 x])/\Dr rb c L N 4 [b,b1] w w2,fun wr hx hs => ?_,?_⟩
 ·refine (Dr.pick (h2.step hx) (by omega) hs).mono ?_;rintro e w3 ⟨v3,he,hk,_,h3⟩;refine ⟨_,he,hk,fun _ wr hx hs => ?_,fun _ wr hx hs=>⟨rfl,⟨_,rfl⟩,(h3.step hx).more (by decide)⟩⟩;refine (Dr.pick (h3.step hx) (by omega) hs).mono ?_;rintro e w4 ⟨v4,he,hk,_,h4⟩;exact ⟨_,he,hk,fun wr hx _=>⟨rfl,⟨_,rfl⟩,(h4.step hx).more (by decide)⟩⟩
 clear h1 h2;rintro t wv4 hs4 ⟨-,-,h4⟩ wr hx hs;refine (Dr.pick (h4.step hx) (by omega) hs).mono ?_;rintro e w5 ⟨v5,he,hk,⟨p50,_,p52⟩,h5⟩;have p52:=p52 (by decide);refine ⟨_,he,hk,fun wr hx hs => ?_⟩;refine (Dr.pick (h5.step hx) (by omega) hs).mono ?_;rintro e w6 ⟨v6,he,hk,_,h6⟩;clear h4 h5;refine ⟨_,he,hk,fun _ => ?_,fun _ wr hx hs => ?_⟩
 rotate_left
 ·refine (Dr.pick (h6.step hx) (by omega) hs).mono ?_;rintro e w7 ⟨v7,he,hk,_,h7⟩;clear h6;refine ⟨_,he,hk,?_⟩;clear he hk hx hs hs4
  repeat' first
   | exact rfl
   | exact zrr _
   | (refine ⟨_,Vl,?_⟩)
   | (refine ⟨_,XS,?_⟩)
   | (refine ⟨fun _ bs w2=>bs=[]/\Dr rb c L N 7 [b,b1] w w2,?_,?_⟩)
   | (refine And.intro ?_ ?_)
   | (refine zpo (by decide) rfl (by omega) (by omega) fun x => ?_)
   | (refine zuu (by decide) rfl (by omega) (by omega) fun x => ?_)
   | (intro (x:Bool) (wv:World) hs hm; obtain ⟨_,hD⟩:=hm)
   | (intro (b:Nat) hb)
   | (intro (wr:World) hx hs; refine (Dr.pick (Dr.step (by assumption) hx) ?_ hs).mono ?_; rotate_left; rintro e w2 ⟨v,he,hk,⟨hp0,_,hp2⟩,hC⟩; have hp2:=hp2 (by decide); refine ⟨_,he,hk,?_⟩)
   | (intro (wr:World) hx hs; refine (Dr.pick (Dr.put (by assumption) hx (by assumption)) ?_ hs).mono ?_; rotate_left; rintro e w2 ⟨v,he,hk,⟨hp0,_,hp2⟩,hC⟩; have hp2:=hp2 (by decide); refine ⟨_,he,hk,?_⟩)
   | (intro (wr:World) hx hs; refine (Dr.pick (Dr.put2 (by assumption) hx (by assumption) (by assumption)) ?_ hs).mono ?_; rotate_left; rintro e w2 ⟨v,he,hk,⟨hp0,_,hp2⟩,hC⟩; have hp2:=hp2 (by decide); refine ⟨_,he,hk,?_⟩)
   | (intro (wr:World) hx hs; refine (Dr.weight (Dr.step (by assumption) hx) ?_ hs).mono ?_; rotate_left; rintro e w2 ⟨v,he,hk,⟨hp0,hp2⟩,hC⟩; refine ⟨_,he,hk,?_⟩)
   | (intro (wr:World) hx hs; refine (Dr.mask (Dr.step (by assumption) hx) ?_ hs).mono ?_; rotate_left; rintro e w2 ⟨v,he,hk,_,hC⟩; refine ⟨_,he,hk,?_⟩)
   | (intro (wr:World) hx hs; refine (Dr.units (Dr.step (by assumption) hx) ?_ hs).mono ?_; rotate_left; rintro e w2 ⟨v,he,hk,_,hC⟩; refine ⟨_,he,hk,?_⟩)
   | (intro (wr:World) hx hs; exact ⟨rfl,Dr.step (by assumption) hx⟩)
   | (intro (wr:World) hx; exact ⟨_,_,_,_,_,rfl,(Dr.step (by assumption) hx).fin (by decide)⟩)
   | (intro (hh:_=true))
   | (intro (hh:_=false))
   | omega
   | decide
 ·repeat' first
   | exact rfl
   | (refine And.intro ?_ ?_)
   | (refine zpo (by decide) rfl (by omega) (by omega) fun x => ?_)
   | (intro (b:Nat) hb)
   | (intro (wr:World) hx hs; refine (Dr.pick (Dr.step (by assumption) hx) ?_ hs).mono ?_; rotate_left; rintro e w2 ⟨v,he,hk,⟨hp0,_,hp2⟩,hC⟩; have hp2:=hp2 (by decide); refine ⟨_,he,hk,?_⟩)
   | (intro (wr:World) hx hs; refine (Dr.pick (Dr.put (by assumption) hx (by assumption)) ?_ hs).mono ?_; rotate_left; rintro e w2 ⟨v,he,hk,⟨hp0,_,hp2⟩,hC⟩; have hp2:=hp2 (by decide); refine ⟨_,he,hk,?_⟩)
   | (intro (wr:World) hx; exact ⟨_,_,_,_,_,rfl,(Dr.step (by assumption) hx).fin (by decide)⟩)
   | omega
def zux (lo hi:Int):Value->Bool
 | .int .i64 x=>decide (lo<=x)&&decide (x<=hi)
 | _=>false
theorem zu3 {lo hi v:Int} {k:Nat} {ls:List Value} {P:Int->Prop} (ha:ls.all (zux lo hi)=true) (hl:ls.length=k) (h0:0<=v) (h1:v<(k:Int)) (h:∀x,lo<=x->x<=hi->P x):∃x:Int,(0<=v/\ls[Int.toNat v+0]? = some (.int .i64 x))/\P x:=by
 have hlt:Int.toNat v+0<ls.length:=by omega
 have:=List.all_eq_true.1 ha _ (List.getElem_mem hlt);have e:=List.getElem?_eq_getElem hlt;generalize ls[Int.toNat v+0]=y at this e;unfold zux at this
 split at this
 ·rw [Bool.and_eq_true,decide_eq_true_eq,decide_eq_true_eq] at this;exact ⟨_,⟨h0,e⟩,h _ this.1 this.2⟩
 ·cases this
structure Xp (rb:Nat) (c:OA) (L N n:Nat) (bs:List Nat) (w0 w:World) (W:Q8) (m:MW):Prop where
 iv:XK W
 d:Dr rb c L N n bs w0 w
 o:OW 8 w0.heap.size (rb::bs) w W m
section
variable {rb b b2:Nat} {c:OA} {L N n k:Nat} {bs cs:List Nat} {w0 w w':World} {W W':Q8} {m m':MW}
theorem Xp.step (h:Xp rb c L N n bs w0 w W m) (hx:Q0 bs w w'):Xp rb c L N n bs w0 w' W m:=⟨h.iv,h.d.step hx,h.o.step (hx.mono fun _ hm=>List.mem_cons_of_mem _ hm)⟩
theorem Xp.put (h:Xp rb c L N n bs w0 w W m) (hx:Q0 bs w w') (hb:w.heap.size<=b):Xp rb c L N n (bs++[b]) w0 w' W m:=⟨h.iv,h.d.put hx hb,h.o.put (hx.mono fun _ hm=>List.mem_cons_of_mem _ hm) hb⟩
theorem Xp.put2 (h:Xp rb c L N n bs w0 w W m) (hx:Q0 bs w w') (hb:w.heap.size<=b) (hb2:w.heap.size<=b2):Xp rb c L N n (bs++[b]++[b2]) w0 w' W m:=⟨h.iv,h.d.put2 hx hb hb2,h.o.put2 (hx.mono fun _ hm=>List.mem_cons_of_mem _ hm) hb hb2⟩
theorem Xp.sub (h:Xp rb c L N n bs w0 w W m) (hs:∀x∈cs,x∈bs):Xp rb c L N n cs w0 w W m:=⟨h.iv,h.d.sub hs,h.o.sub fun x hx=>by
 rcases List.mem_cons.1 hx with h1 | h1
 ·rw [h1]; exact List.mem_cons_self
 ·exact List.mem_cons_of_mem _ (hs x h1)⟩
theorem Xp.more {q:Nat} (h:Xp rb c L N n bs w0 w W m) (hm:n<=q):Xp rb c L N q bs w0 w W m:=⟨h.iv,h.d.more hm,h.o⟩
theorem Xp.rd (h:Xp rb c L N n bs w0 w W m):Xa [] w W m:=h.o.rd0
theorem Xp.drawn (h:Xp rb c L N n bs w0 w W m) (hr:J3 rb c L (N+n+k) w') (hx:Q0 [rb] w w'):Xp rb c L N (n+k) bs w0 w' W m:=
 ⟨h.iv,⟨h.d.r.upd (by rw [<-Nat.add_assoc]; exact hr),h.d.ext.trans hx,h.d.new⟩,h.o.step (hx.mono fun x hm=>by
  have:x=rb:=by simpa using hm
  subst this; exact List.mem_cons_self)⟩
theorem Xp.call {f:FuncId} {args:Array Value} {Q:Int->Prop} (h:Xp rb c L N n bs w0 w W m) (hs:∀x∈bs,x<w.heap.size) (hc:Cz f args w fun e w'=>∃v,e = .returned (.int .i64 v)/\Q v/\J3 rb c L (N+n+k) w'/\Q0 [rb] w w') :
  Cz f args w fun e w'=>∃v,e = .returned (.int .i64 v)/\Q9 bs w w'/\Q v/\Xp rb c L N (n+k) bs w0 w' W m:=
 hc.mono fun e w' ⟨v,he,hq,hr,hx⟩=>⟨v,he,OD h.d.r hx hs,hq,h.drawn hr hx⟩
theorem Xp.pick (h:Xp rb c L N n bs w0 w W m) (hN:N+n<=1000000000000) (hs:∀x∈bs,x<w.heap.size) {q:Int} :
  Cz Q1 #[.pointer (some ⟨rb,0,none⟩),.int .i64 q] w fun e w'=>∃v,e = .returned (.int .i64 v)/\Q9 bs w w'/\GE q v/\Xp rb c L N (n+1) bs w0 w' W m:=h.call hs (Gd h.d.r.rd hN)
theorem Xp.weight (h:Xp rb c L N n bs w0 w W m) (hN:N+n<=900000000000) (hs:∀x∈bs,x<w.heap.size) :
  Cz Zu #[.pointer (some ⟨rb,0,none⟩)] w fun e w'=>∃v,e = .returned (.int .i64 v)/\Q9 bs w w'/\zs8 v/\Xp rb c L N (n+2) bs w0 w' W m:=h.call hs (ze8 h.d.r.rd hN)
theorem Xp.item (h:Xp rb c L N n bs w0 w W m) (hN:N+n<=800000000000) (hs:∀x∈bs,x<w.heap.size) {V:Q8} {p:MW} :
  Cz XP #[.pointer (some ⟨rb,0,none⟩),.agg (Qa V p).toArray] w fun e w'=>∃(k a q r:Int) (s:ByteArray),e = .returned (.agg #[.int .i64 k,.int .i64 a,.int .i64 q,.int .i64 r,.string s])/\Q9 bs w w'/\Xp rb c L N (n+20) bs w0 w' W m:=
 (zsk h.d.r.rd hN).mono fun e w' ⟨k,a,q,r,s,he,hr,hx⟩=>⟨k,a,q,r,s,he,OD h.d.r hx hs,h.drawn hr hx⟩
theorem Xp.bsl (h:Xp rb c L N n bs w0 w W m) (hs:∀x∈bs,x<w.heap.size):∀x∈rb::bs,x<w.heap.size:=fun x hm=>by
 rcases List.mem_cons.1 hm with h1 | h1
 ·rw [h1]; exact h.d.r.rd.lt
 ·exact hs x h1
theorem Xp.deed (h:Xp rb c L N n bs w0 w W m) (hs:∀x∈bs,x<w.heap.size) (hi:XK W') (hM:Yj 8 w.heap.size w' W' m') (hx:Q0 [] w w'):Xp rb c L N n bs w0 w' W' m':=
 ⟨hi,⟨h.d.r.call0 hx,h.d.ext.trans hx.of_nil,h.d.new⟩,(OW.of hM (h.bsl hs)).mono h.d.ext.size⟩
theorem Xp.mak {p:Int} {name:ByteArray} (h:Xp rb c L N n bs w0 w W m) (hs:∀x∈bs,x<w.heap.size) :
  Cz Qt #[.agg (Qa W m).toArray,.int .i64 p,.string name] w fun e w'=>∃(W':Q8) (m':MW) (a d:Int),e = .returned (.tuple #[.agg (Qa W' m').toArray,.int .i64 a,.int .i64 d])/\Q9 bs w w'/\Xp rb c L N n bs w0 w' W' m':=
 (Bs h.iv (Px h.rd h.iv.len) fun hb=>zm5 h.iv (zhj hb).1).mono fun e w' ⟨V,m',a,d,he,hi,hM,hx⟩=>⟨V,m',a,d,he,Qf hx hs,h.deed hs hi hM hx⟩
theorem Xp.fork {g q x:Int} (h:Xp rb c L N n bs w0 w W m) (hs:∀x∈bs,x<w.heap.size) :
  Cz YR #[.agg (Qa W m).toArray,.int .i64 g,.int .i64 q,.int .i64 x] w fun e w'=>∃(W':Q8) (m':MW) (a d:Int),e = .returned (.tuple #[.agg (Qa W' m').toArray,.int .i64 a,.int .i64 d])/\Q9 bs w w'/\Xp rb c L N n bs w0 w' W' m':=
 (Bs h.iv (Ml h.rd h.iv.len) (ze5 h.iv.w)).mono fun e w' ⟨V,m',a,d,he,hi,hM,hx⟩=>⟨V,m',a,d,he,Qf hx hs,h.deed hs hi hM hx⟩
theorem Xp.do {k a q r:Int} {s:ByteArray} (h:Xp rb c L N n bs w0 w W m) (hs:∀x∈bs,x<w.heap.size) :
  Cz Ud #[.agg (Qa W m).toArray,.agg #[.int .i64 k,.int .i64 a,.int .i64 q,.int .i64 r,.string s]] w fun e w'=>∃(W':Q8) (m':MW) (d:Int),e = .returned (.tuple #[.agg (Qa W' m').toArray,.int .i64 d])/\Q9 bs w w'/\Xp rb c L N n bs w0 w' W' m':=
 (zku h.rd h.iv).mono fun e w' ⟨v,he,V,m',d,hv,hi,hM,hx⟩=>⟨V,m',d,by rw [he,hv],Qf hx hs,h.deed hs hi hM hx⟩
theorem Xp.fin {q:Nat} (h:Xp rb c L N n bs w0 w W m) (hq:n<=q):XK W/\Yj 8 w0.heap.size w W m/\J3 rb c L (N+q) w/\Q0 [rb] w0 w/\∀x∈QL 8 m,x≠rb:=⟨h.iv,h.o.own,(h.d.fin hq).1,h.d.ext,fun x hx e=>h.o.nb x hx (by rw [e]; exact List.mem_cons_self)⟩
end
end Go.Proofs.YtclpmgfpjeaibaaGreat
