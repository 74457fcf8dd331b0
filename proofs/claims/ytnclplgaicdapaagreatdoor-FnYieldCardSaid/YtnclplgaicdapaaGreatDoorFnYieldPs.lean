/- Part 19 of what the law FnYield needs: the engine, the functions' propositions, the contracts. -/
import Derived.Test.YtnclplgaicdapaaGreatDoorFnYieldPr
namespace Go.Proofs.YtnclplgaicdapaaGreatDoor
open Go.RowKit
set_option linter.unusedVariables false
set_option linter.unusedSimpArgs false
set_option maxRecDepth 10000
set_option maxHeartbeats 8000000
theorem zim{Q:Nat->Prop}(h:∃f,Q f):∃f,Q f/\∀g,Q g->f<=g:=by
 obtain⟨f,hf⟩:=h
 induction f using Nat.strongRecOn with
 | ind f ih=>
  by_cases h:∃g,g<f/\Q g
  ·obtain⟨g,hg,hq⟩:=h;exact ih g hg hq
  ·exact⟨f,hf,fun g hq=>Nat.le_of_not_lt fun hlt=>h ⟨g,hlt,hq⟩⟩
open Classical in
noncomputable def zil(Q:Nat->Prop):Nat:=if h:∃f,Q f then (zim h).choose else 0
theorem zmg{Q:Nat->Prop}(h:∃f,Q f):Q (zil Q):=by
 unfold zil;rw[dif_pos h];exact(zim h).choose_spec.1
theorem zr6{Q:Nat->Prop}{f:Nat}(h:Q f):zil Q<=f:=by
 unfold zil;rw[dif_pos ⟨f,h⟩];exact(zim ⟨f,h⟩).choose_spec.2 f h
noncomputable def HW(W:Q7)(c n:Int):Int:=if Yo n 1 100=false\/YJ W c=false then 1 else if (gi W.cpus c).up=false then 6 else if QK W=false then 10 else 0
def zmv(W:Q7)(c n:Int):Q7:=AV c 400 W n
theorem zgv{c:Int}{f:Nat}{W:Q7}{left:Int}(h:left<=0):AV c (f+1) W left=Qg W:=by
 rw[AV,if_pos h]
theorem zb9{c:Int}{f:Nat}{W:Q7}{left:Int}(h:¬left<=0)(hp:Qm W c<0):AV c (f+1) W left=Qg (endW (setCp W c (Ki W c left)) c):=by
 rw[AV,if_neg h,if_pos hp]
theorem zca{c:Int}{f:Nat}{W:Q7}{left:Int}(h:¬left<=0)(hp:¬Qm W c<0):AV c (f+1) W left=AV c f (HV W c left).1 (HV W c left).2:=by
 rw[AV,if_neg h,if_neg hp]
theorem zpx{W:Q7}{c n:Int}(hW:Qv W=true)(hb:HW W c n=0):Yo n 1 100=true/\YJ W c=true/\(gi W.cpus c).up=true/\QK W=true/\Ci 400 c W W n:=by
 unfold HW at hb
 split at hb
 ·cases hb
 ·rename_i h1
  split at hb
  ·cases hb
  ·rename_i h2
   split at hb
   ·cases hb
   ·rename_i h3
    have h1a:Yo n 1 100=true:=by
     cases h:Yo n 1 100 with
     | true=>rfl
     | false=>exact absurd (.inl h) h1
    have h1b:YJ W c=true:=by
     cases h:YJ W c with
     | true=>rfl
     | false=>exact absurd (.inr h) h1
    have h2:(gi W.cpus c).up=true:=by simpa using h2
    have h3:QK W=true:=by simpa using h3
    obtain⟨c0,c1⟩:=JG h1b;have:=Qo.1 h1a;exact⟨h1a,h1b,h2,h3,zi5 (Qh.1 hW) (Qh.1 h3) c0 c1 h2 (by omega) (by omega)⟩
theorem zpv{f:Nat}{c left:Int}{W0 W:Q7}(h:Ci f c W0 W left):∃g,f=g+1:=by
 have h1:=h.f1;have h2:=h.l0;exact⟨f-1,by omega⟩
theorem zol{f:Nat}{c left:Int}{W0 W:Q7}(h:Ci f c W0 W left):SW (HX f) (endW (setCp W c (Ki W c left)) c)/\SW (HX f) (setCp W c (Ki W c left))/\0<=(gi W.cpus c).idle+left/\(gi W.cpus c).idle+left<=60000000000000000:=by
 have c0:=h.c0;have c1:=h.c1;have hcu:=h.sw.cu c c0 c1;have hl0:=h.l0;have hl1:=h.l1;have hr:=h.rb.c c c0 c1;have s1:SW (HX f) (setCp W c (Ki W c left)):=h.sw.setCp c0 c1 (EL (c:=c) (by rw[List.length_set]; exact h.sw.a.c2) c0 (by rw[List.length_set]; exact c1) (by rw[show gi (W.cpus.set c.toNat (Ki W c left)) c=Ki W c left from (Qw _ _ c0 c1 c0).trans (if_pos rfl)]; exact h.up)) hcu.1 hcu.2;exact⟨s1.endW c0 (by show c<((W.cpus.set c.toNat (Ki W c left)).length:Int); rw[List.length_set]; exact c1),s1,by omega,by omega⟩
section
variable {W:Q7}{m:MW}{w:Wo}
def zli(y y1:Nat)(w0:Wo)(c n:Int)(W:Q7)(f:Nat)(vs:List Va)(w2:Wo):Prop:=
 ∃(V:Q7) (m2:MW) (left:Int),vs=.int .i64 left::Qa V m2/\Wk 8 [y,y1] w0 w2 V m2/\Ci f c W V left/\AV c f V left=zmv W c n
theorem Bb{c n:Int}(h:YZ [] w W m)(hl:Xc W) :
  Cz VX #[.agg (Qa W m).toArray,.int .i64 c,.int .i64 n] w fun e w'=>∃v,e=.returned v/\QG (YG W (HW W c n) (zmv W c n)) w v w':=by
 refine FSx W.now m.cO W.cpus.length m.cC m.tO W.tasks.length m.tC m.gO W.groups.length m.gC c n (R:=fun v w'=>QG (YG W (HW W c n) (zmv W c n)) w v w') ?_;intro y hy y1 hy1;have hm0:=Xa;have hlc:=hl.c;refine⟨_,X2 h hl.c hl.t hl.g hl.f,fun g wr hx=>QG.bad (by simpa using g) hx,fun g wr hx2 hs2=>?_⟩;have hW:Qv W=true:=by simpa using g
 have wp:=Qh.1 hW;refine Calls.mono (O8 (h.ext hx2) wp.a) ?_;rintro e wv ⟨m',he,hM,hy2⟩;have hK:=Wk.begin hy hy1 hx2 hs2 hM hy2;have hr:=hK.rd;refine⟨_,_,_,_,_,_,_,_,_,_,he,Qd hy2 hs2,_,Qj,fun _=>⟨by omega,by omega⟩,YJ W c,fun _=>Qj,fun g wr1 hx3=>?_,fun g=>?_⟩
 ·have hb:HW W c n=1:=by
   unfold HW; rw[if_pos]
   simpa using g
  exact QG.no hW (by rw[hb]; decide) (hK.step hx3) hb
 have g:Yo n 1 100=true/\YJ W c=true:=by simpa using g
 have hn1:¬(Yo n 1 100=false\/YJ W c=false):=by rw[g.1,g.2]; simp
 obtain⟨c0,c1⟩:=JG g.2;have hro:=PO hr hl;refine⟨hr.c.ix Zh c0 c1,_,hr.c.f c0 c1 (j:=0) rfl,fun g2 wr1 hx3=>?_,fun g2=>⟨_,hro,fun g3 wr1 hx3=>?_,fun g3=>?_⟩⟩
 ·have hb:HW W c n=6:=by unfold HW; rw[if_neg hn1,if_pos (by simpa using g2)]
  exact QG.no hW (by rw[hb]; decide) (hK.step hx3) hb
 ·have g2:(gi W.cpus c).up=true:=by simpa using g2
  have hr0:¬QK W=true:=fun hr=>by
   rw[show Jr (Xs W/\Lx W)=true from Qh.2 ⟨wp,Qh.1 hr⟩] at g3;cases g3
  have hb:HW W c n=10:=by unfold HW; rw[if_neg hn1,if_neg (by rw[g2]; decide),if_pos (by simpa using hr0)]
  exact QG.no hW (by rw[hb]; decide) (hK.step hx3) hb
 have g2:(gi W.cpus c).up=true:=by simpa using g2
 have hr0:QK W=true:=by
  have hd:Jr (Xs W/\Lx W)=true:=by simpa using g3
  exact Qh.2 (Qh.1 hd).2
 have hb:HW W c n=0:=by unfold HW; rw[if_neg hn1,if_neg (by rw[g2]; decide),if_neg (by rw[hr0]; decide)]
 obtain⟨_,_,_,_,hI0⟩:=zpx hW hb;refine⟨fun vs _ w2=>∃(V:Q7) (m2:MW) (K:Int),vs=Qa V m2/\Wk 8 [y,y1] w w2 V m2/\SW K V/\0<=K/\K<=60000000000000000/\Qg V=zmv W c n,?_,?_⟩
 ·refine⟨fun vs w2=>∃f,zli y y1 w c n W f vs w2,fun vs w2=>zil fun f=>zli y y1 w c n W f vs w2,fun wr hx3 _=>⟨400,W,m',n,rfl,hK.step hx3,hI0,rfl⟩,?_⟩;intro left l0 l1O l1L l1C l2O l2L l2C l3O l3L l3C w2 hs3 hinv;obtain⟨f0,hf0⟩:∃f0,f0=zil fun f=>zli y y1 w c n W f [.int .i64 left,.int .i64 l0,.slice l1O l1L l1C,.slice l2O l2L l2C,.slice l3O l3L l3C] w2:=⟨_,rfl⟩
  have hS:=zmg hinv;simp only[<-hf0] at hS ⊢;clear hf0 hinv;obtain⟨V,m2,left',hv,hK2,hI,hN⟩:=hS;simp only[Qa,List.cons.injEq,Value.int.injEq,Value.slice.injEq,true_and,and_true] at hv;obtain⟨rfl,rfl,⟨rfl,rfl,rfl⟩,⟨rfl,rfl,rfl⟩,rfl,rfl,rfl⟩:=hv;obtain⟨f,rfl⟩:=zpv hI;have hnext:∀{vs:List Va} {w9:Wo},zli y y1 w c n W f vs w9->(∃f,zli y y1 w c n W f vs w9)/\(zil fun f=>zli y y1 w c n W f vs w9)<f+1:=fun hh=>⟨⟨f,hh⟩,Nat.lt_succ_of_le (zr6 hh)⟩
  have hr2:=hK2.rd;have hf:=hI.f2;have hKu:=HY hf;have hSu:=zes hf;have hh0:(0:Int)<=Qp:=by decide
  have c1V:=hI.c1;have hixc:=hr2.c.ix Zh c0 c1V;refine⟨fun hlt=>?_,fun hge=>?_⟩
  ·have hlt:=Ot hlt;refine⟨_,zah hr2 hI.sw.a c0 c1V,fun gp=>?_,fun gp=>?_⟩
   ·have gp:=Ot gp;rw[zb9 (by omega) gp] at hN;obtain⟨i1,i2,i3,i4⟩:=zol hI;have e1:Y1 8 w.heap.size _ (setCp V c (Ki V c left)) m2:=hK2.own.stoC c0 c1V (j:=4) (vs:=[.int .i64 ((gi V.cpus c).idle+left)]) (x:=Ki V c left) rfl (by simp);refine⟨hixc,_,hr2.c.f c0 c1V (j:=4) rfl,⟨by omega,by omega⟩,hixc,zhl hK2.own hK2.nb c0 c1V (j:=4) (by decide),fun wr4 hx4 hs4=>?_⟩;have hK4:=(hK2.sto e1 D4).step hx4;have hcall:=Zp hK4.own c0 (by show c<((V.cpus.set c.toNat (Ki V c left)).length:Int); rw[List.length_set]; exact c1V);rw[BK] at hcall;refine Calls.mono hcall ?_;rintro e2 wv2 ⟨he2,hy4⟩;exact⟨_,_,_,_,_,_,_,_,_,_,he2,hK4.kept hy4 hs4,fun wr5 hx5 _=>⟨_,m2,_,rfl,(hK4.deed hy4 hs4).step hx5,i1,by omega,by omega,hN⟩⟩
   ·have gp:=Ou gp;rw[zca (by omega) gp] at hN;have hR:=zi4 hI hlt gp;have t0:=hR.line.t0;have t1:=hR.line.t1;have htl:V.tasks.length=12:=hI.sw.a.t;refine⟨fun _ _ w3=>Wk 8 [y,y1] w w3 (YL V c (Qm V c)) m2,?_,?_⟩
    ·refine⟨hixc,_,hr2.c.f c0 c1V (j:=1) rfl,fun _=>hixc,_,fun _=>hr2.c.f c0 c1V (j:=2) rfl,fun g5=>?_,fun g5 wr4 hx4 _=>?_⟩
     ·have g5:Qm V c≠(gi V.cpus c).cur\/(gi V.cpus c).ran>=50:=by simpa using g5
      have hS:Yb V c (Qm V c)={ gi V.cpus c with cur:=Qm V c,ran:=0 }:=by unfold Yb; rw[if_pos g5]
      have e1:=hK2.own.stoC c0 c1V (j:=1) (vs:=[.int .i64 (Qm V c)]) (x:={ gi V.cpus c with cur:=Qm V c }) rfl (by simp);have hl1:(V.cpus.set c.toNat { gi V.cpus c with cur:=Qm V c }).length=V.cpus.length:=List.length_set;have hg1:gi (V.cpus.set c.toNat { gi V.cpus c with cur:=Qm V c }) c={ gi V.cpus c with cur:=Qm V c }:=(Qw _ _ c0 c1V c0).trans (if_pos rfl);have e2:=e1.stoC c0 (by simpa using c1V) (j:=2) (vs:=[.int .i64 0]) (x:=Yb V c (Qm V c)) (by rw[hg1,hS]; rfl) (by simp)
      have hW2:({ V with cpus:=(V.cpus.set c.toNat { gi V.cpus c with cur:=Qm V c }).set c.toNat (Yb V c (Qm V c)) }:Q7)=YL V c (Qm V c):=by
       unfold YL setCp;rw[List.set_set]
      have hK3:=hK2.sto e1 D4;have hK4:Wk 8 [y,y1] w _ ({ V with cpus:=(V.cpus.set c.toNat { gi V.cpus c with cur:=Qm V c }).set c.toNat (Yb V c (Qm V c)) }:Q7) m2:=hK3.sto e2 D4;rw[hW2] at hK4;exact⟨hixc,zhl hK2.own hK2.nb c0 c1V (j:=1) (by decide),hixc,zhl e1 hK2.nb c0 (by show c<((V.cpus.set c.toNat { gi V.cpus c with cur:=Qm V c }).length:Int); rw[hl1]; exact c1V) (j:=2) (by decide),fun wr4 hx4 _=>hK4.step hx4⟩
     ·have g5:¬(Qm V c≠(gi V.cpus c).cur\/(gi V.cpus c).ran>=50):=by simpa using g5
      have hS:YL V c (Qm V c)=V:=by
       unfold YL Yb setCp;rw[if_neg g5,zmx c0 c1V]
      rw[hS];exact hK2.step hx4
    ·intro wv5 hs5 hK5 wr6 hx6 hs6;have hK6:=hK5.step hx6;have hcG:=MK (t:=Qm V c) (hK6.rd.less (cs:=[]) (by simp)) hR.s1.a.tree t0 (by show _<((V.tasks.length:Nat):Int); omega) hR.us;have ecp:Qa (YL V c (Qm V c)) m2=Qa V m2:=BK _ _ _ _;rw[ecp] at hcG;refine Calls.mono hcG ?_;rintro e3 wv6 ⟨pO,pC,he3,hO,hy6⟩;have hO:Jp Xu 1 Qb wr6.heap.size wv6 pO pC (Yz V (Qm V c)):=hO;have he3:e3=.returned (.slice pO (Yz V (Qm V c)).length pC):=he3;have hK7:=hK6.call0 hy6;refine⟨_,_,_,he3,Qd hy6 hs6,fun wr8 hx8 hs8=>?_⟩;have hK8:=hK7.step hx8
     have hpn0:∀z∈Qy pO,z∉[y,y1]:=fun z hz hm=>by
      have:=(hO.lt z hz).1;have:=hs6 z hm;omega
     have hO8:=hO.ext hx8 hpn0
     have hpn8:∀z∈Qy pO,z∉QB 8 m2:=fun z hz hm=>by
      have:=(hO.lt z hz).1;have:=(hK6.own.lt z hm).2;omega
     have hcT:=zai hK8.own hR.s1 hK8.base hO8 hpn8 hR.len c0 (by rw[(D3 hI.sw hI.rb c0 c1V hI.up t0 t1).2.2.2.2.2]; exact c1V) hR.pin hR.dr;rw[ecp] at hcT;refine Calls.mono hcT ?_;rintro e4 wv9 ⟨m3,he4,hy9⟩;have hK9:Wk 8 [y,y1] w wv9 (YF V c).1 m3:=hK8.deed hy9 hs8;have hTk:zco c (Yz V (Qm V c)) (YL V c (Qm V c))=YF V c:=rfl;rw[hTk] at he4 hy9;have hO9:=hO8.ext hy9.ext hpn8
     have hpn9:∀z∈Qy pO,z∉QB 8 m3:=fun z hz hm=>by
      rcases hy9.sub z hm with h1 | h1
      ·exact hpn8 z hz h1
      ·have:=(hO8.lt z hz).2;omega
     have eC:(YF V c).1.cpus=(YL V c (Qm V c)).cpus:=hR.tk.o.c;have lT:(YF V c).1.cpus.length=V.cpus.length:=by rw[eC]; exact(D3 hI.sw hI.rb c0 c1V hI.up t0 t1).2.2.2.2.2
     have cT:c<((YF V c).1.cpus.length:Int):=by rw[lT]; exact c1V
     have e9:Qa (YF V c).1 m3=Qa V m2:=by
      rw[hy9.encW_eq (W0:=YL V c (Qm V c)) hR.tk.o.n (by rw[eC]) (by rw[hR.tk.o.t]) hR.tk.o.g.len];exact ecp
     have rT:RB (Ey (f+1)) (YF V c).1:=hR.r1.sum hR.tk.su hR.tk.o.g (by rw[eC]);have eT:(YF V c).1.tasks=V.tasks:=hR.tk.o.t;have eG:QS V.groups (YF V c).1.groups:=hR.tk.o.g;have pT:Yz (YF V c).1 (Qm V c)=Yz V (Qm V c):=zep eT eG _;have uT:Q6 (YF V c).1.groups (Q8 (YF V c).1 (Qm V c)).group=true:=by rw[eG.usd,XF eT]; exact hR.us
     have upT:(gi (YF V c).1.cpus c).up=true:=by rw[eC]; exact(D3 hI.sw hI.rb c0 c1V hI.up t0 t1).2.2.1
     have ranT:(gi (YF V c).1.cpus c).ran<50:=by rw[eC]; exact hR.ran
     have hnx:=hR.nx;refine⟨_,_,_,_,_,_,_,_,_,_,_,he4,hK8.kept hy9 hs8,fun gt wr10 hx10 hs10=>?_,fun gt=>?_⟩
     ·have gt:¬(YF V c).2=true:=by simpa using gt
      have hRW:HV V c left=(Qg (endW (YF V c).1 c),left):=by unfold HV; rw[if_neg gt]
      rw[hRW] at hnx hN;have hK10:=hK9.step hx10;have hcE:=Zp hK10.own c0 cT;rw[e9] at hcE;refine Calls.mono hcE ?_;rintro e5 wv11 ⟨he5,hy11⟩;refine⟨_,_,_,_,_,_,_,_,_,_,he5,hK10.kept hy11 hs10,fun wr12 hx12 hs12=>?_⟩;have hK12:=(hK10.deed hy11 hs10).step hx12;refine Calls.mono (Qq hK12.own (hR.tk.sw.endW c0 cT) (by omega) (by omega) hK12.base) ?_;rintro e6 wv13 ⟨m4,he6,hy13⟩;generalize Qg (endW (YF V c).1 c)=V9 at he6 hy13 hnx hN;exact⟨_,_,_,_,_,_,_,_,_,_,he6,hK12.kept hy13 hs12,fun wr14 hx14 _=>hnext ⟨V9,m4,left,rfl,(hK12.deed hy13 hs12).step hx14,hnx,hN⟩⟩
     ·have gt:(YF V c).2=true:=by simpa using gt
      have hRW:HV V c left=(Qg (Oj (YF V c).1 c (Qm V c) (U2 V c left)),left-U2 V c left):=by unfold HV; rw[if_pos gt]
      rw[hRW] at hnx hN;obtain⟨m1,m2'⟩:=hR.m gt;have hl1:=hI.l1;have hcM:=zaf (n:=left) hK9.rd hR.tk.sw.a (hO9.rd ZW.len hpn0) (pC:=pC) hR.len c0 cT (fun z hz=>by rw[eG.usd]; exact hR.pin z hz);rw[e9] at hcM;refine⟨_,hcM,fun wr10 hx10 hs10=>?_⟩;have hK10:=hK9.step hx10;have hO10:Jp Xu 1 Qb wr6.heap.size wr10 pO pC (Yz (YF V c).1 (Qm V c)):=by rw[pT]; exact hO9.ext hx10 hpn0
      have hcC:=Bh (t:=Qm V c) (n:=U2 V c left) hK10.own hK10.base hO10 hpn9 hR.tk.sw rT ⟨by omega,by omega⟩ ⟨by omega,by omega⟩ c0 cT upT ranT t0 t1 uT (by omega) (by omega);rw[e9,pT] at hcC;refine Calls.mono hcC ?_;rintro e7 wv11 ⟨m4,he7,hy11⟩;generalize Qg (Oj (YF V c).1 c (Qm V c) (U2 V c left))=V9 at he7 hy11 hnx hN;exact⟨_,_,_,_,_,_,_,_,_,_,he7,hK10.kept hy11 hs10,⟨by show _<=left-U2 V c left; omega,by show left-U2 V c left<=_; omega⟩,fun wr12 hx12 _=>hnext ⟨V9,m4,left-U2 V c left,rfl,(hK10.deed hy11 hs10).step hx12,hnx,hN⟩⟩
  ·have hge:=Ou hge;rw[zgv (by omega)] at hN;exact fun wr4 hx4 _=>⟨V,m2,_,rfl,hK2.step hx4,hI.sw,by omega,by omega,hN⟩
 ·rintro a0 a1O a1L a1C a2O a2L a2C a3O a3L a3C w2 hs3 ⟨V,m2,K,hv,hK2,sw,k0,k1,hN⟩ wr4 hx4 hs4;simp only[Qa,List.cons.injEq,Value.int.injEq,Value.slice.injEq,true_and,and_true] at hv;obtain⟨rfl,⟨rfl,rfl,rfl⟩,⟨rfl,rfl,rfl⟩,rfl,rfl,rfl⟩:=hv;have hK4:=hK2.step hx4;refine Calls.mono (Qq hK4.own sw k0 (by omega) hK4.base) ?_;rintro e3 wv3 ⟨m3,he3,hy5⟩;rw[hN] at he3 hy5;exact⟨_,_,_,_,_,_,_,_,_,_,he3,hK4.kept hy5 hs4,fun wr8 hx8=>QG.ok hW hb ((hK4.deed hy5 hs4).step hx8)⟩
end
set_option maxRecDepth 100000
set_option maxHeartbeats 1600000
def cO:Code->Code
 | .loop c=>c
 | c=>c
theorem zh8{W:Q7}{g c:Int}(h:¬QJ W g c<0):ZH W g c 20=true/\Z9 W g c 20=Zj W c (QJ W g c).toNat:=by
 unfold ZH Z9;unfold QJ at h ⊢;rw[if_neg h];exact⟨decide_eq_true (by omega),rfl⟩
theorem zpf{W:Q7}(ha:WA W)(fl:zv1 W){c:Int}(c0:0<=c)(c1:c<(W.cpus.length:Int))(f:Nat):∀g:Int,Q6 W.groups g=true->(4-dep 3 W.groups g).toNat=f->(∀x∈QX W.groups g,(Qc W x c).v<=(Qc W (gi W.groups x).parent c).floor)->0<=PV W g c->
  (Q8 W (PV W g c)).v<=(Qc W (Q8 W (PV W g c)).group c).floor/\∀x∈QX W.groups (Q8 W (PV W g c)).group,(Qc W x c).v<=(Qc W (gi W.groups x).parent c).floor:=by
 induction f with
 | zero=>
  intro g hu hf;have:=Kb ha hu;omega
 | succ f ih=>
  intro g hu hf hp h;rw[Ei ha hu] at h ⊢
  by_cases h1:QJ W g c<0
  ·rw[if_pos h1] at h; omega
  ·rw[if_neg h1] at h ⊢;obtain⟨b1,b2⟩:=zh8 h1;have hfl:=fl g c hu c0 c1 b1;rw[b2] at hfl
   by_cases h2:QJ W g c<12
   ·rw[if_pos h2] at h ⊢
    have hm:Zi W g c (QJ W g c).toNat=true:=by
     rcases Zf (Zi W g c) (Zj W c) 20 with ⟨a,_⟩ | ⟨_,_,a,_⟩
     ·unfold QJ at h1; omega
     ·exact a
    rw[Vq (by omega)] at hm;unfold TH at hm;rw[show (((QJ W g c).toNat:Nat):Int)=QJ W g c by omega] at hm;simp only[Bool.and_eq_true,beq_iff_eq] at hm;unfold Zj at hfl;rw[if_pos (by omega),show (((QJ W g c).toNat:Nat):Int)=QJ W g c by omega] at hfl;rw[show (Q8 W (QJ W g c)).group=g from hm.1.2];exact⟨hfl,hp⟩
   ·rw[if_neg h2] at h ⊢;obtain⟨k1,k2,k3,k4⟩:=KS ha hu (g:=g) (c:=c) (by omega)
    have hm:Zi W g c (QJ W g c).toNat=true:=by
     rcases Zf (Zi W g c) (Zj W c) 20 with ⟨a,_⟩ | ⟨_,_,a,_⟩
     ·unfold QJ at h1; omega
     ·exact a
    rw[show (QJ W g c).toNat=12+(QJ W g c-12).toNat by omega,JA] at hm;unfold XV at hm;rw[show (((QJ W g c-12).toNat:Nat):Int)=QJ W g c-12 by omega] at hm;simp only[Bool.and_eq_true,beq_iff_eq] at hm;unfold Zj at hfl;rw[if_neg (by omega),show (((QJ W g c).toNat-12:Nat):Int)=QJ W g c-12 by omega] at hfl;refine ih _ k1 (by omega) (fun x hx=>?_) h;rw[Yi ha.tree k1 k2] at hx;rcases List.mem_cons.1 hx with e | e
    ·rw[e,hm.1.2.2]; exact hfl
    ·rw[hm.1.2.2] at e; exact hp x e
structure zu2 (W:Q7) (c t ran:Int):Prop where
 r0:0<=ran
 r1:ran<50
 t1:(Q8 W t).v-(Qc W (Q8 W t).group c).floor<=Z3 ran (Qe (Q8 W t).nice)
 t2:(Qc W (Q8 W t).group c).floor<=(Q8 W t).v
 p1:∀x∈QX W.groups (Q8 W t).group,(Qc W x c).v-(Qc W (gi W.groups x).parent c).floor<=Z3 ran (Qc W x c).w
 p2:∀x∈QX W.groups (Q8 W t).group,(Qc W (gi W.groups x).parent c).floor<=(Qc W x c).v
theorem zqz{W:Q7}(iv:XU W){c:Int}(c0:0<=c)(c1:c<(W.cpus.length:Int))(hl:zjo W (Qm W c) c)(hp:¬Qm W c<0):zu2 W c (Qm W c) (gi (YL W c (Qm W c)).cpus c).ran:=by
 have wp:=iv.wp;have p:=X5 wp;have h:=Th p hl.t0 hl.t1 (by rw[hl.st]; decide);have e:gi (YL W c (Qm W c)).cpus c=Yb W c (Qm W c):=(Qw _ _ c0 c1 c0).trans (if_pos rfl)
 have t2:(Qc W (Q8 W (Qm W c)).group c).floor<=(Q8 W (Qm W c)).v:=by
  have:=(h.f hl.st).1
  rwa[hl.cpu] at this
 have p2:∀x∈QX W.groups (Q8 W (Qm W c)).group,(Qc W (gi W.groups x).parent c).floor<=(Qc W x c).v:=fun x hx=>by
  obtain⟨xu,xz⟩:=Yq wp.a.tree _ h.g x hx;exact((p.s x c xu c0 c1).st xz (hl.on x hx)).1
 rw[e]
 by_cases hc:(gi W.cpus c).cur>=0/\(gi W.cpus c).ran<50
 ·have hpk:Qm W c=(gi W.cpus c).cur:=by unfold Qm; rw[if_pos hc]
  have hs:Yb W c (Qm W c)=gi W.cpus c:=by
   unfold Yb;rw[if_neg];rintro (h | h)
   ·exact h hpk
   ·omega
  rw[hs];have hy:=(p.c c c0 c1).yes hc.1;have hq:=(p.c c c0 c1).q hc.1 (by rw[<-hpk]; exact hl.st) (by rw[<-hpk]; exact hl.cpu);rw[<-hpk] at hq;exact⟨by omega,hc.2,hq.1,t2,fun x hx=>(hq.2 x hx).2,p2⟩
 ·have hpk:Qm W c=PV W 0 c:=by unfold Qm; rw[if_neg hc]
  have hs:(Yb W c (Qm W c)).ran=0:=by
   unfold Yb;rw[if_pos]
   by_cases h0:(gi W.cpus c).cur>=0
   ·exact .inr (by omega)
   ·exact .inl (by omega)
  rw[hs];have hn:=zpf wp.a iv.fl c0 c1 _ 0 wp.a.root rfl (fun x hx=>by rw[show QX W.groups 0=[] from Zc _ _] at hx; cases hx) (by rw[<-hpk]; omega);rw[<-hpk] at hn;have v0:∀w:Int,0<=Z3 0 w:=fun w=>(KK 0 w).1
  refine⟨Int.le_refl _,by decide,?_,t2,fun x hx=>?_,p2⟩
  ·have:=v0 (Qe (Q8 W (Qm W c)).nice);have:=hn.1;omega
  ·have:=v0 (Qc W x c).w;have:=hn.2 x hx;omega
theorem zpm{gs:List ZA}(ht:ZU gs):∀g:Int,Q6 gs g=true->∀x∈QX gs g,dep 3 gs x<=dep 3 gs g:=
 OO ht (fun x hx=>by rw[show QX gs 0=[] from Zc _ _] at hx; cases hx) fun h hu hz ih x hx=>by
  rw[Yi ht hu hz] at hx;rcases List.mem_cons.1 hx with e | e
  ·subst e; exact Int.le_refl _
  ·obtain⟨_,_,_,d,e1,e2,_⟩:=ZZ ht hu hz;have:=ih x e;omega
theorem zsg{gs:List ZA}(ht:ZU gs):∀g:Int,Q6 gs g=true->(QX gs g++[0]).Nodup:=
 OO ht (by rw[show QX gs 0=[] from Zc _ _]; simp) fun h hu hz ih=>by
  rw[Yi ht hu hz,List.cons_append,List.nodup_cons];refine⟨fun hm=>?_,ih⟩;rcases List.mem_append.1 hm with hm | hm
  ·obtain⟨hp,_,_,d,e1,e2,_⟩:=ZZ ht hu hz;have:=zpm ht _ hp h hm;omega
  ·exact hz (List.mem_singleton.1 hm)
theorem zq3{W:Q7}{c n g:Int}(hgl:W.groups.length=8)(u0:0<=g)(u1:g<8)(c0:0<=c)(cs:c<((gi W.groups g).shelves.length:Int))(i d:Int)(hi:0<=i)(hd:0<=d):Qc (Nz W c n g) i d=if g=i/\c=d then BI W c n g else Qc W i d:=by
 rw[<-J8 (W:=W) (s:=BI W c n g) u0 (by omega) c0 cs hi hd];have hl2:g<((K7 W c n g).groups.length:Int):=by rw[KP]; omega
 have hl1:g<((setGr (K7 W c n g) g (EQ W c n g)).groups.length:Int):=by simp only[setGr,List.length_set]; rw[KP]; omega
 unfold Qc;show gi (gi (Nz W c n g).groups i).shelves d=gi (gi (K7 W c n g).groups i).shelves d;unfold Nz setBd;rw[Yj u0 hl1 hi,Yj u0 hl2 hi,Yj u0 hl2 u0,if_pos rfl];split
 ·rename_i e;subst e;rfl
 ·rfl
theorem zq4{K S c n:Int}(c0:0<=c)(n0:0<=n)(n1:n<=100):∀(l:List Int) {W:Q7},l.Nodup->SW K W->RB S W->S+100*(l.length:Int)<=100000000000000000->c<(W.cpus.length:Int)->(∀g∈l,Q6 W.groups g=true)->
  ∀i d:Int,0<=i->0<=d->Qc (zdf c n l W) i d=if i∈l/\c=d then BI W c n i else Qc W i d:=by
 intro l
 induction l generalizing K S with
 | nil=>
  intro W _ _ _ _ _ _ i d _ _;rw[if_neg (by simp)]; rfl
 | cons g l ih=>
  intro W nd sw rb hS c1 hu i d hi hd;rw[List.length_cons] at hS;have hug:=hu g List.mem_cons_self;obtain⟨u0,u1,_⟩:=sw.a.u hug;have hsl:=sw.a.sl hug;have h1:=zhz sw rb (by omega) c0 c1 hug n0 n1;obtain⟨hng,ndl⟩:=List.nodup_cons.1 nd;have e:=zq3 (n:=n) sw.a.gl u0 u1 c0 (by omega);rw[zfk,ih ndl h1.sw (h1.rb.mono (show S+n<=S+100 by omega)) (by omega) (by rw[h1.cp]; exact c1) (fun x hx=>by rw[h1.g.usd]; exact hu x (List.mem_cons_of_mem _ hx)) i d hi hd]
  by_cases hil:i∈l
  ·have hgi:g≠i:=fun h=>hng (h▸hil)
   by_cases hcd:c=d
   ·rw[if_pos ⟨hil,hcd⟩,if_pos ⟨List.mem_cons_of_mem _ hil,hcd⟩];unfold BI;rw[e i c hi c0,if_neg fun h=>hgi h.1]
   ·rw[if_neg fun h=>hcd h.2,if_neg fun h=>hcd h.2,e i d hi hd,if_neg fun h=>hcd h.2]
  ·rw[if_neg fun h=>hil h.1,e i d hi hd]
   by_cases hgi:g=i
   ·subst hgi
    by_cases hcd:c=d
    ·rw[if_pos ⟨rfl,hcd⟩,if_pos ⟨List.mem_cons_self,hcd⟩]
    ·rw[if_neg fun h=>hcd h.2,if_neg fun h=>hcd h.2]
   ·rw[if_neg fun h=>hgi h.1,if_neg];rintro⟨hm,_⟩;rcases List.mem_cons.1 hm with h | h
    ·exact hgi h.symm
    ·exact hil h
theorem zld{a b w:Int}(ha:0<=a)(hb:0<=b)(h:a+b<=149)(w1:1<=w)(w2:w<=20):Z3 (a+b) w=Z3 a w+Z3 b w/\Z3 a w+Z3 b w<=Zq w:=by
 have e1:=zcq ha hb (by omega) w1 w2;have e2:=zcq (a:=a+b) (b:=149-(a+b)) (w:=w) (by omega) (by omega) (by omega) w1 w2;rw[show a+b+(149-(a+b))=149 by omega] at e2;have:=(KK (149-(a+b)) w).1;unfold Zq;omega
structure zv9 (V T:Q7) (c t:Int):Prop where
 tk:T.tasks=V.tasks
 g:QS V.groups T.groups
 s:∀i:Int,0<=i->(gi T.groups i).shelves=(gi V.groups i).shelves
 cp:∀d:Int,0<=d->gi T.cpus d=if c=d then Yb V c t else gi V.cpus d
 l:T.cpus.length=V.cpus.length
theorem ztm{K S:Int}{V T:Q7}{c t m:Int}(iv:XU V)(hM:zv9 V T c t)(sw:SW K T)(rb:RB S T)(hS:0<=S/\S+500<=100000000000000000)(c0:0<=c)(c1:c<(V.cpus.length:Int))(up:(gi V.cpus c).up=true)(t0:0<=t)(t1:t<12)(hst:(Q8 V t).state=1)(hcp:(Q8 V t).cpu=c)(hcur:(Yb V c t).cur=t)(hb:zu2 V c t (Yb V c t).ran)(m0:1<=m)(m1:m<=100):Vx (Oj T c t m):=by
 have wp:=iv.wp;have p:=X5 wp;have hht:=Th p t0 t1 (by rw[hst]; decide);have hgl:=wp.a.gl;have htl:=wp.a.t;have c1T:c<(T.cpus.length:Int):=by rw[hM.l]; exact c1
 have eTc:gi T.cpus c=Yb V c t:=(hM.cp c c0).trans (if_pos rfl);have upT:(gi T.cpus c).up=true:=by rw[eTc]; unfold Yb; split <;> exact up
 have ranT:(gi T.cpus c).ran<50:=by rw[eTc]; exact hb.r1
 have hg:Q6 V.groups (Q8 V t).group=true:=hht.g;have huT:Q6 T.groups (Q8 T t).group=true:=by rw[hM.g.usd,XF hM.tk]; exact hg
 have pT:Yz T t=Yz V t:=zep hM.tk hM.g t;obtain⟨sE,rE,_,_,hlE,_,s1,r1,cp1⟩:=zdg sw rb hS.2 c0 c1T upT ranT t0 t1 huT (by omega) m1;obtain⟨pin,plen⟩:=BR sw.a huT;have hTG:QS V.groups (Oj T c t m).groups:=hM.g.trans cp1.g;have shT:∀i d:Int,0<=i->Qc T i d=Qc V i d:=fun i d hi=>by unfold Qc; rw[hM.s i hi]
 have hnd:(Yz T t).Nodup:=by rw[pT]; exact zsg wp.a.tree _ hg
 have eS:∀i d:Int,0<=i->0<=d->Qc (Oj T c t m) i d=if i∈Yz V t/\c=d then BI V c m i else Qc V i d:=fun i d hi hd=>by
  have e:=zq4 c0 (by omega) m1 (Yz T t) hnd s1 r1 (by omega) c1T pin i d hi hd;have e':Qc (Oj T c t m) i d=if i∈Yz T t/\c=d then BI T c m i else Qc T i d:=e;rw[e',pT,shT i d hi];have:BI T c m i=BI V c m i:=by unfold BI; rw[shT i c hi]
  rw[this]
 have fF:∀i d:Int,0<=i->0<=d->(Qc (Oj T c t m) i d).floor=(Qc V i d).floor:=fun i d hi hd=>by
  rw[eS i d hi hd]; split
  ·rename_i h; rw[<-h.2]; rfl
  ·rfl
 have fO:∀i d:Int,0<=i->0<=d->(Qc (Oj T c t m) i d).on=(Qc V i d).on:=fun i d hi hd=>by
  rw[eS i d hi hd]; split
  ·rename_i h; rw[<-h.2]; rfl
  ·rfl
 have fW:∀i d:Int,0<=i->0<=d->(Qc (Oj T c t m) i d).w=(Qc V i d).w:=fun i d hi hd=>by
  rw[eS i d hi hd]; split
  ·rename_i h; rw[<-h.2]; rfl
  ·rfl
 have fV:∀i d:Int,0<=i->0<=d->¬(i∈QX V.groups (Q8 V t).group/\c=d)->(Qc (Oj T c t m) i d).v=(Qc V i d).v:=fun i d hi hd hn=>by
  rw[eS i d hi hd]; split
  ·rename_i h
   have hz:¬i≠0:=fun hz=>by
    rcases List.mem_append.1 h.1 with h' | h'
    ·exact hn ⟨h',h.2⟩
    ·exact hz (List.mem_singleton.1 h')
   rw[<-h.2];show (if i≠0 then _ else _)=_;rw[if_neg hz]
  ·rfl
 have fP:∀i:Int,i∈QX V.groups (Q8 V t).group->(Qc (Oj T c t m) i c).v=(Qc V i c).v+Z3 m (Qc V i c).w:=fun i hi=>by
  obtain⟨iu,iz⟩:=Yq wp.a.tree _ hg i hi;rw[eS i c (Q5.1 iu).1 c0,if_pos ⟨List.mem_append_left _ hi,rfl⟩];show (if i≠0 then _ else _)=_;rw[if_pos iz]
 have eK:∀i:Int,0<=i->Q8 (Oj T c t m) i=if t=i then K8 V t m else Q8 V i:=fun i hi=>by
  have h1:Q8 (Oj T c t m) i=gi (T.tasks.set t.toNat (K8 T t m)) i:=by
   show gi (zdf c m (Yz T t) (setTk T t (K8 T t m))).tasks i=_;rw[cp1.t]; rfl
  have h2:K8 T t m=K8 V t m:=by unfold K8; rw[XF hM.tk]
  rw[h1,Qw _ _ t0 (by rw[hM.tk]; omega) hi,h2];split
  ·rfl
  ·exact XF hM.tk i
 have eC:∀d:Int,0<=d->gi (Oj T c t m).cpus d=if c=d then zjz T c m else gi V.cpus d:=fun d hd=>by
  have h1:gi (Oj T c t m).cpus d=gi (T.cpus.set c.toNat (zjz T c m)) d:=by
   show gi ((zdf c m (Yz T t) (setTk T t (K8 T t m))).cpus.set c.toNat (zjz T c m)) d=_;rw[cp1.cp]; rfl
  rw[h1,Qw _ _ c0 c1T hd];split
  ·rfl
  ·rename_i h;rw[hM.cp d hd,if_neg h]
 have wn:1<=Qe (Q8 V t).nice/\Qe (Q8 V t).nice<=20:=by
  have:=XG (Q8 V t).nice;have:=hht.n;omega
 have hv0:∀w:Int,0<=Z3 m w:=fun w=>(KK m w).1
 have hw20:∀i d:Int,Q6 V.groups i=true->0<=d->d<(V.cpus.length:Int)->1<=(Qc V i d).w/\(Qc V i d).w<=20:=fun i d hu d0 d1=>by
  have:=GC wp hu d0 d1;exact⟨this.w1,this.w2⟩
 have vt:=zld hb.r0 (show 0<=m by omega) (by have:=hb.r1; omega) wn.1 wn.2
 have vp:∀i:Int,i∈QX V.groups (Q8 V t).group->Z3 ((Yb V c t).ran+m) (Qc V i c).w=Z3 (Yb V c t).ran (Qc V i c).w+Z3 m (Qc V i c).w/\Z3 (Yb V c t).ran (Qc V i c).w+Z3 m (Qc V i c).w<=Zq (Qc V i c).w:=fun i hi=>by
  have h:=hw20 i c (Yq wp.a.tree _ hg i hi).1 c0 c1;exact zld hb.r0 (show 0<=m by omega) (by have:=hb.r1; omega) h.1 h.2
 have par0:∀i:Int,Q6 V.groups i=true->i≠0->0<=(gi V.groups i).parent:=fun i hu hz=>(Q5.1 (ZZ wp.a.tree hu hz).1).1
 have hstd:∀i:Int,i∈QX V.groups (Q8 V t).group->UM (Oj T c t m) i c:=fun i hi=>by
  obtain⟨iu,iz⟩:=Yq wp.a.tree _ hg i hi;have i0:=(Q5.1 iu).1;unfold UM;rw[hTG.p,fF _ c (par0 i iu iz) c0,fP i hi,fW i c i0 c0];have h1:=hb.p1 i hi;have h2:=hb.p2 i hi;have h3:=vp i hi;have:=hv0 (Qc V i c).w;omega
 refine⟨⟨sE.a,fun i a b=>?_,fun i a b n=>?_,fun k d hk d0 d1=>?_⟩,fun d d0 d1=>?_⟩
 ·have hrt:=rE.t i a b;rw[eK i a] at hrt ⊢;split
  ·rename_i he;rw[if_pos he] at hrt;refine .inr ⟨by show (Q8 V t).state≠0; rw[hst]; decide,hht.st,by rw[hTG.usd]; exact hg,hht.n,hht.m,hht.m0,ZY.2 ⟨hrt.1,by omega⟩,ZY.2 ⟨hrt.2.2.1,by omega⟩,hht.l1,hht.l2,fun _=>?_⟩;show (Qc (Oj T c t m) (Q8 V t).group (Q8 V t).cpu).floor<=(Q8 V t).v+Z3 m (Qe (Q8 V t).nice)/\(Q8 V t).v+Z3 m (Qe (Q8 V t).nice)-(Qc (Oj T c t m) (Q8 V t).group (Q8 V t).cpu).floor<=Zq (Qe (Q8 V t).nice);rw[hcp,fF _ c (Q5.1 hg).1 c0];have:=hb.t1;have:=hb.t2;have:=hv0 (Qe (Q8 V t).nice);omega
  ·rcases p.t i a b with h | ⟨h1,h2⟩
   ·exact .inl h
   ·refine .inr ⟨h1,h2.st,by rw[hTG.usd]; exact h2.g,h2.n,h2.m,h2.m0,h2.s,h2.u,h2.l1,h2.l2,fun hs=>?_⟩;rw[fF _ _ (Q5.1 h2.g).1 (p.l i a b h1).1];exact h2.f hs
 ·rw[hlE,hM.l];rw[eK i a] at n ⊢;split
  ·show 0<=(Q8 V t).cpu/\(Q8 V t).cpu<_;rw[hcp]; exact⟨c0,c1⟩
  ·rename_i he;rw[if_neg he] at n;exact p.l i a b n
 ·have hrs:=rE.s k d hk d0 d1;rw[hTG.usd] at hk;rw[hlE,hM.l] at d1;have k0:=(Q5.1 hk).1;have hp:=p.s k d hk d0 d1;refine⟨ZY.2 ⟨hrs.1,by omega⟩,fun hz=>?_,fun hz ho=>?_⟩
  ·have h:=hp.root hz;rw[fO k d k0 d0,fW k d k0 d0,fV k d k0 d0 fun h=>(Yq wp.a.tree _ hg k h.1).2 hz];exact h
  ·rw[fO k d k0 d0] at ho
   by_cases hin:k∈QX V.groups (Q8 V t).group/\c=d
   ·obtain⟨h1,rfl⟩:=hin;exact hstd k h1
   ·have h:=hp.st hz ho;unfold UM at h ⊢;rw[hTG.p,fF _ d (par0 k hk hz) d0,fV k d k0 d0 hin,fW k d k0 d0];exact h
 ·have hrc:=rE.c d d0 d1;rw[hlE,hM.l] at d1
  by_cases hd:c=d
  ·subst hd;have e:=(eC c c0).trans (if_pos rfl);have ecur:(gi (Oj T c t m).cpus c).cur=t:=by rw[e]; show (gi T.cpus c).cur=t; rw[eTc]; exact hcur
   have eran:(gi (Oj T c t m).cpus c).ran=(Yb V c t).ran+m:=by rw[e]; show (gi T.cpus c).ran+m=_; rw[eTc]
   have hr0:=hb.r0;have hr1:=hb.r1;refine⟨ZY.2 ⟨hrc.1,by omega⟩,ZY.2 ⟨hrc.2.2.1,by have:=hrc.2.2.2.1; omega⟩,by omega,by omega,fun h0=>by omega,fun _=>⟨by rw[e]; exact upT,by omega,by omega⟩,fun _ _ _=>?_⟩;rw[ecur,eran,eK t t0,if_pos rfl];refine⟨?_,fun x hx=>?_⟩
   ·show (Q8 V t).v+Z3 m (Qe (Q8 V t).nice)-(Qc (Oj T c t m) (Q8 V t).group c).floor<=Z3 ((Yb V c t).ran+m) (Qe (Q8 V t).nice);rw[fF _ c (Q5.1 hg).1 c0,vt.1];have:=hb.t1;omega
   ·have hx:x∈QX (Oj T c t m).groups (Q8 V t).group:=hx;rw[Vs hTG] at hx;obtain⟨xu,xz⟩:=Yq wp.a.tree _ hg x hx;refine⟨hstd x hx,?_⟩;rw[hTG.p,fF _ c (par0 x xu xz) c0,fP x hx,fW x c (Q5.1 xu).1 c0,(vp x hx).1];have:=hb.p1 x hx;omega
  ·have e:=(eC d d0).trans (if_neg hd);have h:=p.c d d0 d1;refine⟨by rw[e]; exact h.b,by rw[e]; exact h.i,by rw[e]; exact h.c1,by rw[e]; exact h.c2,by rw[e]; exact h.no,by rw[e]; exact h.yes,?_⟩;rw[e];intro h0 h1 h2;rw[eK _ h0] at h1 h2 ⊢
   by_cases ht:t=(gi V.cpus d).cur
   ·rw[if_pos ht] at h2;have h2:(Q8 V t).cpu=d:=h2;exact absurd (hcp.symm.trans h2) hd
   ·rw[if_neg ht] at h1 h2 ⊢;obtain⟨q1,q2⟩:=h.q h0 h1 h2;have hgu:=(Th p h0 h.c2 (by rw[h1]; decide)).g;refine⟨by rw[fF _ d (Q5.1 hgu).1 d0]; exact q1,fun x hx=>?_⟩;rw[Vs hTG] at hx;obtain⟨xu,xz⟩:=Yq wp.a.tree _ hgu x hx;have x0:=(Q5.1 xu).1;have:=q2 x hx;unfold UM at this ⊢;rw[hTG.p,fF _ d (par0 x xu xz) d0,fV x d x0 d0 fun h=>hd h.2,fW x d x0 d0];exact this
theorem zsq(W:Q7)(c n g:Int):VA W (Nz W c n g):=
 ((C5 W g c (BI W c n g)).trans (zjb (W:=K7 W c n g) (g:=g) (x:=EQ W c n g) rfl rfl rfl rfl rfl)).trans (zja _ _ _)
theorem zk2(c n:Int):∀(l:List Int) (W:Q7),VA W (zdf c n l W)
 | [],W=>VA.refl _
 | g::l,W=>(zsq W c n g).trans (zk2 c n l _)
theorem zk3(W:Q7)(c g:Int):VA W (BV W c g).1:=by
 unfold BV;split
 ·exact VA.refl _
 ·exact zja _ _ _
theorem zk4(c:Int):∀(l:List Int) (W:Q7),VA W (zco c l W).1
 | [],W=>VA.refl _
 | g::l,W=>by
  simp only[zco];split
  ·exact(zk3 W c g).trans (zk4 c l _)
  ·exact zk3 W c g
theorem zp3(W:Q7)(c t:Int):VA W (YL W c t):=zew (by unfold Yb; split <;> rfl)
theorem zly(W:Q7)(c t:Int):Xd (Yb W c t)=Xd (gi W.cpus c):=by unfold Yb; split <;> rfl
theorem zrh{f:Nat}{c left:Int}{W0 V:Q7}(h:Ci f c W0 V left)(iv:XU V):XU (Qg (endW (setCp V c (Ki V c left)) c)):=by
 have p:=X5 iv.wp;have c0:=h.c0;have c1:=h.c1;have hK:=HY h.f2;have hh0:(0:Int)<=Qp:=by decide
 have hst:UL=173430457200:=rfl;obtain⟨sE,s1,i3,i4⟩:=zol h;have hl:(setCp V c (Ki V c left)).cpus.length=V.cpus.length:=List.length_set
 have hP:Vx (setCp V c (Ki V c left)):=by
  refine⟨⟨s1.a,fun t t0 t1=>(p.t t t0 t1).imp id fun h=>⟨h.1,h.2.gr rfl⟩,fun t t0 t1 n=>?_,fun k d hk d0 d1=>?_⟩,fun d d0 d1=>?_⟩
  ·rw[hl]; exact p.l t t0 t1 n
  ·rw[hl] at d1; exact(p.s k d hk d0 d1).cong rfl fun _=>rfl
  ·rw[hl] at d1;have hd:=p.c d d0 d1;have e:gi (setCp V c (Ki V c left)).cpus d=if c=d then Ki V c left else gi V.cpus d:=Qw _ _ c0 c1 d0
   by_cases he:c=d
   ·subst he;have e:=e.trans (if_pos rfl);exact⟨by rw[e]; exact hd.b,by rw[e]; exact ZY.2 ⟨i3,by show (gi V.cpus c).idle+left<=_; omega⟩,by rw[e]; exact hd.c1,by rw[e]; exact hd.c2,by rw[e]; exact hd.no,by rw[e]; exact hd.yes,by rw[e]; exact hd.q⟩
   ·have e:=e.trans (if_neg he);exact⟨by rw[e]; exact hd.b,by rw[e]; exact hd.i,by rw[e]; exact hd.c1,by rw[e]; exact hd.c2,by rw[e]; exact hd.no,by rw[e]; exact hd.yes,by rw[e]; exact hd.q⟩
 exact Zn sE (by omega) (by omega) (hP.endW c0 (by rw[hl]; exact c1)) (((zew (W:=V) (c:=c) (x:=Ki V c left) rfl).loc rfl (U1 iv.wp)).endW _)
theorem zsn{f:Nat}{c left:Int}{W0 V:Q7}(h:Ci (f+1) c W0 V left)(iv:XU V)(hl:0<left)(hp:¬Qm V c<0):XU (HV V c left).1:=by
 have hR:=zi4 h hl hp;have c0:=h.c0;have c1:=h.c1;have hK:=HY h.f2;have hSu:=zes h.f2;have hh0:(0:Int)<=Qp:=by decide
 have hst:UL=173430457200:=rfl;have hlg:Qk=34686091440:=rfl;have t0:=hR.line.t0;have t1:=hR.line.t1;obtain⟨q1,q2,q3,q4,q5,q6⟩:=D3 h.sw h.rb c0 c1 h.up t0 t1;have eC:(YF V c).1.cpus=(YL V c (Qm V c)).cpus:=hR.tk.o.c;have lT:(YF V c).1.cpus.length=V.cpus.length:=by rw[eC]; exact q6
 have cT:c<((YF V c).1.cpus.length:Int):=by rw[lT]; exact c1
 have rT:RB (Ey (f+1)) (YF V c).1:=hR.r1.sum hR.tk.su hR.tk.o.g (by rw[eC]);have eT:(YF V c).1.tasks=V.tasks:=hR.tk.o.t;have eG:QS V.groups (YF V c).1.groups:=hR.tk.o.g;have eN:(YF V c).1.now=V.now:=hR.tk.o.n;have eSh:∀i:Int,0<=i->(gi (YF V c).1.groups i).shelves=(gi V.groups i).shelves:=hR.tk.o.s;have sT:VA V (YF V c).1:=(zp3 V c (Qm V c)).trans (zk4 c _ _);have lcT:BZ (YF V c).1:=sT.loc eT (U1 iv.wp)
 have eCp:∀d:Int,0<=d->gi (YF V c).1.cpus d=if c=d then Yb V c (Qm V c) else gi V.cpus d:=fun d hd=>by
  rw[eC]; exact Qw _ _ c0 c1 hd
 have hRW:HV V c left=if (YF V c).2=true then (Qg (Oj (YF V c).1 c (Qm V c) (U2 V c left)),left-U2 V c left) else (Qg (endW (YF V c).1 c),left):=rfl;rw[hRW]
 by_cases gt:(YF V c).2=true
 ·rw[if_pos gt];obtain⟨m1,m2⟩:=hR.m gt;obtain⟨sC,rC⟩:=hR.ch gt;have hl1:=h.l1;have hb:=zqz iv c0 c1 hR.line hp;have es:gi (YL V c (Qm V c)).cpus c=Yb V c (Qm V c):=(Qw _ _ c0 c1 c0).trans (if_pos rfl);rw[es] at hb q5;have hP:Vx (Oj (YF V c).1 c (Qm V c) (U2 V c left)):=ztm iv ⟨eT,eG,eSh,eCp,lT⟩ hR.tk.sw rT ⟨by omega,by omega⟩ c0 c1 h.up t0 t1 hR.line.st hR.line.cpu q5 hb m1 (by omega);refine Zn sC (by omega) (by omega) hP ?_;have uT:Q6 (YF V c).1.groups (Q8 (YF V c).1 (Qm V c)).group=true:=by rw[eG.usd,XF eT]; exact hR.us
  have upT:(gi (YF V c).1.cpus c).up=true:=by rw[eC]; exact q3
  have ranT:(gi (YF V c).1.cpus c).ran<50:=by rw[eC]; exact hR.ran
  have cp1:=(zdg (t:=Qm V c) (n:=U2 V c left) hR.tk.sw rT (by omega) c0 cT upT ranT t0 t1 uT (by omega) (by omega)).2.2.2.2.2.2.2.2;have l1:BZ (setTk (YF V c).1 (Qm V c) (K8 (YF V c).1 (Qm V c) (U2 V c left))):=lcT.setTk hR.tk.sw.a t0 t1 fun n=>lcT _ t0 t1 n
  have l2:=(zk2 c (U2 V c left) (Yz (YF V c).1 (Qm V c)) (setTk (YF V c).1 (Qm V c) (K8 (YF V c).1 (Qm V c) (U2 V c left)))).loc cp1.t l1;refine VA.loc (zew ?_) rfl l2;show (gi (YF V c).1.cpus c).up=(gi (zdf c (U2 V c left) (Yz (YF V c).1 (Qm V c)) (setTk (YF V c).1 (Qm V c) (K8 (YF V c).1 (Qm V c) (U2 V c left)))).cpus c).up;rw[cp1.cp]; rfl
 ·rw[if_neg gt]
  have hE:endW (YF V c).1 c=endW { (YF V c).1 with cpus:=V.cpus } c:=by
   have e1:=(eCp c c0).trans (if_pos rfl);show ({ (YF V c).1 with cpus:=(YF V c).1.cpus.set c.toNat (Xd (gi (YF V c).1.cpus c)) }:Q7)={ (YF V c).1 with cpus:=V.cpus.set c.toNat (Xd (gi V.cpus c)) };rw[e1,zly,eC];show ({ (YF V c).1 with cpus:=(V.cpus.set c.toNat (Yb V c (Qm V c))).set c.toNat (Xd (gi V.cpus c)) }:Q7)=_;rw[List.set_set]
  have ha:WA ({ (YF V c).1 with cpus:=V.cpus }:Q7):=hR.tk.sw.a.cp lT.symm iv.wp.a.ups;have p2:Vx ({ (YF V c).1 with cpus:=V.cpus }:Q7):=(X5 iv.wp).onlyB ⟨eN,rfl,eT,eG,eSh⟩ ha;have hloc:=lcT.endW c;have sE:=hR.tk.sw.endW c0 cT;rw[hE] at hloc sE ⊢;exact Zn sE (by omega) (by omega) (p2.endW c0 c1) hloc
theorem zgw{c:Int}{W0:Q7}:∀(f:Nat) {V:Q7} {left:Int},Ci f c W0 V left->XU V->XU (AV c f V left)
 | 0,V,left,h,_=>by
  have:=h.f1;have:=h.l0;omega
 | f+1,V,left,h,iv=>by
  have hK:=HY h.f2;have hh0:(0:Int)<=Qp:=by decide
  have hst:UL=173430457200:=rfl
  by_cases hl:left<=0
  ·rw[zgv hl];exact Zn h.sw (by omega) (by omega) (X5 iv.wp) (U1 iv.wp)
  ·by_cases hp:Qm V c<0
   ·rw[zb9 hl hp];exact zrh h iv
   ·rw[zca hl hp];have hR:=zi4 h (by omega) hp;exact zgw f hR.nx (zsn h iv (by omega) hp)
theorem zrr{W:Q7}{c n:Int}(iv:XU W)(hb:HW W c n=0):XU (zmv W c n):=zgw 400 (zpx (Qh.2 iv.wp) hb).2.2.2.2 iv
theorem zcr{W:Q7}(wp:Xs W){c:Int}(c0:0<=c)(c1:c<(W.cpus.length:Int)):Xs (endW W c):=by
 have hl:(endW W c).cpus.length=W.cpus.length:=List.length_set;have e:∀d:Int,0<=d->gi (endW W c).cpus d=if c=d then Xd (gi W.cpus c) else gi W.cpus d:=fun d d0=>Qw _ _ c0 c1 d0
 have sta:=L5 W c
 have ha:WA (endW W c):=wp.a.cp (cs:=W.cpus.set c.toNat (Xd (gi W.cpus c))) List.length_set (by
  rw[show J2 (W.cpus.set c.toNat (Xd (gi W.cpus c)))=J2 W.cpus from sta.ups];exact wp.a.ups)
 refine⟨ha,fun t t0 t1=>?_,fun k d k0 k1 d0 d1=>?_,fun d d0 d1=>?_⟩
 ·rcases wp.t t t0 t1 with hz | ⟨n,hx⟩
  ·exact .inl hz
  ·refine .inr ⟨n,hx.st,hx.g,hx.n,hx.m,hx.m0,hx.v,hx.s,hx.u,hx.l1,hx.l2,?_,hx.f⟩;rw[sta.wh]; exact hx.c
 ·have hs:=wp.s k d k0 k1 d0 d1;exact⟨hs.f,hs.v,hs.s,hs.w1,hs.w2,hs.root,hs.on,hs.st⟩
 ·rw[hl] at d1;have h:=wp.c d d0 d1
  by_cases hd:c=d
  ·subst hd;have e1:=(e c c0).trans (if_pos rfl);refine⟨by rw[e1]; exact h.b,by rw[e1]; exact h.i,by rw[e1]; show (-1:Int)<=-1; decide,by rw[e1]; show (-1:Int)<_; have:=wp.a.t; show (-1:Int)<(W.tasks.length:Int); omega,fun _=>by rw[e1]; rfl,fun h0=>?_⟩;rw[e1] at h0;have h0:(0:Int)<=-1:=h0;omega
  ·have e1:=(e d d0).trans (if_neg hd);refine⟨by rw[e1]; exact h.b,by rw[e1]; exact h.i,by rw[e1]; exact h.c1,by rw[e1]; exact h.c2,by rw[e1]; exact h.no,fun h0=>?_⟩;rw[e1] at h0 ⊢;obtain⟨y1,y2,y3,y4,y5,y6⟩:=h.yes h0;refine⟨y1,y2,y3,y4,y5,?_⟩;unfold OS at y6 ⊢;rw[e1];exact y6
theorem zl8{W:Q7}(iv:XU W){c:Int}(c0:0<=c)(c1:c<(W.cpus.length:Int)):XU (endW W c):=
 ⟨zcr iv.wp c0 c1,fun k d hu d0 d1 hb=>by
  have hl:(endW W c).cpus.length=W.cpus.length:=List.length_set;rw[hl] at d1;exact iv.fl k d hu d0 d1 hb⟩
def HK(W:Q7)(t g:Int):Int:=if Z8 (Qs W g (Q8 W t).mask) (Q8 W t).cpu=true then (Q8 W t).cpu else Lp (Qs W g (Q8 W t).mask)
noncomputable def Ap(W:Q7)(t g:Int):Int:=if ZT W t=false\/Q6 W.groups g=false then 2 else if QK W=false then 10 else 0
def zaj(W:Q7)(t g:Int):Q7:=if (Q8 W t).group=g then W else Qg (UJ (QQ W t) t g (HK W t g))
theorem zkk{W:Q7}(wp:Xs W){t g:Int}(t0:0<=t)(t1:t<12)(n:(Q8 W t).state≠0):0<=HK W t g/\HK W t g<(W.cpus.length:Int)/\Z8 (Qs W g (Q8 W t).mask) (HK W t g)=true:=by
 unfold HK;split
 ·rename_i h;have:=(X5 wp).l t t0 t1 n;exact⟨this.1,this.2,h⟩
 ·have hw:=KM wp.a g (Q8 W t).mask;have hf:=Lc wp.a g (Q8 W t).mask;exact⟨hf.1,hf.2,HI hw.1 hw.2⟩
theorem zrn{W:Q7}{t g:Int}(iv:XU W)(hb:Ap W t g=0):XU (zaj W t g):=by
 have wp:=iv.wp;unfold Ap at hb
 split at hb
 ·cases hb
 ·rename_i h1
  split at hb
  ·cases hb
  ·rename_i h3;have hth:ZT W t=true:=by cases h:ZT W t with | true=>rfl | false=>exact absurd (.inl h) h1
   have hu:Q6 W.groups g=true:=by cases h:Q6 W.groups g with | true=>rfl | false=>exact absurd (.inr h) h1
   have hr:QK W=true:=by simpa using h3
   obtain⟨t0,t1,n⟩:=YB hth;have htl:=wp.a.t;unfold zaj;split
   ·exact iv
   ·obtain⟨m0,m1,m2⟩:=zkk wp (g:=g) t0 (by omega) n;have sw:=OT wp (Qh.1 hr);obtain⟨c0,c1⟩:=(X5 wp).l t t0 (by omega) n
    have key:Vx (QQ W t)/\VA W (QQ W t)/\SW Qp (QQ W t)/\Q8 (QQ W t) t=Q8 W t/\(QQ W t).tasks=W.tasks/\(QQ W t).groups=W.groups:=by
     unfold QQ;split
     ·exact⟨(X5 wp).endW c0 c1,L5 _ _,sw.endW c0 c1,rfl,rfl,rfl⟩
     ·exact⟨X5 wp,VA.refl _,sw,rfl,rfl,rfl⟩
    obtain⟨k1,k2,k3,k4,k5,k6⟩:=key;have hlo:=k2.loc k5 (U1 wp);have hu2:Q6 (QQ W t).groups g=true:=by rw[k6]; exact hu
    have hm1:HK W t g<((QQ W t).cpus.length:Int):=by rw[k2.len]; exact m1
    have sf:=(BS (M3 k3) (Int.le_refl _) (t:=t) t0 (by omega) hu2 m0 hm1).2;refine Zn sf.w (by simp only[Qk]; decide) (by simp only[Qk,UL]; decide) (AS k1 t0 (by omega) (by rw[k4]; exact n) hu2 m0 hm1) fun i i0 i1 hn=>?_
    rw[(BU (QQ W t) t g (HK W t g)).wh];rw[zi1 k1.a.t t0 (by omega) i0] at hn ⊢
    split at hn
    ·rename_i he;rw[if_pos he];show Z8 (Qs (QQ W t) g (Q8 (QQ W t) t).mask) (HK W t g)=true;rw[k4,k2.wh]; exact m2
    ·rename_i he;rw[if_neg he];exact hlo i i0 i1 hn
structure zbd (W:Q7) (g:Int):Prop where
 g1:1<=g
 us:Q6 W.groups g=true
 nk:∀h:Int,1<=h->h<8->(gi W.groups h).used=true->(gi W.groups h).parent≠g
 nt:∀t:Int,0<=t->t<12->(Q8 W t).state≠0->(Q8 W t).group≠g
def Xp(W:Q7)(g:Int):Q7:=setGr W g Ce
section
variable {W:Q7}{g:Int}
theorem zbd.g8(h:zbd W g)(ha:WA W):g<8:=by
 have:=ha.gl;have:=(Q5.1 h.us).2.1;omega
theorem Lz(ha:WA W)(h:zbd W g){i:Int}(hi:0<=i):gi (Xp W g).groups i=if g=i then Ce else gi W.groups i:=Yj (by have:=h.g1; omega) (Q5.1 h.us).2.1 hi
theorem G7(ha:WA W)(h:zbd W g){k:Int}(hu:Q6 W.groups k=true)(hk:k≠g):gi (Xp W g).groups k=gi W.groups k:=by
 rw[Lz ha h (Q5.1 hu).1,if_neg fun e=>hk e.symm]
theorem zdk(ha:WA W):(Xp W g).groups.length=8:=by
 have:=ha.gl;simp[Xp,setGr]; omega
theorem NB(ha:WA W)(h:zbd W g){k:Int}(hu:Q6 W.groups k=true)(hz:k≠0):(gi W.groups k).parent≠g:=by
 obtain⟨a,b,c⟩:=Q5.1 hu;have:=ha.gl;exact h.nk k (by omega) (by omega) c
theorem BJ(ha:WA W)(h:zbd W g){k:Int}:Q6 (Xp W g).groups k=true↔Q6 W.groups k=true/\k≠g:=by
 have hgl:=ha.gl;rw[Q5,Q5,zdk ha,hgl];constructor
 ·rintro⟨x,y,z⟩;rw[Lz ha h x] at z
  by_cases e:g=k
  ·rw[if_pos e] at z; cases z
  ·rw[if_neg e] at z;exact⟨⟨x,y,z⟩,fun e2=>e e2.symm⟩
 ·rintro⟨⟨x,y,z⟩,e⟩;refine⟨x,y,?_⟩;rw[Lz ha h x,if_neg fun e2=>e e2.symm];exact z
theorem zn6(ha:WA W)(h:zbd W g):∀(f:Nat) (k:Int),Q6 W.groups k=true->k≠g->dep f (Xp W g).groups k=dep f W.groups k
 | 0,_,_,_=>rfl
 | f+1,k,hu,hk=>by
  by_cases hz:k=0
  ·subst hz; rw[Y8,Y8]
  ·have ih:=zn6 ha h f _ (ZZ ha.tree hu hz).1 (NB ha h hu hz);simp only[dep];rw[G7 ha h hu hk,ih]
theorem zdl(ha:WA W)(h:zbd W g):∀(f:Nat) (k:Int),Q6 W.groups k=true->k≠g->JS f (Xp W g).groups k=JS f W.groups k
 | 0,_,_,_=>rfl
 | f+1,k,hu,hk=>by
  by_cases hz:k=0
  ·subst hz; rw[Zc,Zc]
  ·have ih:=zdl ha h f _ (ZZ ha.tree hu hz).1 (NB ha h hu hz);simp only[JS];rw[G7 ha h hu hk,ih]
theorem zh1(ha:WA W)(h:zbd W g):∀k:Int,Q6 W.groups k=true->k≠g->∀x∈QX W.groups k,x≠g:=
 OO ha.tree (fun _ x hx=>by rw[show QX W.groups 0=[] from Zc _ _] at hx; cases hx) fun k hu hz ih hk x hx=>by
  rw[Yi ha.tree hu hz] at hx;rcases List.mem_cons.1 hx with e | e
  ·rw[e]; exact hk
  ·exact ih (NB ha h hu hz) x e
theorem zq8(ha:WA W)(h:zbd W g):ZU (Xp W g).groups:=by
 have ht:=ha.tree;have r:=G7 ha h ha.root (by have:=h.g1; omega)
 have sp:∀{k:Int},1<=k->k<8->(gi (Xp W g).groups k).used=true->Q6 W.groups k=true/\k≠g/\gi (Xp W g).groups k=gi W.groups k:=fun {k} b d hh=>by
  have:=(BJ ha h).1 (Q5.2 ⟨by omega,by rw[zdk ha]; omega,hh⟩);exact⟨this.1,this.2,G7 ha h this.1 this.2⟩
 refine⟨zdk ha,by rw[r]; exact ht.ru,by rw[r]; exact ht.rp,by rw[r]; exact ht.rn,fun k b d hh=>?_,fun k b d hh=>?_,fun k b d hh=>?_,fun x k b d e hx hk=>?_⟩
 ·obtain⟨_,_,e⟩:=sp b d hh;rw[e] at hh ⊢; exact ht.nm k b d hh
 ·obtain⟨_,_,e⟩:=sp b d hh;rw[e] at hh ⊢;exact(BJ ha h).2 ⟨ht.par k b d hh,h.nk k b d hh⟩
 ·obtain⟨u,n,_⟩:=sp b d hh;rw[zn6 ha h 3 k u n]; exact ht.dp k b d (Q5.1 u).2.2
 ·rintro⟨q1,q2⟩;obtain⟨u1,_,e1⟩:=sp (by omega) e hx;obtain⟨u2,_,e2⟩:=sp b (by omega) hk;rw[e1,e2] at q1 q2;exact ht.uniq x k b d e (Q5.1 u1).2.2 (Q5.1 u2).2.2 ⟨q1,q2⟩
theorem Me(ha:WA W)(h:zbd W g){k c:Int}(hu:Q6 W.groups k=true)(hk:k≠g):Qc (Xp W g) k c=Qc W k c:=by
 unfold Qc;rw[G7 ha h hu hk]
theorem zq7(wp:Xs W)(h:zbd W g){c:Int}:QP W g c=false:=by
 have hl:=wp.a.gl;have ht:=wp.a.t
 have e1:∀j,j<W.tasks.length->TH W g c j=false:=fun j hj=>by
  unfold TH
  cases hs:((gi W.tasks (j:Int)).state==1) with
  | false=>rfl
  | true=>
   have hs:(gi W.tasks (j:Int)).state=1:=by simpa using hs
   have:(gi W.tasks (j:Int)).group≠g:=h.nt (j:Int) (by omega) (by omega) (by rw[show (Q8 W (j:Int)).state=1 from hs]; decide);rw[show ((gi W.tasks (j:Int)).group==g)=false by simpa using this];rfl
 have e2:∀j,j<W.groups.length->XV W g c j=false:=fun j hj=>by
  unfold XV
  by_cases hj1:1<=j
  ·cases hs:(gi W.groups (j:Int)).used with
   | false=>simp
   | true=>
    have:=h.nk (j:Int) (by omega) (by omega) hs;rw[show ((gi W.groups (j:Int)).parent==g)=false by simpa using this];simp
  ·rw[decide_eq_false hj1]; rfl
 unfold QP;rw[PF e1,PF e2];rfl
theorem ztp(wp:Xs W)(h:zbd W g){c:Int}(c0:0<=c)(c1:c<(W.cpus.length:Int)):(Qc W g c).on=false:=by
 have g1:=h.g1;have:=(wp.s g c (by omega) (h.g8 wp.a) c0 (by rw[wp.a.sl h.us]; exact c1)).on (by omega);rw[this,zq7 wp h]; rfl
theorem zj3(wp:Xs W)(h:zbd W g){k c:Int}(c0:0<=c)(c1:c<(W.cpus.length:Int))(j:Nat):XV (Xp W g) k c j=XV W k c j:=by
 have ha:=wp.a;unfold XV
 by_cases e:g=(j:Int)
 ·rw[Lz ha h (by omega),if_pos e,<-e,ztp wp h c0 c1];simp[Ce]
 ·rw[Lz ha h (by omega),if_neg e]
  have:Qc (Xp W g) (j:Int) c=Qc W (j:Int) c:=by
   unfold Qc;rw[Lz ha h (by omega),if_neg e]
  rw[this]
theorem zto(wp:Xs W)(h:zbd W g){k c:Int}(c0:0<=c)(c1:c<(W.cpus.length:Int)):QP (Xp W g) k c=QP W k c:=by
 unfold QP;rw[show VC (TH (Xp W g) k c) (Xp W g).tasks.length=VC (TH W k c) W.tasks.length from rfl,zdk wp.a,wp.a.gl];rw[PE fun j _=>zj3 wp h c0 c1 j]
theorem ztq(ha:WA W)(h:zbd W g){k:Int}(hu:Q6 W.groups k=true)(hk:k≠g)(u:Int):UW (Xp W g).groups k u=UW W.groups k u:=by
 have e:QX (Xp W g).groups k=QX W.groups k:=zdl ha h 3 k hu hk;have g1:=h.g1;unfold UW;rw[e];refine DS _ _ fun s x hx=>?_
 have hxu:Q6 W.groups x=true/\x≠g:=by
  rcases List.mem_append.1 hx with hx | hx
  ·exact⟨(Yq ha.tree k hu x hx).1,zh1 ha h k hu hk x hx⟩
  ·rw[List.mem_singleton.1 hx]; exact⟨ha.root,by omega⟩
 rw[G7 ha h hxu.1 hxu.2]
theorem zvc(ha:WA W)(h:zbd W g){k:Int}(hu:Q6 W.groups k=true)(hk:k≠g)(m:Int):Qs (Xp W g) k m=Qs W k m:=zql (W:=W) (W':=Xp W g) rfl (ztq ha h hu hk) m
theorem zrk(iv:XU W)(h:zbd W g):XU (Xp W g):=by
 have wp:=iv.wp;have ha:=wp.a;have g1:=h.g1;have g8:=h.g8 ha;have hgl:=ha.gl;have hpu:∀{k:Int},Q6 W.groups k=true->k≠0->Q6 W.groups (gi W.groups k).parent=true:=fun hu hz=>(ZZ ha.tree hu hz).1
 have hA:WA (Xp W g):=by
  refine⟨ha.n1,ha.n2,ha.c1,ha.c2,ha.t,zq8 ha h,ha.ups,fun k k0 k1=>?_⟩;unfold Pl;rw[Lz ha h k0];split
  ·exact⟨fun _=>⟨rfl,rfl,rfl,rfl,rfl,rfl,rfl,rfl,show T7 ⟨0,0,0,[],[]⟩=true by decide⟩,fun hh=>by cases hh⟩
  ·have:=ha.grp k k0 k1;exact⟨this.1,fun hu=>by have:=this.2 hu; exact⟨this.w1,this.w2,this.m,this.m0,this.s,this.len,this.root,this.none,this.band⟩⟩
 refine⟨⟨hA,fun t t0 t1=>?_,fun k c k0 k1 c0 c1=>?_,fun c c0 c1=>?_⟩,fun k c hu c0 c1 hb=>?_⟩
 ·rcases wp.t t t0 t1 with hz | ⟨n,hx⟩
  ·exact .inl hz
  ·have hn:=h.nt t t0 t1 n;refine .inr ⟨n,hx.st,(BJ ha h).2 ⟨hx.g,hn⟩,hx.n,hx.m,hx.m0,hx.v,hx.s,hx.u,hx.l1,hx.l2,?_,fun hs=>?_⟩
   ·rw[show (Q8 (Xp W g) t)=Q8 W t from rfl,zvc ha h hx.g hn]; exact hx.c
   ·rw[show (Q8 (Xp W g) t)=Q8 W t from rfl,Me ha h hx.g hn]; exact hx.f hs
 ·by_cases e:g=k
  ·subst e;rw[Lz ha h k0,if_pos rfl] at c1;have c1:c<(0:Int):=c1;omega
  ·have hg:gi (Xp W g).groups k=gi W.groups k:=by rw[Lz ha h k0,if_neg e]
   have e2:k≠g:=fun h=>e h.symm
   rw[hg] at c1
   have hu:Q6 W.groups k=true:=by
    cases hh:(gi W.groups k).used with
    | true=>exact Q5.2 ⟨k0,by omega,hh⟩
    | false=>
     have:=((ha.grp k k0 k1).1 hh).l;omega
   have cl:c<(W.cpus.length:Int):=by rw[<-ha.sl hu]; exact c1
   have hs:=wp.s k c k0 k1 c0 c1;have es:=Me ha h (c:=c) hu e2;refine⟨by rw[es]; exact hs.f,by rw[es]; exact hs.v,by rw[es]; exact hs.s,by rw[es]; exact hs.w1,by rw[es]; exact hs.w2,fun hz=>by rw[es]; exact hs.root hz,fun hz=>?_,fun hz ho=>?_⟩
   ·rw[es,zto wp h c0 cl,show UU (Xp W g) k c=UU W k c by unfold UU; rw[hg]];exact hs.on hz
   ·rw[es] at ho;rw[es,hg,Me ha h (hpu hu hz) (NB ha h hu hz)];exact hs.st hz ho
 ·have hc:=wp.c c c0 c1;refine⟨hc.b,hc.i,hc.c1,hc.c2,hc.no,fun h0=>?_⟩;have h0:0<=(gi W.cpus c).cur:=h0;obtain⟨y1,y2,y3,y4,y5,y6⟩:=hc.yes h0;have hl:=ha.t;have hc2:=hc.c2
  have hgu:Q6 W.groups (Q8 W (gi W.cpus c).cur).group=true/\(Q8 W (gi W.cpus c).cur).group≠g:=by
   rcases wp.t _ h0 (by omega) with hz | ⟨n,hx⟩
   ·unfold Zy at y5;rw[hz.1] at y5;simp at y5
   ·exact⟨hx.g,h.nt _ h0 (by omega) n⟩
  obtain⟨hgu,hgn⟩:=hgu;have hpt:QX (Xp W g).groups (Q8 W (gi W.cpus c).cur).group=QX W.groups (Q8 W (gi W.cpus c).cur).group:=zdl ha h 3 _ hgu hgn;refine⟨y1,y2,y3,y4,?_,?_⟩
  ·unfold Zy U8 at y5 ⊢;rw[show (gi (Xp W g).cpus c).cur=(gi W.cpus c).cur from rfl,show Q8 (Xp W g) (gi W.cpus c).cur=Q8 W (gi W.cpus c).cur from rfl,hpt];rw[Bool.and_eq_true,List.all_eq_true] at y5 ⊢;exact⟨y5.1,fun x hx=>by rw[Me ha h (Yq ha.tree _ hgu x hx).1 (zh1 ha h _ hgu hgn x hx)]; exact y5.2 x hx⟩
  ·unfold OS VJ at y6 ⊢;rw[show (gi (Xp W g).cpus c).cur=(gi W.cpus c).cur from rfl,show (gi (Xp W g).cpus c).ran=(gi W.cpus c).ran from rfl,show Q8 (Xp W g) (gi W.cpus c).cur=Q8 W (gi W.cpus c).cur from rfl,hpt,Me ha h hgu hgn];rw[Bool.and_eq_true,List.all_eq_true] at y6 ⊢;refine⟨y6.1,fun x hx=>?_⟩;obtain⟨xu,xz⟩:=Yq ha.tree _ hgu x hx;have xg:=zh1 ha h _ hgu hgn x hx;rw[Me ha h xu xg,G7 ha h xu xg,Me ha h (hpu xu xz) (NB ha h xu xz)];exact y6.2 x hx
 ·have cl:c<(W.cpus.length:Int):=c1;obtain⟨hk,hkg⟩:=(BJ ha h).1 hu
  have hmem:∀j,j<20->Zi (Xp W g) k c j=Zi W k c j:=fun j hj=>by
   by_cases hj12:j<12
   ·rw[Vq hj12,Vq hj12]; rfl
   ·rw[show j=12+(j-12) by omega,JA,JA,zj3 wp h c0 cl (j-12)]
  have hv:∀j,j<20->Zi (Xp W g) k c j=true->Zj (Xp W g) c j=Zj W c j:=fun j hj hm=>by
   unfold Zj;split
   ·rfl
   ·rename_i hj12;have hm2:=hm;rw[show j=12+(j-12) by omega,JA] at hm2;unfold XV at hm2;simp only[Bool.and_eq_true] at hm2
    have hne:((j-12:Nat):Int)≠g:=fun e=>by
     have hu2:=hm2.1.2.1;rw[Lz ha h (by omega),if_pos e.symm] at hu2;cases hu2
    rw[hmem j hj,show j=12+(j-12) by omega,JA] at hm;unfold XV at hm;simp only[Bool.and_eq_true] at hm;rw[Me ha h (Q5.2 ⟨by omega,by omega,hm.1.2.1⟩) hne]
  have e:QM (Zi (Xp W g) k c) (Zj (Xp W g) c) 20=QM (Zi W k c) (Zj W c) 20:=Pb hmem hv;have hfl:=iv.fl k c hk c0 cl (by unfold ZH at hb ⊢; rwa[e] at hb);rw[Me ha h hk hkg];refine Int.le_trans (Int.le_of_eq ?_) hfl;unfold ZH at hb;have hb:=Ot hb;rw[e] at hb;unfold Z9;rw[e,if_neg (by omega),if_neg (by omega)];rcases Zf (Zi W k c) (Zj W c) 20 with ⟨q,_⟩ | ⟨_,q2,q3,_⟩
  ·omega
  ·have hlt:(QM (Zi W k c) (Zj W c) 20).toNat<20:=by omega
   exact hv _ hlt (by rw[hmem _ hlt]; exact q3)
def znf(W:Q7)(g:Int):Prop:=(∃h:Int,1<=h/\h<8/\(gi W.groups h).used=true/\(gi W.groups h).parent=g)\/∃t:Int,0<=t/\t<12/\(Q8 W t).state≠0/\(Q8 W t).group=g
noncomputable def DF(W:Q7)(g:Int):Int:=if g=0 then 1 else if Q6 W.groups g=false then 2 else if Jr (znf W g)=true then 4 else if QK W=false then 10 else 0
theorem zn7{W:Q7}{g:Int}(hb:DF W g=0):zbd W g/\QK W=true:=by
 unfold DF at hb
 split at hb
 ·cases hb
 rename_i h1
 split at hb
 ·cases hb
 rename_i h2
 split at hb
 ·cases hb
 rename_i h3
 split at hb
 ·cases hb
 rename_i h4;have h3:¬znf W g:=fun h=>h3 (Qh.2 h)
 have hu:Q6 W.groups g=true:=by simpa using h2
 have:=(Q5.1 hu).1;exact⟨⟨by omega,hu,fun h a b c d=>h3 (.inl ⟨h,a,b,c,d⟩),fun t a b c d=>h3 (.inr ⟨t,a,b,c,d⟩)⟩,by simpa using h4⟩
end
def U3(W:Q7)(c:Int):Int:=if YJ W c=false then 1 else if (gi W.cpus c).cur<0 then 6 else 0
theorem zjm{W:Q7}{c:Int}(h:U3 W c=0):YJ W c=true/\0<=(gi W.cpus c).cur:=by
 unfold U3 at h
 split at h
 ·cases h
 ·rename_i h1
  split at h
  ·cases h
  ·exact⟨by simpa using h1,by omega⟩
section
variable {W:Q7}{m:MW}{w:Wo}{bs:List Nat}
theorem Pa{c:Int}(h:YZ [] w W m)(hl:Xc W) :
  Cz XO #[.agg (Qa W m).toArray,.int .i64 c] w fun e w'=>∃v,e=.returned v/\QG (YG W (U3 W c) (endW W c)) w v w':=by
 refine Hi W.now m.cO W.cpus.length m.cC m.tO W.tasks.length m.tC m.gO W.groups.length m.gC c (R:=fun v w'=>QG (YG W (U3 W c) (endW W c)) w v w') ?_;intro y hy y1 hy1;have hm0:=Xa;have hlc:=hl.c;refine⟨_,X2 h hl.c hl.t hl.g hl.f,fun g wr hx=>QG.bad (by simpa using g) hx,fun g wr hx2 hs2=>?_⟩;have hW:Qv W=true:=by simpa using g
 have wp:=Qh.1 hW;refine Calls.mono (O8 (h.ext hx2) wp.a) ?_;rintro e wv ⟨m',he,hM,hy2⟩;have hK:=Wk.begin hy hy1 hx2 hs2 hM hy2;have hr:=hK.rd;refine⟨_,_,_,_,_,_,_,_,_,_,he,Qd hy2 hs2,⟨by omega,by omega⟩,YJ W c,Qj,fun g wr1 hx3=>?_,fun g=>?_⟩
 ·have hb:U3 W c=1:=by unfold U3; rw[if_pos (by simpa using g)]
  exact QG.no hW (by rw[hb]; decide) (hK.step hx3) hb
 have g:YJ W c=true:=by simpa using g
 obtain⟨c0,c1⟩:=JG g;refine⟨hr.c.ix Zh c0 c1,_,hr.c.f c0 c1 (j:=1) rfl,fun g2 wr2 hx3=>?_,fun g2 wr4 hx4 hs4=>?_⟩
 ·have g2:=Ot g2;have hb:U3 W c=6:=by unfold U3; rw[if_neg (by rw[g]; decide),if_pos g2]
  exact QG.no hW (by rw[hb]; decide) (hK.step hx3) hb
 have g2:=Ou g2;have hb:U3 W c=0:=by unfold U3; rw[if_neg (by rw[g]; decide),if_neg g2]
 have hK4:=hK.step hx4;refine Calls.mono (Zp hK4.own c0 c1) ?_;rintro e1 wv1 ⟨he1,hy3⟩;exact⟨_,_,_,_,_,_,_,_,_,_,he1,hK4.kept hy3 hs4,fun wr5 hx5=>QG.ok hW hb ((hK4.deed hy3 hs4).step hx5)⟩
theorem zlx(V:Q7)(t g c:Int)(m:MW):Qa (UJ V t g c) m=Qa V m:=by
 unfold UJ
 split <;> simp[Qa,endW,setCp,setTk]
theorem zub{K:Int}{W:Q7}(sw:SW K W){t:Int}(t0:0<=t)(t1:t<12)(n:(Q8 W t).state≠0):SW K (QQ W t):=by
 unfold QQ;split
 ·have:=sw.t t t0 t1 n;exact sw.endW this.2.1 this.2.2
 ·exact sw
theorem B6{t g:Int}(h:YZ [] w W m)(hl:Xc W) :
  Cz VS #[.agg (Qa W m).toArray,.int .i64 t,.int .i64 g] w fun e w'=>∃v,e=.returned v/\QG (YG W (Ap W t g) (zaj W t g)) w v w':=by
 refine FN W.now m.cO W.cpus.length m.cC m.tO W.tasks.length m.tC m.gO W.groups.length m.gC t g (R:=fun v w'=>QG (YG W (Ap W t g) (zaj W t g)) w v w') ?_;intro y hy y1 hy1 wr hx2 hs2;refine Calls.mono (Z5 (h.ext hx2) hl) ?_;rintro e wv (⟨hW,he,hy2⟩ | ⟨hW,m',he,hM,hy2⟩)
 ·exact⟨_,_,_,_,_,_,_,_,_,_,_,he,Qd hy2 hs2,fun _ wr1 hx3=>QG.bad hW ((hx2.trans hy2).fresh hx3 fun z hm=>.inl (Yr hy hy1 z hm)),fun g=>by simp at g⟩
 have hK:=Wk.begin hy hy1 hx2 hs2 hM hy2;have hr:=hK.rd;have wp:=Qh.1 hW;have htl:=wp.a.t;refine⟨_,_,_,_,_,_,_,_,_,_,_,he,Qd hy2 hs2,fun g=>by split at g <;> simp at g,fun _=>⟨_,J5 hr hl.t,_,fun _=>YR hr.g,fun q wr2 hx3=>?_,fun q=>?_⟩⟩
 ·have hb:Ap W t g=2:=by
   unfold Ap;rw[if_pos]
   simpa using q
  exact QG.no hW (by rw[hb]; decide) (hK.step hx3) hb
 simp only[Bool.or_eq_false_iff,Bool.not_eq_false'] at q;obtain⟨q1,q2⟩:=q;have n1:¬(ZT W t=false\/Q6 W.groups g=false):=by rw[q1,q2]; simp
 obtain⟨t0,t1,tn⟩:=YB q1;have hix:=hr.t.ix QI t0 t1;refine⟨fun g3 wr4 hx3=>?_,fun g3=>?_⟩
 ·have hr0:¬QK W=true:=fun hr=>by rw[if_pos hr] at g3; simp at g3
  have hb:Ap W t g=10:=by unfold Ap; rw[if_neg n1,if_pos (by simpa using hr0)]
  rw[if_neg hr0];exact QG.no hW (by rw[hb]; decide) (hK.step hx3) hb
 have hr0:QK W=true:=Decidable.byContradiction fun hr=>by rw[if_neg hr] at g3; simp at g3
 have hb:Ap W t g=0:=by unfold Ap; rw[if_neg n1,if_neg (by rw[hr0]; decide)]
 have sw:=OT wp (Qh.1 hr0);obtain⟨hu,c0,c1⟩:=sw.t t t0 (by omega) tn;refine⟨hix,_,_,_,_,_,_,_,_,_,hr.t t t0 t1,fun b2 hb2=>⟨fun g4 wr4 hx4=>?_,fun g4=>?_⟩⟩
 ·have g4:(Q8 W t).group=g:=by simpa[Q8] using g4
  have hE:zaj W t g=W:=by unfold zaj; rw[if_pos g4]
  have:=QG.ok (W':=zaj W t g) hW hb (m':=m') (hE.symm▸hK.step hx4)
  rwa[hE] at this ⊢
 have g4:¬(Q8 W t).group=g:=by simpa[Q8] using g4
 have hE:zaj W t g=Qg (UJ (QQ W t) t g (HK W t g)):=by unfold zaj; rw[if_neg g4]
 obtain⟨m0,m1,_⟩:=zkk wp (g:=g) t0 (by omega) tn;have hK0:=hK.add hb2;refine⟨_,XA hr wp.a.c2 wp.a.tree q2,fun vs bs w1=>bs=[]/\vs=[.int .i64 (HK W t g)]/\Q0 [y,y1] wv w1,⟨_,ZM,fun g5=>⟨_,PN,fun wr5 hx5 _=>⟨rfl,?_,hx5⟩⟩,fun g5 wr6 hx6 _=>⟨rfl,?_,hx6⟩⟩,?_⟩
 ·have g5:¬Z8 (Qs W g (Q8 W t).mask) (Q8 W t).cpu=true:=by simpa[Q8] using g5
  unfold HK; rw[if_neg g5]; rfl
 ·have g5:Z8 (Qs W g (Q8 W t).mask) (Q8 W t).cpu=true:=by simpa[Q8] using g5
  unfold HK; rw[if_pos g5]; rfl
 rintro cv wv1 hs1 ⟨-,hv,hxv⟩;simp only[List.cons.injEq,Value.int.injEq,true_and,and_true] at hv;subst hv;have hxv3:Q0 ([y,y1]++[b2]) wv wv1:=hxv.mono fun x hm=>List.mem_append_left _ hm
 have hK1:=hK0.step hxv3;have e5:Qa (endW W (Q8 W t).cpu) m'=Qa W m':=by simp[Qa,endW,setCp]
 refine⟨fun vs bs w1=>bs=[]/\vs=Qa W m'/\Wk 8 ([y,y1]++[b2]) w w1 (QQ W t) m',⟨hK1.rd.c.ix Zh c0 c1,_,hK1.rd.c.f c0 c1 (j:=1) rfl,fun g6 wr7 hx7 hs7=>?_,fun g6 wr9 hx9 _=>⟨rfl,rfl,?_⟩⟩,?_⟩
 ·have g6:(gi W.cpus (Q8 W t).cpu).cur=t:=by simpa using g6
  have hK2:=hK1.step hx7;refine Calls.mono (Zp hK2.own c0 c1) ?_;rintro e1 wv2 ⟨he1,hy3⟩;rw[show Qa (endW W (gi W.tasks t).cpu) m'=Qa W m' from e5] at he1;refine⟨_,_,_,_,_,_,_,_,_,_,he1,hK2.kept hy3 hs7,fun wr8 hx8 _=>⟨rfl,rfl,?_⟩⟩;have hlv:QQ W t=endW W (Q8 W t).cpu:=by unfold QQ; rw[if_pos g6]
  rw[hlv];exact(hK2.deed hy3 hs7).step hx8
 ·have g6:¬(gi W.cpus (Q8 W t).cpu).cur=t:=by simpa using g6
  have hlv:QQ W t=W:=by unfold QQ; rw[if_neg g6]
  rw[hlv];exact hK1.step hx9
 rintro l l1O l1L l1C l2O l2L l2C l3O l3L l3C wv3 hs3 ⟨-,hv,hK3⟩;simp only[Qa,List.cons.injEq,Value.int.injEq,Value.slice.injEq,true_and,and_true] at hv;obtain⟨rfl,⟨rfl,rfl,rfl⟩,⟨rfl,rfl,rfl⟩,rfl,rfl,rfl⟩:=hv;have swl:=zub sw t0 (by omega) tn;have ht:(QQ W t).tasks=W.tasks:=by unfold QQ; split <;> rfl
 have hg:(QQ W t).groups=W.groups:=by unfold QQ; split <;> rfl
 have hcl:(QQ W t).cpus.length=W.cpus.length:=by
  unfold QQ; split
  ·exact List.length_set
  ·rfl
 have hn:(QQ W t).now=W.now:=by unfold QQ; split <;> rfl
 have eL:∀mm,Qa (QQ W t) mm=Qa W mm:=fun mm=>by simp[Qa,ht,hg,hcl,hn]
 have tn2:(Q8 (QQ W t) t).state≠0:=by rw[XF ht]; exact tn
 have hu2:Q6 (QQ W t).groups g=true:=by rw[hg]; exact q2
 have hm1:HK W t g<((QQ W t).cpus.length:Int):=by rw[hcl]; exact m1
 rw[hE];generalize QQ W t=V at hK3 swl eL tn2 hu2 hm1;generalize HK W t g=c at m0 hm1;intro wr10 hx10 hs10;have hK4:=hK3.step hx10;have hcall:=U7 hK4.own (M3 swl) (Int.le_refl _) (by simp only[Qk]; decide) (t:=t) (g:=g) (c:=c) t0 (by omega) tn2 hu2 m0 hm1;rw[eL] at hcall;refine Calls.mono hcall ?_;rintro e2 wv4 ⟨he2,hy4⟩;have hK5:=hK4.deed hy4 hs10;have sf2:=(BS (M3 swl) (Int.le_refl _) (t:=t) t0 (by omega) hu2 m0 hm1).2;have eP:Qa (UJ V t g c) m'=Qa W m':=by rw[<-eL]; exact zlx V t g c m'
 refine⟨_,_,_,_,_,_,_,_,_,_,he2,hK4.kept hy4 hs10,fun wr11 hx11 hs11=>?_⟩;have hK6:=hK5.step hx11;have hcall3:=Qq hK6.own sf2.w (by simp only[Qk]; decide) (by simp only[Qk]; decide) hK6.base;rw[eP] at hcall3;refine Calls.mono hcall3 ?_;rintro e3 wv5 ⟨m2,he3,hy5⟩;exact⟨_,_,_,_,_,_,_,_,_,_,he3,hK6.kept hy5 hs11,fun wr12 hx12=>QG.ok hW hb ((hK6.deed hy5 hs11).step hx12)⟩
theorem Bc{g:Int}(h:YZ bs w W m)(hg8:W.groups.length=8)(ht12:W.tasks.length=12) :
  PX bs VY #[.agg (Qa W m).toArray,.int .i64 g] w (.bool (Jr (znf W g))):=
 Bt W.now m.cO W.cpus.length m.cC m.tO W.tasks.length m.tC m.gO W.groups.length m.gC g fun wr hx=>by
  have h:=(h.ext hx).less (cs:=[]) (by simp);intro b hb;refine YE 8 1 rfl (fun k=>1<=k/\k<=8/\∀j:Int,1<=j->j<(k:Int)->¬((gi W.groups j).used=true/\(gi W.groups j).parent=g)) ⟨by omega,by omega,fun j a b=>by omega⟩ fun k ⟨hk1,hk8,hno⟩=>⟨fun hlt=>?_,fun hge=>?_⟩
  ·have hlt:=Ot hlt;have k0:(0:Int)<=(k:Int):=by omega
   refine⟨h.g.ix k0 hlt,_,h.g.used k0 hlt,fun _=>h.g.ix k0 hlt,_,fun _=>h.g.parent k0 hlt,fun q=>?_,fun q=>⟨⟨by omega,by omega⟩,Qr (by omega) ⟨by omega,by omega,fun j a b=>?_⟩⟩⟩
   ·rw[Bool.and_eq_true,beq_iff_eq] at q;exact zhj (.inl ⟨(k:Int),by omega,by omega,q.1,q.2⟩)
   ·by_cases e:j<(k:Int)
    ·exact hno j a e
    ·have:j=(k:Int):=by omega
     subst this;rintro⟨q1,q2⟩;rw[q1,beq_iff_eq.2 q2] at q;cases q
  ·have hge:=Ou hge;refine YE 12 0 rfl (fun k=>k<=12/\∀j:Int,0<=j->j<(k:Int)->¬((Q8 W j).state≠0/\(Q8 W j).group=g)) ⟨by omega,fun j a b=>by omega⟩ fun k2 ⟨hk12,hnt⟩=>⟨fun hlt2=>?_,fun hge2=>?_⟩
   ·have hlt2:=Ot hlt2;have k0:(0:Int)<=(k2:Int):=by omega
    refine⟨h.t.ix QI k0 hlt2,_,h.t.f k0 hlt2 (j:=0) rfl,fun _=>h.t.ix QI k0 hlt2,_,fun _=>h.t.f k0 hlt2 (j:=1) rfl,fun q=>?_,fun q=>⟨⟨by omega,by omega⟩,Qr (by omega) ⟨by omega,fun j a b=>?_⟩⟩⟩
    ·rw[Bool.and_eq_true,beq_iff_eq,bne_iff_ne] at q;exact zhj (.inr ⟨(k2:Int),by omega,by omega,q.1,q.2⟩)
    ·by_cases e:j<(k2:Int)
     ·exact hnt j a e
     ·have:j=(k2:Int):=by omega
      subst this;rintro⟨q1,q2⟩;have q1:(gi W.tasks (k2:Int)).state≠0:=q1;have q2:(gi W.tasks (k2:Int)).group=g:=q2;rw[bne_iff_ne.2 q1,beq_iff_eq.2 q2] at q;cases q
   ·have hge2:=Ou hge2;refine MU ?_;rintro (⟨j,a,b,c,d⟩ | ⟨j,a,b,c,d⟩)
    ·exact hno j a (by omega) ⟨c,d⟩
    ·exact hnt j a (by omega) ⟨c,d⟩
theorem E0{g:Int}(h:YZ [] w W m)(hl:Xc W) :
  Cz Vc #[.agg (Qa W m).toArray,.int .i64 g] w fun e w'=>∃v,e=.returned v/\QG (YG W (DF W g) (Xp W g)) w v w':=by
 refine DH W.now m.cO W.cpus.length m.cC m.tO W.tasks.length m.tC m.gO W.groups.length m.gC g (R:=fun v w'=>QG (YG W (DF W g) (Xp W g)) w v w') ?_;intro x hx x1 hx1 wr hx2 hs2;refine Calls.mono (Um (g:=g) (ok:=true) (h.ext hx2) hl) ?_;rintro e wv (⟨hW,he,hy⟩ | ⟨hW,m',he,hM,hy⟩)
 ·exact⟨_,_,_,_,_,_,_,_,_,_,_,he,Qd hy hs2,fun _ wr1 hx3=>QG.bad hW ((hx2.trans hy).fresh hx3 fun y hm=>.inl (Yr hx hx1 y hm)),fun g=>by simp at g⟩
 have hK:=Wk.begin hx hx1 hx2 hs2 hM hy;have hr:=hK.rd;have wp:=Qh.1 hW;refine⟨_,_,_,_,_,_,_,_,_,_,_,he,Qd hy hs2,fun g1 wr1 hx3=>?_,fun g1=>⟨_,Bc hr wp.a.gl wp.a.t,fun g2 wr2 hx3=>?_,fun g2=>⟨fun g3 wr3 hx3=>?_,fun g3=>?_⟩⟩⟩
 ·have hb:DF W g=Pr W g true:=by
   by_cases h0:g=0
   ·unfold DF Pr;rw[if_pos h0,if_pos (.inr h0)]
   ·have e0:¬(true=false\/g=0):=by simp[h0]
    by_cases h1:Q6 W.groups g=false
    ·unfold DF Pr;rw[if_neg h0,if_neg e0,if_pos h1,if_pos h1]
    ·exfalso
     unfold Pr at g1;rw[if_neg e0,if_neg h1] at g1
     split at g1 <;> simp at g1
  exact QG.no hW (fun h0=>by rw[<-hb,h0] at g1; simp at g1) (hK.step hx3) hb
 all_goals
  have g1':¬g=0/\¬Q6 W.groups g=false:=by
   unfold Pr at g1
   by_cases h0:g=0
   ·rw[if_pos (.inr h0)] at g1; simp at g1
   ·refine⟨h0,fun h1=>?_⟩;rw[if_neg (show ¬(true=false\/g=0) by simp[h0]),if_pos h1] at g1;simp at g1
  have hgB:Pr W g true=if QK W=false then 10 else 0:=by
   unfold Pr;rw[if_neg (show ¬(true=false\/g=0) by simp[g1'.1]),if_neg g1'.2]
 ·have hb:DF W g=4:=by unfold DF; rw[if_neg g1'.1,if_neg g1'.2,if_pos g2]
  exact QG.no hW (by rw[hb]; decide) (hK.step hx3) hb
 ·have hr0:QK W=false:=by
   cases hq:QK W with
   | false=>rfl
   | true=>rw[hgB,hq] at g3; simp at g3
  have hb:DF W g=10:=by unfold DF; rw[if_neg g1'.1,if_neg g1'.2,if_neg (by rw[g2]; decide),if_pos hr0]
  rw[hgB,if_pos hr0];exact QG.no hW (by rw[hb]; decide) (hK.step hx3) hb
 ·have hr0:QK W=true:=by
   cases hq:QK W with
   | true=>rfl
   | false=>rw[hgB,hq] at g3; simp at g3
  have hb:DF W g=0:=by unfold DF; rw[if_neg g1'.1,if_neg g1'.2,if_neg (by rw[g2]; decide),if_neg (by rw[hr0]; decide)]
  have hu:Q6 W.groups g=true:=by simpa using g1'.2
  obtain⟨u0,u1,_⟩:=Q5.1 hu;have hgl:=wp.a.gl
  have hset:Wk 8 [x,x1] w (sto wv m'.gO (Int.toNat g*14) (Yc Ce Bi)) (Xp W g) (Oc m' g.toNat Bi):=
   ⟨hK.s.call EE fun y hy=>(hK.own.lt y hy).1,⟨hK.own.stoG u0 (by omega) (g:=Ce) (p:=Bi) (j:=0) (vs:=Yc Ce Bi) ⟨.inl ⟨rfl,rfl,rfl⟩,.inl ⟨rfl,rfl,rfl⟩,.inl ⟨rfl,rfl,rfl⟩⟩ (fun y hy=>by simp[Ql,Bi,Qy] at hy) (by simp[Yc]) (by simp[Yc]),fun y hy hm=>by
    rcases Ta y hy with h1 | h1
    ·exact hK.nb y h1 hm
    ·simp[Ql,Bi,Qy] at h1⟩⟩
  refine⟨hr.g.ix u0 u1,zbc hK.own hK.nb u0 (by omega) (j:=0) (by decide),fun wr4 hx4=>?_⟩;have hfin:=QG.ok hW hb (hset.step hx4);have ew:Qa (Xp W g) (Oc m' g.toNat Bi)=Qa W m':=by simp[Qa,Xp,setGr,Oc]
  rw[ew] at hfin;have hgz:Pr W g true=0:=by rw[hgB,if_neg (by rw[hr0]; decide)]
  exact hfin
end
theorem zkd{V:Q7}(ha:WA V):Xc V:=by
 have h1:=ha.c2;have h2:=ha.t;have h3:=ha.gl;have hm:=Zb;have hn1:=ha.n1;have hn2:=ha.n2;refine⟨by omega,by omega,by omega,fun i a b=>?_⟩;have hb:=PG ha a (by omega);have hg:=ha.grp i a (by omega);have hz:(⟨[].toArray⟩:ByteArray).size=0:=rfl;refine⟨?_,?_,by omega,by omega,by omega⟩
 ·cases hu:(gi V.groups i).used with
  | false=>rw[(hg.1 hu).n,hz]; omega
  | true=>
   by_cases e:i=0
   ·rw[e,ha.tree.rn,hz]; omega
   ·have:=(Mk.1 (ha.tree.nm i (by omega) (by omega) hu)).1;omega
 cases hu:(gi V.groups i).used with
 | false=>rw[(hg.1 hu).ne]; exact⟨by decide,by decide⟩
 | true=>
  have hg:=hg.2 hu
  by_cases hq:(gi V.groups i).band.quota=0
  ·rw[(hg.none hq).2.2]; exact⟨by decide,by decide⟩
  ·have:=hg.band hq;exact⟨by omega,by omega⟩
theorem Km{n:Nat}{p:Int}{name:ByteArray}{w:Wo}(hn:n<=4) :
  Cz Uh #[.int .i64 (n:Int),.int .i64 p,.string name] w fun e w'=>∃mg,e=.returned (.agg (Yc (Oa n p name) mg).toArray)/\O3 w.heap.size w' (Oa n p name,mg)/\Q0 [] w w':=by
 refine(NK (n:Int) p name (R:=fun v w'=>∃mg,v=.agg (Yc (Oa n p name) mg).toArray/\O3 w.heap.size w' (Oa n p name,mg)/\Q0 [] w w') ?_).mono fun e w' ⟨v,he,mg,hv,h3⟩=>⟨mg,by rw[he,hv],h3⟩
 intro b hb b1 hb1
 refine⟨fun vs w2=>∃(k:Nat) (o:OA) (cap:Nat),vs=[.int .i64 (k:Int),.bool true,.int .i64 p,.string name,.int .i64 10,.int .i64 15,.int .i64 0,.int .i64 0,.int .i64 0,.int .i64 0,.int .i64 0,.int .i64 0,.slice none 0 0,.slice none 0 0,.slice o k cap]/\k<=n/\Sc w [b,b1] w2/\Ob P1 5 Zm w.heap.size [b,b1] w2 o cap (List.replicate k zak),
  Zu n 0,fun wr hx _=>⟨0,none,0,rfl,Nat.zero_le _,(((Sc.start w).add hb).add hb1).call0 hx,⟨.inl ⟨rfl,rfl,rfl⟩,by simp[Qy]⟩⟩,?_⟩
 rintro c1 l l1 l2 l3 l4 l5 l6 l7 l8 l9 l10 l11O l11L l11C l12O l12L l12C l13O l13L l13C wv hs2 ⟨k,o,cap,he,hk,s1,hO⟩;simp only[List.cons.injEq,Value.int.injEq,Value.bool.injEq,Value.string.injEq,Value.slice.injEq,true_and,and_true] at he;obtain⟨rfl,rfl,rfl,rfl,rfl,rfl,rfl,rfl,rfl,rfl,rfl,rfl,⟨rfl,rfl,rfl⟩,⟨rfl,rfl,rfl⟩,rfl,rfl,rfl⟩:=he;refine⟨fun hlt=>?_,fun hge=>?_⟩
 ·have hlt:=Ot hlt;intro b3 hb3 wr3 hx3 hs3 hcell;have s2:=s1.put hx3 hb3;have hO2:=hO.put hx3 hb3;obtain⟨o2,c2,w2,hrun,hk2,hO3,hx2⟩:=hO2.app1 UQ TY (x:=zak) hs3 s2.ext.size hcell (zuk _) (by simp; omega) (by decide) QW #[false,false];have s3:=s2.call hx2 fun x hm=>(hO2.own.lt x hm).1
  have hL:List.replicate l13L zak++[zak]=List.replicate (l13L+1) zak:=by rw[List.replicate_succ']
  rw[hL] at hrun hO3;rw[List.length_replicate,List.length_replicate] at hrun;exact⟨_,_,_,w2,hrun,hk2,⟨by omega,by omega⟩,fun wr4 hx4 _=>⟨⟨l13L+1,o2,c2,by simp,by omega,(s3.step hx4).sub (by simp),(hO3.step hx4).sub (by simp)⟩,Z6 (k:=l13L) rfl rfl (by omega)⟩⟩
 ·have hge:=Ou hge;have:l13L=n:=by omega
  subst this;intro wr5 hx5;refine⟨⟨none,0,none,0,l13O,l13C⟩,?_,⟨.inl ⟨rfl,rfl,rfl⟩,.inl ⟨rfl,rfl,rfl⟩,(hO.step hx5).own⟩,(s1.step hx5).ext⟩;simp[Yc,Oa,QT]
theorem zvm:QD≠Z1:=by decide
theorem zs8:QC≠Z1:=by decide
theorem zvl:QC≠QD:=by decide
theorem Hs{i:Int}(h0:0<=i)(h1:i<8):gi (List.replicate 8 TE) i=TE:=by
 obtain⟨k,rfl⟩:=Int.eq_ofNat_of_zero_le h0;rw[J0 (by rw[List.length_replicate]; omega)];exact List.getElem_replicate _
theorem zmn{base:Nat}{w:Wo}{o:OA}{cap:Nat}(h:Jp VE 14 QC base w o cap (List.replicate 8 TE)):M9 base w o cap (List.replicate 8 TE):=by
 refine⟨h,fun i h0 h1=>?_,fun i j h0 h1 _ _ _ x hm=>?_⟩
 ·rw[Hs h0 (by simpa using h1)];exact⟨.inl ⟨rfl,rfl,rfl⟩,.inl ⟨rfl,rfl,rfl⟩,.inl ⟨rfl,rfl,rfl⟩⟩
 ·rw[Hs h0 (by simpa using h1)] at hm;simp[Ql,TE,Qy] at hm
section
variable {w:Wo}{b:Nat}
def zwa(b:Nat)(w:Wo)(vs:List Va)(bs:List Nat)(w2:Wo):Prop:=
 ∃(bx:Nat) (tO gO:OA) (tC gC:Nat),bs=[bx]/\vs=[.int .i64 0,.slice none 0 0,.slice tO 12 tC,.slice gO 8 gC]/\Sc w [b,bx] w2/\Ob YM 9 QD w.heap.size [b,bx] w2 tO tC (List.replicate 12 VK)/\Ob VE 14 QC w.heap.size [b,bx] w2 gO gC (List.replicate 8 TE)
theorem zo8{bs:List Nat}{w1:Wo}(s:Sc w bs w1)(hs:∀x∈bs,x<w1.heap.size):∃(o:OA) (c:Nat) (w2:Wo),(Instr.makeSlice QO (.int .i64 12) (.int .i64 12):Sem Va).run Tryz.prog w1=.ok (.slice o 12 c) w2/\Q9 bs w1 w2/\Q0 [] w1 w2/\Ob YM 9 QD w.heap.size bs w2 o c (List.replicate 12 VK):=
 ⟨_,_,_,Pz Tp OV 12 (by decide) (by have:=Zb; omega) w1,Qd (QV _ _) hs,QV _ _,(Ob.of (U9 (enc:=YM) Tp.len QD 12 VK w1) hs).mono s.ext.size⟩
theorem zo7{bs:List Nat}{w1:Wo}(s:Sc w bs w1)(hs:∀x∈bs,x<w1.heap.size):∃(o:OA) (c:Nat) (w2:Wo),(Instr.makeSlice Qt (.int .i64 8) (.int .i64 8):Sem Va).run Tryz.prog w1=.ok (.slice o 8 c) w2/\Q9 bs w1 w2/\Q0 [] w1 w2/\Ob VE 14 QC w.heap.size bs w2 o c (List.replicate 8 TE):=
 ⟨_,_,_,Pz ZJ TX 8 (by decide) (by have:=Zb; omega) w1,Qd (QV _ _) hs,QV _ _,(Ob.of (U9 (enc:=VE) ZJ.len QC 8 TE w1) hs).mono s.ext.size⟩
theorem Ba{n:Nat}(n0:1<=n)(n1:n<=4) :
  Cz VW #[.int .i64 (n:Int)] w fun e w'=>∃m,e=.returned (.tuple #[.agg (Qa (Js n) m).toArray,.bool true])/\Y1 8 w.heap.size w' (Js n) m/\Q0 [] w w':=by
 refine(FR (n:Int) (R:=fun v w'=>∃m,v=.tuple #[.agg (Qa (Js n) m).toArray,.bool true]/\Y1 8 w.heap.size w' (Js n) m/\Q0 [] w w') ?_).mono fun e w' ⟨v,he,m,hv,h3⟩=>⟨m,by rw[he,hv],h3⟩
 intro b hb;have hin:Yo (n:Int) 1 4=true:=Qo.2 ⟨by omega,by omega⟩;have s0:Sc w [b] w:=(Sc.start w).add hb;refine⟨_,Qj,fun g=>(by rw[hin] at g; cases g),fun _=>⟨zwa b w,?_,?_⟩⟩
 ·refine⟨fun wr1 hx1 hs1=>?_,fun wr6 hx6 hs6=>?_,fun b5 hb5=>⟨fun wr11 hx11 hs11=>?_,fun wr14 hx14 hs14=>?_⟩⟩
  ·have s1:=s0.call0 hx1;obtain⟨tO,tC,w2,hr,hk,he,hT⟩:=zo8 s1 hs1;have s2:=s1.call0 he;refine⟨_,_,_,w2,hr,hk,fun wr2 hx2 hs2=>?_,fun b2 hb2 wr4 hx4 hs4=>?_⟩
   ·have s3:=s2.step hx2;obtain⟨gO,gC,w3,hr3,hk3,he3,hG⟩:=zo7 s3 hs2;exact⟨_,_,_,w3,hr3,hk3,fun b1 hb1 wr3 hx3 _=>⟨b1,tO,gO,tC,gC,rfl,rfl,(s3.call0 he3).put hx3 hb1,((hT.step hx2).call0 he3).put hx3 hb1,hG.put hx3 hb1⟩⟩
   ·have s3:=s2.put hx4 hb2;obtain⟨gO,gC,w3,hr3,hk3,he3,hG⟩:=zo7 s3 hs4;exact⟨_,_,_,w3,hr3,hk3,fun wr5 hx5 _=>⟨b2,tO,gO,tC,gC,rfl,rfl,(s3.call0 he3).step hx5,((hT.put hx4 hb2).call0 he3).step hx5,hG.step hx5⟩⟩
  ·have s1:=s0.call0 hx6;obtain⟨gO,gC,w2,hr,hk,he,hG⟩:=zo7 s1 hs6;have s2:=s1.call0 he;refine⟨_,_,_,w2,hr,hk,fun wr2 hx2 hs2=>?_,fun b2 hb2 wr4 hx4 hs4=>?_⟩
   ·have s3:=s2.step hx2;obtain⟨tO,tC,w3,hr3,hk3,he3,hT⟩:=zo8 s3 hs2;exact⟨_,_,_,w3,hr3,hk3,fun b1 hb1 wr3 hx3 _=>⟨b1,tO,gO,tC,gC,rfl,rfl,(s3.call0 he3).put hx3 hb1,hT.put hx3 hb1,((hG.step hx2).call0 he3).put hx3 hb1⟩⟩
   ·have s3:=s2.put hx4 hb2;obtain⟨tO,tC,w3,hr3,hk3,he3,hT⟩:=zo8 s3 hs4;exact⟨_,_,_,w3,hr3,hk3,fun wr5 hx5 _=>⟨b2,tO,gO,tC,gC,rfl,rfl,(s3.call0 he3).step hx5,hT.step hx5,((hG.put hx4 hb2).call0 he3).step hx5⟩⟩
  ·have s1:=(s0.add hb5).call0 hx11;obtain⟨tO,tC,w2,hr,hk,he,hT⟩:=zo8 s1 hs11;refine⟨_,_,_,w2,hr,hk,fun wr2 hx2 hs2=>?_⟩;have s3:=(s1.call0 he).step hx2;obtain⟨gO,gC,w3,hr3,hk3,he3,hG⟩:=zo7 s3 hs2;exact⟨_,_,_,w3,hr3,hk3,fun wr5 hx5 _=>⟨b5,tO,gO,tC,gC,rfl,rfl,(s3.call0 he3).step hx5,((hT.step hx2).call0 he3).step hx5,hG.step hx5⟩⟩
  ·have s1:=(s0.add hb5).call0 hx14;obtain⟨gO,gC,w2,hr,hk,he,hG⟩:=zo7 s1 hs14;refine⟨_,_,_,w2,hr,hk,fun wr2 hx2 hs2=>?_⟩;have s3:=(s1.call0 he).step hx2;obtain⟨tO,tC,w3,hr3,hk3,he3,hT⟩:=zo8 s3 hs2;exact⟨_,_,_,w3,hr3,hk3,fun wr5 hx5 _=>⟨b5,tO,gO,tC,gC,rfl,rfl,(s3.call0 he3).step hx5,hT.step hx5,((hG.step hx2).call0 he3).step hx5⟩⟩
 ·rintro l l1O l1L l1C l2O l2L l2C l3O l3L l3C b6 wv10 hs10 ⟨bx,tO,gO,tC,gC,hbx,hv,s1,hT,hG⟩;simp only[List.cons.injEq,Value.int.injEq,Value.slice.injEq,true_and,and_true] at hbx hv;subst hbx;obtain⟨rfl,⟨rfl,rfl,rfl⟩,⟨rfl,rfl,rfl⟩,rfl,rfl,rfl⟩:=hv
  refine⟨fun vs w2=>∃(k:Nat) (o:OA) (cap:Nat),vs=[.int .i64 (k:Int),.int .i64 0,.slice o k cap,.slice l2O 12 l2C,.slice l3O 8 l3C]/\k<=n/\Sc w [b,b6] w2/\Ob P0 5 Z1 w.heap.size [b,b6] w2 o cap (List.replicate k (⟨true,-1,0,0,0⟩:OY))/\Ob YM 9 QD w.heap.size [b,b6] w2 l2O l2C (List.replicate 12 VK)/\Ob VE 14 QC w.heap.size [b,b6] w2 l3O l3C (List.replicate 8 TE),
   Zu n 0,fun wr hx _=>⟨0,none,0,rfl,Nat.zero_le _,s1.step hx,⟨.inl ⟨rfl,rfl,rfl⟩,by simp[Qy]⟩,hT.step hx,hG.step hx⟩,?_⟩
  rintro c1 l4 l5O l5L l5C l6O l6L l6C l7O l7L l7C wv hs2 ⟨k,o,cap,he,hk,s2,hC,hT2,hG2⟩;simp only[List.cons.injEq,Value.int.injEq,Value.slice.injEq,true_and,and_true] at he;obtain⟨rfl,rfl,⟨rfl,rfl,rfl⟩,⟨rfl,rfl,rfl⟩,rfl,rfl,rfl⟩:=he;clear hT hG;refine⟨fun hlt=>?_,fun hge=>?_⟩
  ·have hlt:=Ot hlt;intro b3 hb3 wr3 hx3 hs3 hcell;have s3:=s2.put hx3 hb3;have hC2:=hC.put hx3 hb3;obtain⟨o2,c2,w2,hrun,hk2,hC3,hx2⟩:=hC2.app1 Mf PB (x:=(⟨true,-1,0,0,0⟩:OY)) hs3 s3.ext.size hcell (zui _) (by simp; omega) (by decide) Zd #[false,false];have s4:=s3.call hx2 fun x hm=>(hC2.own.lt x hm).1
   have hT3:=(hT2.put hx3 hb3);have hT4:Ob YM 9 QD w.heap.size [b,b6,b3] w2 l6O l6C (List.replicate 12 VK):=⟨hT3.own.ext hx2 (hT3.own.ty_ne hC2.own zvm),hT3.nb⟩;have hG3:=(hG2.put hx3 hb3);have hG4:Ob VE 14 QC w.heap.size [b,b6,b3] w2 l7O l7C (List.replicate 8 TE):=⟨hG3.own.ext hx2 (hG3.own.ty_ne hC2.own zs8),hG3.nb⟩;have hL:List.replicate l5L (⟨true,-1,0,0,0⟩:OY)++[⟨true,-1,0,0,0⟩]=List.replicate (l5L+1) (⟨true,-1,0,0,0⟩:OY):=by rw[List.replicate_succ']
   rw[hL] at hrun hC3;rw[List.length_replicate,List.length_replicate] at hrun;exact⟨_,_,_,w2,hrun,hk2,⟨by omega,by omega⟩,fun wr4 hx4 _=>⟨⟨l5L+1,o2,c2,by simp,by omega,(s4.step hx4).sub (by simp),(hC3.step hx4).sub (by simp),(hT4.step hx4).sub (by simp),(hG4.step hx4).sub (by simp)⟩,Z6 (k:=l5L) rfl rfl (by omega)⟩⟩
  ·have hge:=Ou hge;have:l5L=n:=by omega
   subst this;intro wr5 hx5 hs5;have s3:=s2.step hx5;have hC3:=hC.step hx5;have hT3:=hT2.step hx5;have hG3:=hG2.step hx5;refine(Km n1).mono fun e w3 ⟨mg,he,hM,hx3⟩=>?_
   have s4:=s3.call0 hx3;have hC4:=hC3.call0 hx3;have hT4:=hT3.call0 hx3;have hG4:=hG3.call0 hx3;have G:=zmn hG4.own
   have hmb:∀x∈Ql mg,x∉[b,b6]:=fun x hm hx=>by
    have h1:=(hM.lt x hm).1;have h2:=hs5 x hx;omega
   have P:=G.put (i:=0) (Int.le_refl _) (by simp) (p:=(Oa l5L (-1) ⟨[].toArray⟩,mg)) (hM.mono s3.ext.size) fun j j0 j1 _ x hm=>by
    rw[Hs j0 (by simpa using j1)] at hm;simp[Ql,TE,Qy] at hm
   have hxs:=hG4.own.stoX (Int.toNat 0*14) (VE (Oa l5L (-1) ⟨[].toArray⟩,mg));have s5:Sc w [b,b6] (sto w3 l7O (Int.toNat 0*14) (VE (Oa l5L (-1) ⟨[].toArray⟩,mg))):=⟨hG4.own.stoB _ _ s4.ext (Nat.le_refl _),s4.new⟩;have hC5:=hC4.own.ext hxs (hC4.own.ty_ne hG4.own zs8.symm);have hT5:=hT4.own.ext hxs (hT4.own.ty_ne hG4.own zvl.symm);refine⟨_,_,_,_,_,_,_,_,_,_,_,_,_,_,_,_,_,_,_,_,he,Qd hx3 hs5,rfl,hG4.own.ix (Int.le_refl _) (by simp),hG4.own.wr ZJ.len hG4.nb (i:=0) (j:=0) (Int.le_refl _) (by simp) (by decide),fun wr hx=>⟨⟨l5O,l5C,l6O,l6C,l7O,l7C,fun k=>if k=0 then mg else TE.2⟩,?_,⟨?_,?_,?_,rfl⟩,(s5.step hx).ext⟩⟩
   ·simp[Qa,Js]
   ·exact hC5.ext hx hC4.nb
   ·exact hT5.ext hx hT4.nb
   ·have hps:zix (Js l5L) ⟨l5O,l5C,l6O,l6C,l7O,l7C,fun k=>if k=0 then mg else TE.2⟩=(List.replicate 8 TE).set (Int.toNat 0) (Oa l5L (-1) ⟨[].toArray⟩,mg):=rfl;rw[hps];refine⟨P.row.ext hx hG4.nb,fun i i0 i1=>(P.each i i0 i1).ext hx fun x hm=>?_,P.dj⟩;have hi8:i<8:=by simpa using i1
    have:=Qw (List.replicate 8 TE) (Oa l5L (-1) ⟨[].toArray⟩,mg) (i:=0) (j:=i) (Int.le_refl _) (by simp) i0;rw[this] at hm
    split at hm
    ·exact hmb x hm
    ·rw[Hs i0 hi8] at hm;simp[Ql,TE,Qy] at hm
end
def T4(W:Q7)(j:Nat):Bool:=decide (1<=j) && !(gi W.groups (j:Int)).used
def Vl(W:Q7):Int:=Gg (T4 W) 8
def zu3(W:Q7)(p:Int)(name:ByteArray):Prop:=∃h:Int,1<=h/\h<8/\(gi W.groups h).used=true/\(gi W.groups h).parent=p/\(gi W.groups h).name=name
open Classical in
noncomputable def MT(W:Q7)(p:Int)(name:ByteArray):Int:=if JC name=false then 1 else if Q6 W.groups p=false then 2 else if zu3 W p name then 7 else if dep 3 W.groups p=3 then 9 else if Vl W<0 then 3 else if QK W=false then 10 else 0
def zo5(W:Q7)(p:Int)(name:ByteArray):Q7:=TF W (Vl W) p name
theorem zfy(W:Q7):(Vl W = -1/\∀h:Int,1<=h->h<8->(gi W.groups h).used=true)\/(1<=Vl W/\Vl W<8/\(gi W.groups (Vl W)).used=false):=by
 rcases PJ (T4 W) 8 with ⟨h1,h2⟩ | ⟨h1,h2,h3,_⟩
 ·refine .inl ⟨h1,fun h a b=>?_⟩;have:=h2 h.toNat (by omega);unfold T4 at this;rw[show ((h.toNat:Nat):Int)=h by omega,decide_eq_true (by omega:1<=h.toNat)] at this
  simpa using this
 ·have e:(((Vl W).toNat:Nat):Int)=Vl W:=by unfold Vl; omega
  have h3:T4 W (Vl W).toNat=true:=h3;unfold T4 at h3;rw[e,Bool.and_eq_true,decide_eq_true_eq,Bool.not_eq_true'] at h3;refine .inr ⟨by omega,by unfold Vl; omega,h3.2⟩
theorem An{W:Q7}{p:Int}{name:ByteArray}(hb:MT W p name=0):Ch W (Vl W) p name/\QK W=true:=by
 unfold MT at hb
 split at hb
 ·cases hb
 rename_i h1
 split at hb
 ·cases hb
 rename_i h2
 split at hb
 ·cases hb
 rename_i h3
 split at hb
 ·cases hb
 rename_i h4
 split at hb
 ·cases hb
 rename_i h5
 split at hb
 ·cases hb
 rename_i h6;rcases zfy W with ⟨a,_⟩ | ⟨a,b,c⟩
 ·omega
 ·exact⟨⟨a,b,c,by simpa using h2,by simpa using h1,fun h a1 a2 u e=>h3 ⟨h,a1,a2,u,e.1,e.2⟩,h4⟩,by simpa using h6⟩
section
variable {W:Q7}{m:MW}{w:Wo}
theorem PM{p:Int}{name:ByteArray}(h:YZ [] w W m)(hl:Xc W) :
  Cz Qx #[.agg (Qa W m).toArray,.int .i64 p,.string name] w fun e w'=>∃v,e=.returned v/\Tk (V0 W (MT W p name) (zo5 W p name) (Vl W)) w v w':=by
 refine DI W.now m.cO W.cpus.length m.cC m.tO W.tasks.length m.tC m.gO W.groups.length m.gC p name (R:=fun v w'=>Tk (V0 W (MT W p name) (zo5 W p name) (Vl W)) w v w') ?_;intro y hy y1 hy1 wr hx2 hs2;refine Calls.mono (Z5 (h.ext hx2) hl) ?_;rintro e wv (⟨hW,he,hy2⟩ | ⟨hW,m',he,hM,hy2⟩)
 ·exact⟨_,_,_,_,_,_,_,_,_,_,_,he,Qd hy2 hs2,true,fun g=>by simp at g,fun _ wr1 hx3=>Tk.bad hW ((hx2.trans hy2).fresh hx3 fun z hm=>.inl (Yr hy hy1 z hm)),fun g=>by simp at g⟩
 have hK:=Wk.begin hy hy1 hx2 hs2 hM hy2;have hr:=hK.rd;have wp:=Qh.1 hW;have hgl:=wp.a.gl;have hc1:((if QK W=true then 0 else 10:Int)==1)=false:=by split <;> rfl
 refine⟨_,_,_,_,_,_,_,_,_,_,_,he,Qd hy2 hs2,_,fun _=>LJ,fun g1 wr1 hx3=>?_,fun g1=>⟨_,YR hr.g,fun g2 wr2 hx3=>?_,fun g2=>?_⟩⟩
 ·rw[hc1] at g1;have hb:MT W p name=1:=by unfold MT; rw[if_pos (by simpa using g1)]
  exact Tk.no hW (by rw[hb]; decide) (hK.step hx3) hb
 ·rw[hc1] at g1;have n1:¬JC name=false:=by simpa using g1
  have hb:MT W p name=2:=by unfold MT; rw[if_neg n1,if_pos (by simpa using g2)]
  exact Tk.no hW (by rw[hb]; decide) (hK.step hx3) hb
 rw[hc1] at g1;have n1:¬JC name=false:=by simpa using g1
 have hu:Q6 W.groups p=true:=by simpa using g2
 have n2:¬Q6 W.groups p=false:=by rw[hu]; decide
 refine⟨fun vs w1=>∃k:Nat,vs=[.int .i64 (k:Int),.int .i64 0,.slice none 0 0,.slice none 0 0,.slice none 0 0]/\1<=k/\k<=8/\(∀q:Int,1<=q->q<(k:Int)->(gi W.groups q).used=true->¬((gi W.groups q).parent=p/\(gi W.groups q).name=name))/\Q0 [y,y1] wv w1,
  Zu 8 0,fun w1 hx0 _=>⟨1,rfl,by omega,by omega,fun q a b=>by omega,hx0⟩,?_⟩
 rintro h1 l l1O l1L l1C l2O l2L l2C l3O l3L l3C wv2 hs3 ⟨k,he2,hk1,hk8,hno,hxw⟩;simp only[List.cons.injEq,Value.int.injEq,Value.slice.injEq,true_and,and_true] at he2;obtain⟨rfl,rfl,⟨rfl,rfl,rfl⟩,⟨rfl,rfl,rfl⟩,rfl,rfl,rfl⟩:=he2;have hK1:=hK.step hxw;have hr1:=hK1.rd;refine⟨fun hlt=>?_,fun hge=>?_⟩
 ·have hlt:=Ot hlt;have hk0:(0:Int)<=(k:Int):=by omega
  refine⟨hr1.g.ix hk0 hlt,_,hr1.g.used hk0 hlt,fun _=>hr1.g.ix hk0 hlt,_,fun _=>hr1.g.parent hk0 hlt,fun _=>hr1.g.ix hk0 hlt,_,fun _=>hr1.g.name hk0 hlt,fun g3 wr5 hx5=>?_,fun g3=>⟨⟨by omega,by omega⟩,fun wr6 hx6 _=>⟨⟨k+1,by simp,by omega,by omega,fun q q1 q2 qu=>?_,hxw.trans hx6⟩,Z6 (k:=k) rfl rfl (by omega)⟩⟩⟩
  ·rw[Bool.and_eq_true,Bool.and_eq_true,J9,beq_iff_eq] at g3;have hb:MT W p name=7:=by unfold MT; rw[if_neg n1,if_neg n2,if_pos ⟨k,by omega,by omega,g3.1.1,g3.1.2,g3.2⟩]
   exact Tk.no hW (by rw[hb]; decide) (hK1.step hx5) hb
  ·by_cases e:q<(k:Int)
   ·exact hno q q1 e qu
   ·have:q=(k:Int):=by omega
    subst this;rintro⟨c1,c2⟩;rw[qu,beq_iff_eq.2 c1,J9.2 c2] at g3;cases g3
 have hge:=Ou hge;have:k=8:=by omega
 subst this;have n3:¬zu3 W p name:=fun ⟨q,a,b,c,d,e⟩=>hno q a (by omega) c ⟨d,e⟩
 refine⟨_,OK hr1.g (by rw[hgl]; have:=Zb; omega),fun g4 wr7 hx7=>?_,fun g4=>⟨⟨by omega,by omega⟩,?_⟩⟩
 ·rw[zdj wp.a.tree hu,beq_iff_eq] at g4;have hb:MT W p name=9:=by unfold MT; rw[if_neg n1,if_neg n2,if_neg n3,if_pos g4]
  exact Tk.no hW (by rw[hb]; decide) (hK1.step hx7) hb
 rw[zdj wp.a.tree hu,beq_eq_false_iff_ne] at g4
 refine⟨fun vs w1=>∃a t:Int,vs=[.int .i64 a,.int .i64 t]/\0<=t/\t<8/\(a = -1/\(∀j:Nat,t<(j:Int)->j<8->T4 W j=false)\/t<a/\a<8/\T4 W a.toNat=true/\∀j:Nat,t<(j:Int)->(j:Int)<a->T4 W j=false)/\Q0 [y,y1] wv2 w1,
  fun vs _=>(Y5 1 vs+1).toNat,fun w1 hx0 _=>⟨-1,_,rfl,by omega,by omega,.inl ⟨rfl,fun j h1 h2=>by omega⟩,hx0⟩,?_⟩
 rintro av tv wv3 hs4 ⟨a,t,he2,ht0,ht1,hcond,hxw2⟩;simp only[List.cons.injEq,Value.int.injEq,true_and,and_true] at he2;obtain⟨rfl,rfl⟩:=he2;have hK2:=hK1.step hxw2;have hr2:=hK2.rd;refine⟨fun hlt=>?_,fun hge2=>?_⟩
 ·have hlt:=Ot hlt;have e:((tv.toNat:Nat):Int)=tv:=by omega
  have hst:T4 W tv.toNat = !(gi W.groups tv).used:=by unfold T4; rw[e,decide_eq_true (by omega:1<=tv.toNat)]; rfl
  refine⟨hr2.g.ix (by omega) (by omega),_,hr2.g.used (by omega) (by omega),fun g3=>⟨⟨by omega,by omega⟩,fun wr5 hx5 _=>⟨⟨tv,tv-1,rfl,by omega,by omega,.inr ⟨by omega,ht1,by rw[hst]; exact g3,fun j h1 h2=>by omega⟩,hxw2.trans hx5⟩,?_⟩⟩,fun g3=>⟨⟨by omega,by omega⟩,fun wr6 hx6 _=>⟨⟨av,tv-1,rfl,by omega,by omega,?_,hxw2.trans hx6⟩,?_⟩⟩⟩
  ·simp only[Y5,List.getElem?_cons_zero,List.getElem?_cons_succ]; omega
  ·have g3:T4 W tv.toNat=false:=by rw[hst]; exact g3
   have one:∀j:Nat,tv-1<(j:Int)->¬tv<(j:Int)->T4 W j=false:=fun j h1 h2=>by
    have:j=tv.toNat:=by omega
    rw[this]; exact g3
   rcases hcond with ⟨h1,h2⟩ | ⟨h1,h2,h3,h4⟩
   ·exact .inl ⟨h1,fun j j1 j2=>if h:tv<(j:Int) then h2 j h j2 else one j j1 h⟩
   ·exact .inr ⟨by omega,h2,h3,fun j j1 j2=>if h:tv<(j:Int) then h4 j h j2 else one j j1 h⟩
  ·simp only[Y5,List.getElem?_cons_zero,List.getElem?_cons_succ]; omega
 have hge2:=Ou hge2;have ht:tv=0:=by omega
 subst ht;have hz:T4 W 0=false:=rfl
 have hfree:av=Vl W:=by
  rcases hcond with ⟨h1,h2⟩ | ⟨h1,h2,h3,h4⟩
  ·rw[h1]; exact(zj7 fun j hj=>if e:j=0 then by rw[e]; exact hz else h2 j (by omega) hj).symm
  ·exact(zj6 (by omega) h2 h3 fun j hj=>if e:j=0 then by rw[e]; exact hz else h4 j (by omega) hj).symm
 subst hfree;refine⟨fun g5 wr7 hx7=>?_,fun g5=>⟨fun g6 wr8 hx8=>?_,fun g6 wr13 hx13 hs13=>?_⟩⟩
 ·have g5:=Ot g5;have hb:MT W p name=3:=by unfold MT; rw[if_neg n1,if_neg n2,if_neg n3,if_neg g4,if_pos g5]
  exact Tk.no hW (by rw[hb]; decide) (hK2.step hx7) hb
 ·have g5:=Ou g5;have hr0:¬QK W=true:=fun hr=>by rw[if_pos hr] at g6; simp at g6
  have hb:MT W p name=10:=by unfold MT; rw[if_neg n1,if_neg n2,if_neg n3,if_neg g4,if_neg g5,if_pos (by simpa using hr0)]
  rw[if_neg hr0];exact Tk.no hW (by rw[hb]; decide) (hK2.step hx8) hb
 have g5:=Ou g5;have hr0:QK W=true:=Decidable.byContradiction fun hr=>by rw[if_neg hr] at g6; simp at g6
 have hb:MT W p name=0:=by unfold MT; rw[if_neg n1,if_neg n2,if_neg n3,if_neg g4,if_neg g5,if_neg (by rw[hr0]; decide)]
 obtain⟨hf,_⟩:=An hb;have a1:=hf.a1;have a8:=hf.a8;have hK3:=hK2.step hx13;refine(Km (n:=W.cpus.length) wp.a.c2).mono fun e1 wv4 ⟨mg,he1,hMg,hx4⟩=>?_
 have hK4:=hK3.call0 hx4;have hold:∀x∈QB 8 m',x<wr13.heap.size:=fun x hx=>(hK3.own.lt x hx).2
 have hnew:∀x∈Ql mg,wr13.heap.size<=x:=fun x hx=>(hMg.lt x hx).1
 have hset:Wk 8 [y,y1] w (sto wv4 m'.gO (Int.toNat (Vl W)*14) (Yc (Oa W.cpus.length p name) mg)) (zo5 W p name) (Oc m' (Vl W).toNat mg):=
  ⟨hK4.s.call EE fun x hx=>(hK4.own.lt x hx).1,⟨hK4.own.stoG (by omega) a8 (g:=Oa W.cpus.length p name) (p:=mg) (j:=0) (vs:=Yc (Oa W.cpus.length p name) mg) (hMg.mono hK3.base) (fun x hx=>.inl fun hx'=>by have:=hold x hx'; have:=hnew x hx; omega) (by simp[Yc,QT]) (by simp[Yc,QT]),fun x hx hm=>by
   rcases Ta x hx with h1 | h1
   ·exact hK4.nb x h1 hm
   ·have:=hnew x h1;have:=hs13 x hm;omega⟩⟩
 refine⟨_,_,_,_,_,_,_,_,_,_,_,_,_,_,_,_,_,_,_,_,he1,Qd hx4 hs13,rfl,hr2.g.ix (by omega) (by omega),zbc hK4.own hK4.nb (by omega) a8 (j:=0) (k:=14) (by decide),fun wr14 hx14=>?_⟩;have hfin:=Tk.ok (a:=Vl W) hW hb (hset.step hx14);have ew:Qa (zo5 W p name) (Oc m' (Vl W).toNat mg)=Qa W m':=by simp[Qa,zo5,TF,setGr,Oc]
 rw[ew] at hfin;exact hfin
end
inductive Xo (W:Q7):Q7->Prop
 | same:Xo W W
 | run (c n:Int) (hb:HW W c n=0):Xo W (zmv W c n)
 | yld (c:Int) (hb:U3 W c=0):Xo W (endW W c)
 | fork (g n x:Int) (hb:Tt W g n x=0):Xo W (zfx W g n x)
 | block (t:Int) (hb:V2 W t=0):Xo W (zdd W t)
 | wake (t:Int) (hb:Ph W t=0):Xo W (F2 W t)
 | exit (t:Int) (hb:Tr W t=0):Xo W (ET W t)
 | nice (t n:Int) (hb:O2 W t n=0):Xo W (Kw W t n)
 | pin (t x:Int) (hb:Gz W t x=0):Xo W (zpq W t x)
 | mov (t g:Int) (hb:Ap W t g=0):Xo W (zaj W t g)
 | mak (a p:Int) (name:ByteArray) (hm:Ch W a p name):Xo W (TF W a p name)
 | drp (g:Int) (hd:zbd W g):Xo W (Xp W g)
 | wgh (g x:Int) (hb:zhi W g x=0):Xo W (zqj W g x)
 | gpn (g x:Int) (hb:zf0 W g x=0):Xo W (zoj W g x)
 | lim (g q p:Int) (hb:zga W g q p=0):Xo W (zr5 W g q p)
 | time (n:Int) (hb:ML W n=0):Xo W (zcn W n)
 | bal (c:Int) (hb:Hc W c=0):Xo W (zc9 W c)
 | off (c:Int) (hb:Uu W c true (Kx W)=0):Xo W (zph W c)
 | on (c:Int) (hb:Uu W c false 0=0):Xo W (zvn W c)
structure P3 (P:Nat->Q7->Prop):Prop where
 mono:∀{n m:Nat} {W:Q7},n<=m->P n W->P m W
 new:∀{n k:Nat},1<=k->k<=4->P n (Js k)
 fork:∀{n:Nat} {W:Q7} {g q x:Int},XU W->P n W->Tt W g q x=0->P n (zfx W g q x)
 mak:∀{n:Nat} {W:Q7} {a p:Int} {name:ByteArray},XU W->P n W->Ch W a p name->P n (TF W a p name)
 deed:∀{n:Nat} {W V:Q7},n<=10000->XU W->P n W->Xo W V->P (n+10) V
def Dd(_:Nat)(_:Q7):Prop:=True
theorem Md:P3 Dd:=⟨fun _ _=>trivial,fun _ _=>trivial,fun _ _ _=>trivial,fun _ _ _=>trivial,fun _ _ _ _=>trivial⟩
theorem Q0.kept{bs B:List Nat}{w w':Wo}(h:Q0 bs w w')(hB:∀x∈B,x<w.heap.size/\x∉bs):Q9 B w w':=fun x hx=>h.block x (hB x hx).1 (hB x hx).2
theorem zoy{b x:Nat}{w w':Wo}(h:Q0 [b] w w')(h1:x<w.heap.size)(h2:x≠b):Q9 [x] w w':=h.kept fun y hy=>by
 rw[List.mem_singleton.1 hy]; exact⟨h1,by simpa using h2⟩
def zux(v:Int):Prop := -2<=v/\v<=21
theorem zf8{b:Nat}{c:OA}{L N:Nat}{w:Wo}(h:JF b c L N w)(hN:N<=900000000000) :
  Cz Zw #[.pointer (some ⟨b,0,none⟩)] w fun e w'=>∃v,e=.returned (.int .i64 v)/\zux v/\JF b c L (N+2) w'/\Q0 [b] w w':=by
 refine(Ln (some ⟨b,0,none⟩) (R:=fun v w'=>∃x,v=.int .i64 x/\zux x/\JF b c L (N+2) w'/\Q0 [b] w w') ?_).mono fun e w' ⟨v,he,x,hv,h1,h2,h3⟩=>⟨x,by rw[he,hv],h1,h2,h3⟩
 refine fun wr hx _=>(Gk (h.ext0 hx) (by omega)).mono fun e w1 ⟨v,he,hv,hr1,hx1⟩=>⟨v,he,Tv,fun _=>?_,fun _ b1 hb1 wr3 hx3 hsz=>?_⟩
 ·refine fun wr1 hy _=>(Gk (hr1.ext0 hy) (by omega)).mono fun e w2 ⟨u,he,hu,hr2,hx2⟩=>⟨u,he,Tv,?_⟩
  have hu1:=hu.1;have hu2:=hu.2.2 (by decide);exact⟨Jm (by omega) (by omega),fun wr2 hz=>⟨_,rfl,⟨by omega,by omega⟩,hr2.ext0 hz,(hx.of_nil.trans hx1).trans (hy.of_nil.trans (hx2.trans hz.of_nil))⟩⟩
 ·refine(Gk (hr1.ext0 hx3) (by omega)).mono fun e w2 ⟨u,he,hu,hr2,hx2⟩=>⟨u,he,zoy hx2 (hsz b1 (by simp)) (by have:=hr1.lt; omega),?_⟩
  have hu1:=hu.1;have hu2:=hu.2.2 (by decide)
  have fin:∀(x:Int),zux x->∀wr4,Q0 [b1] w2 wr4->∃x',Value.int .i64 x=.int .i64 x'/\zux x'/\JF b c L (N+2) wr4/\Q0 [b] w wr4:=fun x hxv wr4 hz=>
   ⟨x,rfl,hxv,hr1.extN hr2 hz (by simpa using hb1),(hx.of_nil.trans hx1).trans ((hx3.of_nil.trans hx2)) |>.fresh hz (fun y hy=>by
    rw[List.mem_singleton.1 hy];have h1:=hx.size; have h2:=hx1.size;exact .inl (by omega))⟩
  have:u=0\/u=1\/u=2\/u=3\/u=4\/u=5\/u=6\/u=7\/u=8\/u=9:=by omega
  refine⟨⟨hu1,hu2⟩,?_⟩;rcases this with rfl | rfl | rfl | rfl | rfl | rfl | rfl | rfl | rfl | rfl <;> exact⟨_,⟨by decide,rfl⟩,fin _ ⟨by decide,by decide⟩⟩
def EM(c:OA)(L:Nat)(w:Wo):Prop:=∀i<L,∃(a:Addr) (x:Int),c=some a/\0<=x/\x<=255/\w.cell? (a.add i)=some (.int .u8 x)
theorem EM.ext{c:OA}{L:Nat}{w w':Wo}(h:EM c L w)(hx:Q0 [] w w'):EM c L w':=fun i hi=>by
 obtain⟨a,x,ha,h1,h2,h3⟩:=h i hi;obtain⟨a',e,_,h''⟩:=(show Ju [] w c i (.int .u8 x) from ⟨a,ha,by simp,h3⟩).ext hx;rw[ha] at e; cases e; exact⟨a,x,ha,h1,h2,h''⟩
structure RS (rb:Nat) (c:OA) (L N:Nat) (bs:List Nat) (w:Wo):Prop where
 rd:JF rb c L N w
 nb:rb∉bs
 oc:∀a,c=some a->a.block∉bs\/L=0
section
variable {rb:Nat}{c:OA}{L N:Nat}{bs cs:List Nat}{w w':Wo}{b:Nat}
theorem RS.step(h:RS rb c L N bs w)(hx:Q0 bs w w'):RS rb c L N bs w':=⟨h.rd.ext hx h.nb h.oc,h.nb,h.oc⟩
theorem RS.call0(h:RS rb c L N bs w)(hx:Q0 [] w w'):RS rb c L N bs w':=⟨h.rd.ext0 hx,h.nb,h.oc⟩
theorem RS.call(h:RS rb c L N bs w)(hx:Q0 cs w w')(h1:rb∉cs)(h2:∀a,c=some a->a.block∉cs\/L=0):RS rb c L N bs w':=⟨h.rd.ext hx h1 h2,h.nb,h.oc⟩
theorem RS.add(h:RS rb c L N bs w)(hb:w.heap.size<=b):RS rb c L N (bs++[b]) w:=⟨h.rd,fun hm=>by
 rcases List.mem_append.1 hm with hm | hm
 ·exact h.nb hm
 ·have:rb=b:=by simpa using hm
  have:=h.rd.lt;omega,fun a ha=>by
 rcases h.oc a ha with h1 | h1
 ·rcases h.rd.ltc a ha with h2 | h2
  ·refine .inl fun hm=>?_
   rcases List.mem_append.1 hm with hm | hm
   ·exact h1 hm
   ·have:a.block=b:=by simpa using hm
    omega
  ·exact .inr h2
 ·exact .inr h1⟩
theorem RS.sub(h:RS rb c L N bs w)(hs:∀x∈cs,x∈bs):RS rb c L N cs w:=⟨h.rd,fun hm=>h.nb (hs _ hm),fun a ha=>by
 rcases h.oc a ha with h1 | h1
 ·exact .inl fun hm=>h1 (hs _ hm)
 ·exact .inr h1⟩
theorem RS.upd{M:Nat}(h:RS rb c L N bs w)(k:JF rb c L M w'):RS rb c L M bs w':=⟨k,h.nb,h.oc⟩
theorem RS.mono{M:Nat}(h:RS rb c L N bs w)(hm:N<=M):RS rb c L M bs w:=⟨h.rd.mono hm,h.nb,h.oc⟩
theorem Sc.stepB{w0:Wo}(h:Sc w0 (rb::bs) w)(hx:Q0 bs w w'):Sc w0 (rb::bs) w':=h.step (hx.mono fun _ hm=>List.mem_cons_of_mem _ hm)
theorem Sc.stepR{w0:Wo}(h:Sc w0 (rb::bs) w)(hx:Q0 [rb] w w'):Sc w0 (rb::bs) w':=h.step (hx.mono fun x hm=>by
 have:x=rb:=by simpa using hm
 subst this; simp)
theorem OL(h:RS rb c L N bs w)(hx:Q0 [rb] w w')(hs:∀x∈bs,x<w.heap.size):Q9 bs w w':=Kq hx hs fun x hm hm'=>by
 have:x=rb:=by simpa using hm
 subst this; exact h.nb hm'
end
section
variable {α:Type}{enc:α->List Va}{z:Nat}{ty:TypeId}{base rb:Nat}{bs:List Nat}{w w':Wo}{o:OA}{cap:Nat}{l:List α}{b:Nat}
end
theorem zii{c:OA}{L C:Nat}{w:Wo}(h:EM c L w)(hC:L<=C) :
  Cz Ug #[.slice c L C] w fun e w'=>∃b c' L',e=.returned (.pointer (some ⟨b,0,none⟩))/\w.heap.size<=b/\JF b c' L' 0 w'/\Q0 [] w w'/\∀a',c'=some a'->L'=0\/(0<L/\∃a,c=some a/\a'.block=a.block):=by
 refine(NJ c L C (R:=fun v w'=>∃b c' L',v=.pointer (some ⟨b,0,none⟩)/\w.heap.size<=b/\JF b c' L' 0 w'/\Q0 [] w w'/\∀a',c'=some a'->L'=0\/(0<L/\∃a,c=some a/\a'.block=a.block)) ?_).mono fun e w' ⟨v,he,b,c',L',hv,h1,h2,h3⟩=>⟨b,c',L',by rw[he,hv],h1,h2,h3⟩
 refine⟨fun hlt=>⟨⟨by omega,by omega,by have:=Ot hlt; omega⟩,fun b wb hx hb hh _ wr hy=>⟨b,if C=Int.toNat 0 then c else c.map (·.add (Int.toNat 0*1)),Int.toNat 2000-Int.toNat 0,rfl,hb,?_,hx.trans hy,fun a' ha'=>?_⟩⟩,fun hlt b wb hx hb hh _ wr hy=>⟨b,c,L,rfl,hb,?_,hx.trans hy,fun a' ha'=>?_⟩⟩
 ·refine JF.ext0 ⟨⟨_,0,hh,by omega,by omega⟩,fun i hi=>?_⟩ hy;have hlt:=Ot hlt;obtain⟨a,x,ha,h1,h2,h3⟩:=h.ext hx i (by have:i<2000-0:=hi; omega);obtain⟨a0,x0,ha0,_,_,h30⟩:=h i (by have:i<2000-0:=hi; omega);have hlt2:=World.block_lt_of_cell? w _ h30;rw[Zl] at hlt2;rw[ha] at ha0; cases ha0;rw[if_neg (show ¬C=Int.toNat 0 from fun e=>by have:C=0:=e; omega),ha];refine⟨a.add 0,x,rfl,by rw[Zl]; omega,h1,h2,?_⟩;rw[Xt,Nat.zero_add]; exact h3
 ·have hlt:=Ot hlt;refine .inr ⟨by omega,?_⟩;rw[if_neg (show ¬C=Int.toNat 0 from fun e=>by have:C=0:=e; omega)] at ha'
  cases c with
  | none=>cases ha'
  | some a=>
   simp only[Option.map_some,Option.some.injEq] at ha';exact⟨a,rfl,by rw[<-ha',Zl]⟩
 ·refine JF.ext0 ⟨⟨_,0,hh,by omega,by omega⟩,fun i hi=>?_⟩ hy;obtain⟨a,x,ha,h1,h2,h3⟩:=h.ext hx i hi;obtain⟨a0,x0,ha0,_,_,h30⟩:=h i hi;have hlt2:=World.block_lt_of_cell? w _ h30;rw[Zl] at hlt2;rw[ha] at ha0; cases ha0;exact⟨a,x,ha,by omega,h1,h2,h3⟩
 ·rcases Nat.eq_zero_or_pos L with h0 | h0
  ·exact .inl h0
  ·exact .inr ⟨h0,a',ha',rfl⟩
structure Dr (rb:Nat) (c:OA) (L N n:Nat) (bs:List Nat) (w0 w:Wo):Prop where
 r:RS rb c L (N+n) bs w
 ext:Q0 [rb] w0 w
 new:∀x∈bs,w0.heap.size<=x
section
variable {rb b b2:Nat}{c:OA}{L N n k:Nat}{bs cs:List Nat}{w0 w w':Wo}
theorem Dr.start(h:JF rb c L N w):Dr rb c L N 0 [] w w:=⟨⟨h,by simp,fun _ _=>.inl (by simp)⟩,Q0.refl _ _,by simp⟩
theorem Dr.step(h:Dr rb c L N n bs w0 w)(hx:Q0 bs w w'):Dr rb c L N n bs w0 w':=⟨h.r.step hx,h.ext.fresh hx fun x hm=>.inl (h.new x hm),h.new⟩
theorem Dr.add(h:Dr rb c L N n bs w0 w)(hb:w.heap.size<=b):Dr rb c L N n (bs++[b]) w0 w:=⟨h.r.add hb,h.ext,fun x hm=>by
 rcases List.mem_append.1 hm with hm | hm
 ·exact h.new x hm
 ·have:x=b:=by simpa using hm
  have:=h.ext.size;omega⟩
theorem Dr.put(h:Dr rb c L N n bs w0 w)(hx:Q0 bs w w')(hb:w.heap.size<=b):Dr rb c L N n (bs++[b]) w0 w':=(h.add hb).step (hx.mono fun _ hm=>List.mem_append_left _ hm)
theorem Dr.put2(h:Dr rb c L N n bs w0 w)(hx:Q0 bs w w')(hb:w.heap.size<=b)(hb2:w.heap.size<=b2):Dr rb c L N n (bs++[b]++[b2]) w0 w':=((h.add hb).add hb2).step (hx.mono fun _ hm=>List.mem_append_left _ (List.mem_append_left _ hm))
theorem Dr.more{m:Nat}(h:Dr rb c L N n bs w0 w)(hm:n<=m):Dr rb c L N m bs w0 w:=⟨h.r.mono (by omega),h.ext,h.new⟩
theorem Dr.sub(h:Dr rb c L N n bs w0 w)(hs:∀x∈cs,x∈bs):Dr rb c L N n cs w0 w:=⟨h.r.sub hs,h.ext,fun x hm=>h.new x (hs x hm)⟩
theorem Dr.fin{m:Nat}(h:Dr rb c L N n bs w0 w)(hm:n<=m):JF rb c L (N+m) w/\Q0 [rb] w0 w:=⟨(h.more hm).r.rd,h.ext⟩
theorem Dr.call{f:FuncId}{args:Array Va}{Q:Int->Prop}(h:Dr rb c L N n bs w0 w)(hs:∀x∈bs,x<w.heap.size)(hc:Cz f args w fun e w'=>∃v,e=.returned (.int .i64 v)/\Q v/\JF rb c L (N+n+k) w'/\Q0 [rb] w w') :
  Cz f args w fun e w'=>∃v,e=.returned (.int .i64 v)/\Q9 bs w w'/\Q v/\Dr rb c L N (n+k) bs w0 w':=
 hc.mono fun e w' ⟨v,he,hq,hr,hx⟩=>⟨v,he,OL h.r hx hs,hq,⟨h.r.upd (by rw[<-Nat.add_assoc]; exact hr),h.ext.trans hx,h.new⟩⟩
theorem Dr.pick(h:Dr rb c L N n bs w0 w)(hN:N+n<=1000000000000)(hs:∀x∈bs,x<w.heap.size){q:Int} :
  Cz Q1 #[.pointer (some ⟨rb,0,none⟩),.int .i64 q] w fun e w'=>∃v,e=.returned (.int .i64 v)/\Q9 bs w w'/\GO q v/\Dr rb c L N (n+1) bs w0 w':=h.call hs (Gk h.r.rd hN)
theorem Dr.weight(h:Dr rb c L N n bs w0 w)(hN:N+n<=900000000000)(hs:∀x∈bs,x<w.heap.size) :
  Cz Zw #[.pointer (some ⟨rb,0,none⟩)] w fun e w'=>∃v,e=.returned (.int .i64 v)/\Q9 bs w w'/\zux v/\Dr rb c L N (n+2) bs w0 w':=h.call hs (zf8 h.r.rd hN)
end
def zwj:Va->Bool
 | .int .i64 _=>true
 | _=>false
def zwl:Va->Bool
 | .string _=>true
 | _=>false
theorem ztr{v:Int}{k:Nat}{ls:List Va}{P:Int->Prop}(ha:ls.all zwj=true)(hl:ls.length=k)(h0:0<=v)(h1:v<(k:Int))(h:∀x,P x):∃x:Int,(0<=v/\ls[Int.toNat v+0]? = some (.int .i64 x))/\P x:=by
 have hlt:Int.toNat v+0<ls.length:=by omega
 have:=List.all_eq_true.1 ha _ (List.getElem_mem hlt);have e:=List.getElem?_eq_getElem hlt;generalize ls[Int.toNat v+0]=y at this e;unfold zwj at this
 split at this
 ·exact⟨_,⟨h0,e⟩,h _⟩
 ·cases this
theorem zwh{v:Int}{k:Nat}{ls:List Va}{P:ByteArray->Prop}(ha:ls.all zwl=true)(hl:ls.length=k)(h0:0<=v)(h1:v<(k:Int))(h:∀x,P x):∃x:ByteArray,(0<=v/\ls[Int.toNat v+0]? = some (.string x))/\P x:=by
 have hlt:Int.toNat v+0<ls.length:=by omega
 have:=List.all_eq_true.1 ha _ (List.getElem_mem hlt);have e:=List.getElem?_eq_getElem hlt;generalize ls[Int.toNat v+0]=y at this e;unfold zwl at this
 split at this
 ·exact⟨_,⟨h0,e⟩,h _⟩
 ·cases this
theorem zs7(x:Int):Qn .i64 (10-ZX (zea x 1) 20):=by
 have:1<=ZX (zea x 1) 20/\ZX (zea x 1) 20<=20:=by
  have h:1<=zea x 1:=by unfold zea; split <;> omega
  unfold ZX
  split <;> omega
 exact⟨by omega,by omega⟩
section
variable {rb:Nat}{c:OA}{L N n:Nat}{bs:List Nat}{w0 w:Wo}
def znb(_:Int):Prop:=True
theorem zt8(h:JF rb c L N w)(hN:N<=900000000000) :
  Cz Yg #[.pointer (some ⟨rb,0,none⟩)] w fun e w'=>∃v,e=.returned (.int .i64 v)/\znb v/\JF rb c L (N+2) w'/\Q0 [rb] w w':=by
 refine(Hm (some ⟨rb,0,none⟩) (R:=fun v w'=>∃x,v=.int .i64 x/\JF rb c L (N+2) w'/\Q0 [rb] w w') ?_).mono fun e w' ⟨v,he,x,hv,h1⟩=>⟨x,by rw[he,hv],trivial,h1⟩
 have h0:=Dr.start h;intro wr hx hs;refine(Dr.pick (h0.step hx) (by omega) hs).mono ?_;rintro e w2 ⟨v,he,hk,_,h1⟩;refine⟨_,he,hk,fun _ b hb wr1 hx1 hs1=>?_,fun _ b hb wr1 hx1 hs1=>?_⟩
 all_goals
  refine(Dr.pick (h1.put hx1 hb) (by omega) hs1).mono ?_;rintro e w3 ⟨u,he3,hk3,⟨u0,_,u2⟩,h2⟩;have u2:=u2 (by decide);refine⟨_,he3,hk3,⟨by omega,by omega⟩,ztr (by decide) rfl (by omega) (by omega) fun x wr2 hx2=>⟨x,rfl,(h2.step hx2).fin (by omega)⟩⟩
theorem zrz(h:JF rb c L N w)(hN:N<=900000000000) :
  Cz ZG #[.pointer (some ⟨rb,0,none⟩)] w fun e w'=>∃v,e=.returned (.int .i64 v)/\znb v/\JF rb c L (N+2) w'/\Q0 [rb] w w':=by
 refine(G9 (some ⟨rb,0,none⟩) (R:=fun v w'=>∃x,v=.int .i64 x/\JF rb c L (N+2) w'/\Q0 [rb] w w') ?_).mono fun e w' ⟨v,he,x,hv,h1⟩=>⟨x,by rw[he,hv],trivial,h1⟩
 have h0:=Dr.start h;intro wr hx hs;refine(Dr.pick (h0.step hx) (by omega) hs).mono ?_;rintro e w2 ⟨v,he,hk,_,h1⟩;refine⟨_,he,hk,fun _ b hb wr1 hx1 hs1=>?_,fun _ b hb wr1 hx1 hs1=>?_⟩
 all_goals
  refine(Dr.pick (h1.put hx1 hb) (by omega) hs1).mono ?_;rintro e w3 ⟨u,he3,hk3,⟨u0,_,u2⟩,h2⟩;have u2:=u2 (by decide);refine⟨_,he3,hk3,⟨by omega,by omega⟩,ztr (by decide) rfl (by omega) (by omega) fun x wr2 hx2=>⟨x,rfl,(h2.step hx2).fin (by omega)⟩⟩
theorem zvi(h:JF rb c L N w)(hN:N<=900000000000) :
  Cz Vi #[.pointer (some ⟨rb,0,none⟩)] w fun e w'=>∃v,e=.returned (.int .i64 v)/\znb v/\JF rb c L (N+2) w'/\Q0 [rb] w w':=by
 refine(DM (some ⟨rb,0,none⟩) (R:=fun v w'=>∃x,v=.int .i64 x/\JF rb c L (N+2) w'/\Q0 [rb] w w') ?_).mono fun e w' ⟨v,he,x,hv,h1⟩=>⟨x,by rw[he,hv],trivial,h1⟩
 have h0:=Dr.start h;intro wr hx hs;refine(Dr.pick (h0.step hx) (by omega) hs).mono ?_;rintro e w2 ⟨v,he,hk,⟨v0,_,v2⟩,h1⟩;have v2:=v2 (by decide);refine⟨_,he,hk,fun wr1 hx1 hs1=>?_⟩;refine(Dr.pick (h1.step hx1) (by omega) hs1).mono ?_;rintro e w3 ⟨u,he3,hk3,⟨u0,_,u2⟩,h2⟩;have u2:=u2 (by decide)
 have hd:0<=Int.tdiv u 19/\Int.tdiv u 19<=1:=by
  rw[Int.tdiv_eq_ediv_of_nonneg u0];omega
 exact⟨_,he3,hk3,⟨by decide,⟨by omega,by omega⟩⟩,⟨by omega,by omega⟩,fun wr2 hx2=>⟨_,rfl,(h2.step hx2).fin (by omega)⟩⟩
theorem Dr.mask(h:Dr rb c L N n bs w0 w)(hN:N+n<=900000000000)(hs:∀x∈bs,x<w.heap.size) :
  Cz Yg #[.pointer (some ⟨rb,0,none⟩)] w fun e w'=>∃v,e=.returned (.int .i64 v)/\Q9 bs w w'/\znb v/\Dr rb c L N (n+2) bs w0 w':=h.call hs (zt8 h.r.rd hN)
theorem Dr.units(h:Dr rb c L N n bs w0 w)(hN:N+n<=900000000000)(hs:∀x∈bs,x<w.heap.size) :
  Cz ZG #[.pointer (some ⟨rb,0,none⟩)] w fun e w'=>∃v,e=.returned (.int .i64 v)/\Q9 bs w w'/\znb v/\Dr rb c L N (n+2) bs w0 w':=h.call hs (zrz h.r.rd hN)
end
theorem XU.w{W:Q7}(iv:XU W):Qv W=true:=Qh.2 iv.wp
theorem XU.len{W:Q7}(iv:XU W):Xc W:=zkd iv.wp.a
def zhn(W V:Q7):Prop:=XU V/\Xo W V
theorem zhn.refl{W:Q7}(iv:XU W):zhn W W:=⟨iv,.same⟩
theorem zri{W W':Q7}{bar:Int}(iv:XU W)(hb:bar=0->zhn W W'):zhn W (YG W bar W').1:=by
 unfold YG;rw[if_neg (by rw[iv.w]; decide)];split
 ·exact zhn.refl iv
 ·rename_i e;exact hb (by simpa using e)
theorem zon{W W':Q7}{bar a:Int}(iv:XU W)(hb:bar=0->zhn W W'):zhn W (V0 W bar W' a).1:=by
 unfold V0;rw[if_neg (by rw[iv.w]; decide)];split
 ·exact zhn.refl iv
 ·rename_i e;exact hb (by simpa using e)
section
variable {f:FuncId}{args:Array Va}{W W':Q7}{bar a:Int}{m:MW}{w:Wo}
theorem JU(iv:XU W)(hc:Cz f args w fun e w'=>∃v,e=.returned v/\QG (YG W bar W') w v w')(hb:bar=0->zhn W W') :
  Cz f args w fun e w'=>∃(V:Q7) (m':MW) (d:Int),e=.returned (.tuple #[.agg (Qa V m').toArray,.int .i64 d])/\zhn W V/\Y1 8 w.heap.size w' V m'/\Q0 [] w w':=
 hc.mono fun e w' ⟨v,he,n,m',hv,hM,hx⟩=>by
  have hi:=zri iv hb;have hn:n=8:=hM.len.symm.trans hi.1.wp.a.gl;subst hn;exact⟨_,m',_,by rw[he,hv],hi,hM,hx⟩
theorem zju(iv:XU W)(hc:Cz f args w fun e w'=>∃v,e=.returned v/\Tk (V0 W bar W' a) w v w')(hb:bar=0->zhn W W') :
  Cz f args w fun e w'=>∃(V:Q7) (m':MW) (q d:Int),e=.returned (.tuple #[.agg (Qa V m').toArray,.int .i64 q,.int .i64 d])/\zhn W V/\Y1 8 w.heap.size w' V m'/\Q0 [] w w':=
 hc.mono fun e w' ⟨v,he,n,m',hv,hM,hx⟩=>by
  have hi:=zon (a:=a) iv hb;have hn:n=8:=hM.len.symm.trans hi.1.wp.a.gl;subst hn;exact⟨_,m',_,_,by rw[he,hv],hi,hM,hx⟩
theorem znq{P:Q7->Prop}(iv:XU W)(h0:P W)(hc:Cz f args w fun e w'=>∃v,e=.returned v/\Tk (V0 W bar W' a) w v w')(hb:bar=0->XU W'/\P W') :
  Cz f args w fun e w'=>∃(V:Q7) (m':MW) (q d:Int),e=.returned (.tuple #[.agg (Qa V m').toArray,.int .i64 q,.int .i64 d])/\(XU V/\P V)/\Y1 8 w.heap.size w' V m'/\Q0 [] w w':=
 hc.mono fun e w' ⟨v,he,n,m',hv,hM,hx⟩=>by
  have hi:XU (V0 W bar W' a).1/\P (V0 W bar W' a).1:=by
   unfold V0;rw[if_neg (by rw[iv.w]; decide)];split
   ·exact⟨iv,h0⟩
   ·rename_i e;exact hb (by simpa using e)
  have hn:n=8:=hM.len.symm.trans hi.1.wp.a.gl;subst hn;exact⟨_,m',_,_,by rw[he,hv],hi,hM,hx⟩
def zv7(W:Q7)(w:Wo)(v:Va)(w':Wo):Prop:=∃(V:Q7) (m':MW) (d:Int),v=.tuple #[.agg (Qa V m').toArray,.int .i64 d]/\zhn W V/\Y1 8 w.heap.size w' V m'/\Q0 [] w w'
theorem XL{bs:List Nat}{w0 w2 w3:Wo}{d:Int}(s:Sc w0 bs w)(hs:∀x∈bs,x<w.heap.size)(hi:zhn W W'){m':MW}(hM:Y1 8 w.heap.size w2 W' m')(hy:Q0 [] w w2)(hx:Q0 bs w2 w3):zv7 W w0 (.tuple #[.agg (Qa W' m').toArray,.int .i64 d]) w3:=
 ⟨W',m',d,rfl,hi,(((OW.of hM hs).step hx).own).mono s.ext.size,((s.call0 hy).step hx).ext⟩
theorem zt3{c:Int}(iv:XU W)(h:U3 W c=0):XU (endW W c):=by
 obtain⟨c0,c1⟩:=JG (zjm h).1;exact zl8 iv c0 c1
theorem zma{k a n q:Int}{s:ByteArray}(h:YZ [] w W m)(iv:XU W) :
  Cz Uf #[.agg (Qa W m).toArray,.agg #[.int .i64 k,.int .i64 a,.int .i64 n,.int .i64 q,.string s]] w fun e w'=>∃v,e=.returned v/\zv7 W w v w':=by
 refine NH W.now m.cO W.cpus.length m.cC m.tO W.tasks.length m.tC m.gO W.groups.length m.gC k a n q s (R:=fun v w'=>zv7 W w v w') ?_;intro b hb b1 hb1 b2 hb2;have hl:=iv.len;have hW:=iv.w;have s0:Sc w ([b]++[b1]++[b2]) w:=(((Sc.start w).add hb).add hb1).add hb2;have hS:∀{wr:Wo},Q0 [] w wr->Sc w [b,b1,b2] wr:=fun hx=>s0.call0 hx
 refine⟨fun _ wr hx hs=>?_,fun _=>⟨fun _ wr hx hs=>?_,fun _=>⟨fun _ wr hx hs=>?_,fun _=>⟨fun _ wr hx hs=>?_,fun _=>⟨fun _ wr hx hs=>?_,fun _=>⟨fun _ wr hx hs=>?_,fun _=>⟨fun _ wr hx hs=>?_,fun _=>⟨fun _ wr hx hs=>?_,fun _=>⟨fun _ wr hx hs=>?_,fun _=>⟨fun _ wr hx hs=>?_,fun _=>⟨fun _ wr hx hs=>?_,fun _=>⟨fun _ wr hx hs=>?_,fun _=>⟨fun _ wr hx hs=>?_,fun _=>⟨fun _ wr hx hs=>?_,fun _=>⟨fun _ wr hx hs=>?_,fun _=>⟨fun _ wr hx hs=>?_,fun _=>⟨fun _ wr hx hs=>?_,fun _=>⟨fun _ wr hx hs=>?_,fun _=>⟨_,X2 h hl.c hl.t hl.g hl.f,fun g=>?_,fun _ wr hx hs=>?_⟩⟩⟩⟩⟩⟩⟩⟩⟩⟩⟩⟩⟩⟩⟩⟩⟩⟩⟩
 case refine_19=>rw[hW] at g; cases g
 case refine_20=>
  refine(O8 (h.ext hx) iv.wp.a).mono ?_;rintro e wv ⟨m',he,hM,hy⟩;exact⟨_,_,_,_,_,_,_,_,_,_,he,Qd hy hs,fun wr2 hx2=>XL (hS hx) hs (zhn.refl iv) hM hy hx2⟩
 case refine_3=>
  refine(zju iv (MF (h.ext hx) hl) (fun hb=>⟨zf6 hW hb,.fork _ _ _ hb⟩)).mono ?_;rintro e wv ⟨V,m',q1,d,he,hi,hM,hy⟩;exact⟨_,_,_,_,_,_,_,_,_,_,_,_,he,Qd hy hs,fun wr2 hx2=>XL (hS hx) hs hi hM hy hx2⟩
 case refine_10=>
  refine(zju iv (PM (h.ext hx) hl) fun hb=>⟨zop iv (An hb).1,.mak _ _ _ (An hb).1⟩).mono ?_;rintro e wv ⟨V,m',q1,d,he,hi,hM,hy⟩;exact⟨_,_,_,_,_,_,_,_,_,_,_,_,he,Qd hy hs,fun wr2 hx2=>XL (hS hx) hs hi hM hy hx2⟩
 case refine_1=>exact(JU iv (Bb (h.ext hx) hl) (fun hb=>⟨zrr iv hb,.run _ _ hb⟩)).mono fun e wv ⟨V,m',d,he,hi,hM,hy⟩=>⟨_,_,_,_,_,_,_,_,_,_,_,he,Qd hy hs,fun wr2 hx2=>XL (hS hx) hs hi hM hy hx2⟩
 case refine_2=>exact(JU iv (Pa (h.ext hx) hl) (fun hb=>⟨zt3 iv hb,.yld _ hb⟩)).mono fun e wv ⟨V,m',d,he,hi,hM,hy⟩=>⟨_,_,_,_,_,_,_,_,_,_,_,he,Qd hy hs,fun wr2 hx2=>XL (hS hx) hs hi hM hy hx2⟩
 case refine_4=>exact(JU iv (E2 (h.ext hx) hl) (fun hb=>⟨zl7 hW hb,.block _ hb⟩)).mono fun e wv ⟨V,m',d,he,hi,hM,hy⟩=>⟨_,_,_,_,_,_,_,_,_,_,_,he,Qd hy hs,fun wr2 hx2=>XL (hS hx) hs hi hM hy hx2⟩
 case refine_5=>exact(JU iv (B8 (h.ext hx) hl) (fun hb=>⟨zos hW hb,.wake _ hb⟩)).mono fun e wv ⟨V,m',d,he,hi,hM,hy⟩=>⟨_,_,_,_,_,_,_,_,_,_,_,he,Qd hy hs,fun wr2 hx2=>XL (hS hx) hs hi hM hy hx2⟩
 case refine_6=>exact(JU iv (B5 (h.ext hx) hl) (fun hb=>⟨zoo hW hb,.exit _ hb⟩)).mono fun e wv ⟨V,m',d,he,hi,hM,hy⟩=>⟨_,_,_,_,_,_,_,_,_,_,_,he,Qd hy hs,fun wr2 hx2=>XL (hS hx) hs hi hM hy hx2⟩
 case refine_7=>exact(JU iv (B7 (h.ext hx) hl) (fun hb=>⟨zoq hW hb,.nice _ _ hb⟩)).mono fun e wv ⟨V,m',d,he,hi,hM,hy⟩=>⟨_,_,_,_,_,_,_,_,_,_,_,he,Qd hy hs,fun wr2 hx2=>XL (hS hx) hs hi hM hy hx2⟩
 case refine_8=>exact(JU iv (Ac (h.ext hx) hl) (fun hb=>⟨zrq hW hb,.pin _ _ hb⟩)).mono fun e wv ⟨V,m',d,he,hi,hM,hy⟩=>⟨_,_,_,_,_,_,_,_,_,_,_,he,Qd hy hs,fun wr2 hx2=>XL (hS hx) hs hi hM hy hx2⟩
 case refine_9=>exact(JU iv (B6 (h.ext hx) hl) (fun hb=>⟨zrn iv hb,.mov _ _ hb⟩)).mono fun e wv ⟨V,m',d,he,hi,hM,hy⟩=>⟨_,_,_,_,_,_,_,_,_,_,_,he,Qd hy hs,fun wr2 hx2=>XL (hS hx) hs hi hM hy hx2⟩
 case refine_11=>exact(JU iv (E0 (h.ext hx) hl) fun hb=>⟨zrk iv (zn7 hb).1,.drp _ (zn7 hb).1⟩).mono fun e wv ⟨V,m',d,he,hi,hM,hy⟩=>⟨_,_,_,_,_,_,_,_,_,_,_,he,Qd hy hs,fun wr2 hx2=>XL (hS hx) hs hi hM hy hx2⟩
 case refine_12=>exact(JU iv (HA (h.ext hx) hl) (fun hb=>⟨zrs hW hb,.wgh _ _ hb⟩)).mono fun e wv ⟨V,m',d,he,hi,hM,hy⟩=>⟨_,_,_,_,_,_,_,_,_,_,_,he,Qd hy hs,fun wr2 hx2=>XL (hS hx) hs hi hM hy hx2⟩
 case refine_13=>exact(JU iv (B4 (h.ext hx) hl) (fun hb=>⟨zrl hW hb,.gpn _ _ hb⟩)).mono fun e wv ⟨V,m',d,he,hi,hM,hy⟩=>⟨_,_,_,_,_,_,_,_,_,_,_,he,Qd hy hs,fun wr2 hx2=>XL (hS hx) hs hi hM hy hx2⟩
 case refine_14=>exact(JU iv (Hz (h.ext hx) hl) (fun hb=>⟨zrm hW hb,.lim _ _ _ hb⟩)).mono fun e wv ⟨V,m',d,he,hi,hM,hy⟩=>⟨_,_,_,_,_,_,_,_,_,_,_,he,Qd hy hs,fun wr2 hx2=>XL (hS hx) hs hi hM hy hx2⟩
 case refine_15=>exact(JU iv (B9 (h.ext hx) hl) (fun hb=>⟨zor hW hb,.time _ hb⟩)).mono fun e wv ⟨V,m',d,he,hi,hM,hy⟩=>⟨_,_,_,_,_,_,_,_,_,_,_,he,Qd hy hs,fun wr2 hx2=>XL (hS hx) hs hi hM hy hx2⟩
 case refine_16=>exact(JU iv (Hx (h.ext hx) hl) (fun hb=>⟨zrj hW hb,.bal _ hb⟩)).mono fun e wv ⟨V,m',d,he,hi,hM,hy⟩=>⟨_,_,_,_,_,_,_,_,_,_,_,he,Qd hy hs,fun wr2 hx2=>XL (hS hx) hs hi hM hy hx2⟩
 case refine_17=>exact(JU iv (zaa (h.ext hx) hl) (fun hb=>⟨zrp hW hb,.off _ hb⟩)).mono fun e wv ⟨V,m',d,he,hi,hM,hy⟩=>⟨_,_,_,_,_,_,_,_,_,_,_,he,Qd hy hs,fun wr2 hx2=>XL (hS hx) hs hi hM hy hx2⟩
 case refine_18=>exact(JU iv (zd5 (h.ext hx) hl) (fun hb=>⟨zt2 hW hb,.on _ hb⟩)).mono fun e wv ⟨V,m',d,he,hi,hM,hy⟩=>⟨_,_,_,_,_,_,_,_,_,_,_,he,Qd hy hs,fun wr2 hx2=>XL (hS hx) hs hi hM hy hx2⟩
end
theorem zt6{rb:Nat}{c:OA}{L N:Nat}{w:Wo}{W:Q7}{m:MW}(h:JF rb c L N w)(hN:N<=800000000000) :
  Cz XQ #[.pointer (some ⟨rb,0,none⟩),.agg (Qa W m).toArray] w fun e w'=>∃(k a n q:Int) (s:ByteArray),e=.returned (.agg #[.int .i64 k,.int .i64 a,.int .i64 n,.int .i64 q,.string s])/\JF rb c L (N+20) w'/\Q0 [rb] w w':=by
 refine(Hl (some ⟨rb,0,none⟩) W.now m.cO W.cpus.length m.cC m.tO W.tasks.length m.tC m.gO W.groups.length m.gC (R:=fun v w'=>∃(k a n q:Int) (s:ByteArray),v=.agg #[.int .i64 k,.int .i64 a,.int .i64 n,.int .i64 q,.string s]/\JF rb c L (N+20) w'/\Q0 [rb] w w') ?_).mono fun e w' ⟨v,he,k,a,n,q,s,hv,h1⟩=>⟨k,a,n,q,s,by rw[he,hv],h1⟩
 intro b hb b1 hb1;refine⟨_,Vo,fun wr hx hs=>?_⟩;refine(Dr.pick ((Dr.start h).put2 hx hb hb1) (by omega) hs).mono ?_;rintro e w1 ⟨v1,he,hk,_,h1⟩;refine⟨_,he,hk,fun wr hx hs=>?_⟩;refine(Dr.pick (h1.step hx) (by omega) hs).mono ?_;rintro e w2 ⟨v2,he,hk,_,h2⟩;refine⟨_,he,hk,fun vs bs w2=>bs=[]/\(∃x:Int,vs=[.int .i64 x])/\Dr rb c L N 4 [b,b1] w w2,fun wr hx hs=>?_,?_⟩
 ·refine(Dr.pick (h2.step hx) (by omega) hs).mono ?_;rintro e w3 ⟨v3,he,hk,_,h3⟩;refine⟨_,he,hk,fun _ wr hx hs=>?_,fun _ wr hx hs=>⟨rfl,⟨_,rfl⟩,(h3.step hx).more (by decide)⟩⟩;refine(Dr.pick (h3.step hx) (by omega) hs).mono ?_;rintro e w4 ⟨v4,he,hk,_,h4⟩;exact⟨_,he,hk,fun wr hx _=>⟨rfl,⟨_,rfl⟩,(h4.step hx).more (by decide)⟩⟩
 clear h1 h2;rintro t wv4 hs4 ⟨-,-,h4⟩ wr hx hs;refine(Dr.pick (h4.step hx) (by omega) hs).mono ?_;rintro e w5 ⟨v5,he,hk,⟨p50,_,p52⟩,h5⟩;have p52:=p52 (by decide);refine⟨_,he,hk,fun wr hx hs=>?_⟩;refine(Dr.pick (h5.step hx) (by omega) hs).mono ?_;rintro e w6 ⟨v6,he,hk,_,h6⟩;clear h4 h5;refine⟨_,he,hk,fun _=>?_,fun _ wr hx hs=>?_⟩
 rotate_left
 ·refine(Dr.pick (h6.step hx) (by omega) hs).mono ?_;rintro e w7 ⟨v7,he,hk,_,h7⟩;clear h6;refine⟨_,he,hk,?_⟩;clear he hk hx hs hs4
  repeat' first
   | exact rfl
   | exact zs7 _
   | (refine⟨_,Vo,?_⟩)
   | (refine⟨_,XS,?_⟩)
   | (refine⟨fun _ bs w2=>bs=[]/\Dr rb c L N 7 [b,b1] w w2,?_,?_⟩)
   | (refine And.intro ?_ ?_)
   | (refine ztr (by decide) rfl (by omega) (by omega) fun x=>?_)
   | (refine zwh (by decide) rfl (by omega) (by omega) fun x=>?_)
   | (intro (x:Bool) (wv:Wo) hs hm; obtain⟨_,hD⟩:=hm)
   | (intro (b:Nat) hb)
   | (intro (wr:Wo) hx hs; refine(Dr.pick (Dr.step (by assumption) hx) ?_ hs).mono ?_; rotate_left; rintro e w2 ⟨v,he,hk,⟨hp0,_,hp2⟩,hC⟩; have hp2:=hp2 (by decide); refine⟨_,he,hk,?_⟩)
   | (intro (wr:Wo) hx hs; refine(Dr.pick (Dr.put (by assumption) hx (by assumption)) ?_ hs).mono ?_; rotate_left; rintro e w2 ⟨v,he,hk,⟨hp0,_,hp2⟩,hC⟩; have hp2:=hp2 (by decide); refine⟨_,he,hk,?_⟩)
   | (intro (wr:Wo) hx hs; refine(Dr.pick (Dr.put2 (by assumption) hx (by assumption) (by assumption)) ?_ hs).mono ?_; rotate_left; rintro e w2 ⟨v,he,hk,⟨hp0,_,hp2⟩,hC⟩; have hp2:=hp2 (by decide); refine⟨_,he,hk,?_⟩)
   | (intro (wr:Wo) hx hs; refine(Dr.weight (Dr.step (by assumption) hx) ?_ hs).mono ?_; rotate_left; rintro e w2 ⟨v,he,hk,⟨hp0,hp2⟩,hC⟩; refine⟨_,he,hk,?_⟩)
   | (intro (wr:Wo) hx hs; refine(Dr.mask (Dr.step (by assumption) hx) ?_ hs).mono ?_; rotate_left; rintro e w2 ⟨v,he,hk,_,hC⟩; refine⟨_,he,hk,?_⟩)
   | (intro (wr:Wo) hx hs; refine(Dr.units (Dr.step (by assumption) hx) ?_ hs).mono ?_; rotate_left; rintro e w2 ⟨v,he,hk,_,hC⟩; refine⟨_,he,hk,?_⟩)
   | (intro (wr:Wo) hx hs; exact⟨rfl,Dr.step (by assumption) hx⟩)
   | (intro (wr:Wo) hx; exact⟨_,_,_,_,_,rfl,(Dr.step (by assumption) hx).fin (by decide)⟩)
   | (intro (hh:_=true))
   | (intro (hh:_=false))
   | omega
   | decide
 ·repeat' first
   | exact rfl
   | (refine And.intro ?_ ?_)
   | (refine ztr (by decide) rfl (by omega) (by omega) fun x=>?_)
   | (intro (b:Nat) hb)
   | (intro (wr:Wo) hx hs; refine(Dr.pick (Dr.step (by assumption) hx) ?_ hs).mono ?_; rotate_left; rintro e w2 ⟨v,he,hk,⟨hp0,_,hp2⟩,hC⟩; have hp2:=hp2 (by decide); refine⟨_,he,hk,?_⟩)
   | (intro (wr:Wo) hx hs; refine(Dr.pick (Dr.put (by assumption) hx (by assumption)) ?_ hs).mono ?_; rotate_left; rintro e w2 ⟨v,he,hk,⟨hp0,_,hp2⟩,hC⟩; have hp2:=hp2 (by decide); refine⟨_,he,hk,?_⟩)
   | (intro (wr:Wo) hx; exact⟨_,_,_,_,_,rfl,(Dr.step (by assumption) hx).fin (by decide)⟩)
   | omega
def zwk(lo hi:Int):Va->Bool
 | .int .i64 x=>decide (lo<=x)&&decide (x<=hi)
 | _=>false
theorem zwq{lo hi v:Int}{k:Nat}{ls:List Va}{P:Int->Prop}(ha:ls.all (zwk lo hi)=true)(hl:ls.length=k)(h0:0<=v)(h1:v<(k:Int))(h:∀x,lo<=x->x<=hi->P x):∃x:Int,(0<=v/\ls[Int.toNat v+0]? = some (.int .i64 x))/\P x:=by
 have hlt:Int.toNat v+0<ls.length:=by omega
 have:=List.all_eq_true.1 ha _ (List.getElem_mem hlt);have e:=List.getElem?_eq_getElem hlt;generalize ls[Int.toNat v+0]=y at this e;unfold zwk at this
 split at this
 ·rw[Bool.and_eq_true,decide_eq_true_eq,decide_eq_true_eq] at this;exact⟨_,⟨h0,e⟩,h _ this.1 this.2⟩
 ·cases this
structure Xr (P:Nat->Q7->Prop) (rb:Nat) (c:OA) (L N n:Nat) (bs:List Nat) (w0 w:Wo) (W:Q7) (m:MW):Prop where
 iv:XU W
 lw:P n W
 d:Dr rb c L N n bs w0 w
 o:OW 8 w0.heap.size (rb::bs) w W m
section
variable {P:Nat->Q7->Prop}{rb b b2:Nat}{c:OA}{L N n k:Nat}{bs cs:List Nat}{w0 w w':Wo}{W W':Q7}{m m':MW}
theorem Xr.step(h:Xr P rb c L N n bs w0 w W m)(hx:Q0 bs w w'):Xr P rb c L N n bs w0 w' W m:=⟨h.iv,h.lw,h.d.step hx,h.o.step (hx.mono fun _ hm=>List.mem_cons_of_mem _ hm)⟩
theorem Xr.put(h:Xr P rb c L N n bs w0 w W m)(hx:Q0 bs w w')(hb:w.heap.size<=b):Xr P rb c L N n (bs++[b]) w0 w' W m:=⟨h.iv,h.lw,h.d.put hx hb,h.o.put (hx.mono fun _ hm=>List.mem_cons_of_mem _ hm) hb⟩
theorem Xr.put2(h:Xr P rb c L N n bs w0 w W m)(hx:Q0 bs w w')(hb:w.heap.size<=b)(hb2:w.heap.size<=b2):Xr P rb c L N n (bs++[b]++[b2]) w0 w' W m:=⟨h.iv,h.lw,h.d.put2 hx hb hb2,h.o.put2 (hx.mono fun _ hm=>List.mem_cons_of_mem _ hm) hb hb2⟩
theorem Xr.sub(h:Xr P rb c L N n bs w0 w W m)(hs:∀x∈cs,x∈bs):Xr P rb c L N n cs w0 w W m:=⟨h.iv,h.lw,h.d.sub hs,h.o.sub fun x hx=>by
 rcases List.mem_cons.1 hx with h1 | h1
 ·rw[h1]; exact List.mem_cons_self
 ·exact List.mem_cons_of_mem _ (hs x h1)⟩
theorem Xr.more{q:Nat}(hP:P3 P)(h:Xr P rb c L N n bs w0 w W m)(hm:n<=q):Xr P rb c L N q bs w0 w W m:=⟨h.iv,hP.mono hm h.lw,h.d.more hm,h.o⟩
theorem Xr.rd(h:Xr P rb c L N n bs w0 w W m):YZ [] w W m:=h.o.rd0
theorem Xr.drawn(hP:P3 P)(h:Xr P rb c L N n bs w0 w W m)(hr:JF rb c L (N+n+k) w')(hx:Q0 [rb] w w'):Xr P rb c L N (n+k) bs w0 w' W m:=
 ⟨h.iv,hP.mono (by omega) h.lw,⟨h.d.r.upd (by rw[<-Nat.add_assoc]; exact hr),h.d.ext.trans hx,h.d.new⟩,h.o.step (hx.mono fun x hm=>by
  have:x=rb:=by simpa using hm
  subst this; exact List.mem_cons_self)⟩
theorem Xr.call{f:FuncId}{args:Array Va}{Q:Int->Prop}(hP:P3 P)(h:Xr P rb c L N n bs w0 w W m)(hs:∀x∈bs,x<w.heap.size)(hc:Cz f args w fun e w'=>∃v,e=.returned (.int .i64 v)/\Q v/\JF rb c L (N+n+k) w'/\Q0 [rb] w w') :
  Cz f args w fun e w'=>∃v,e=.returned (.int .i64 v)/\Q9 bs w w'/\Q v/\Xr P rb c L N (n+k) bs w0 w' W m:=
 hc.mono fun e w' ⟨v,he,hq,hr,hx⟩=>⟨v,he,OL h.d.r hx hs,hq,h.drawn hP hr hx⟩
theorem Xr.pick(hP:P3 P)(h:Xr P rb c L N n bs w0 w W m)(hN:N+n<=1000000000000)(hs:∀x∈bs,x<w.heap.size){q:Int} :
  Cz Q1 #[.pointer (some ⟨rb,0,none⟩),.int .i64 q] w fun e w'=>∃v,e=.returned (.int .i64 v)/\Q9 bs w w'/\GO q v/\Xr P rb c L N (n+1) bs w0 w' W m:=h.call hP hs (Gk h.d.r.rd hN)
theorem Xr.weight(hP:P3 P)(h:Xr P rb c L N n bs w0 w W m)(hN:N+n<=900000000000)(hs:∀x∈bs,x<w.heap.size) :
  Cz Zw #[.pointer (some ⟨rb,0,none⟩)] w fun e w'=>∃v,e=.returned (.int .i64 v)/\Q9 bs w w'/\zux v/\Xr P rb c L N (n+2) bs w0 w' W m:=h.call hP hs (zf8 h.d.r.rd hN)
theorem Xr.item(hP:P3 P)(h:Xr P rb c L N n bs w0 w W m)(hN:N+n<=800000000000)(hs:∀x∈bs,x<w.heap.size){V:Q7}{p:MW} :
  Cz XQ #[.pointer (some ⟨rb,0,none⟩),.agg (Qa V p).toArray] w fun e w'=>∃(k a q r:Int) (s:ByteArray),e=.returned (.agg #[.int .i64 k,.int .i64 a,.int .i64 q,.int .i64 r,.string s])/\Q9 bs w w'/\Xr P rb c L N (n+20) bs w0 w' W m:=
 (zt6 h.d.r.rd hN).mono fun e w' ⟨k,a,q,r,s,he,hr,hx⟩=>⟨k,a,q,r,s,he,OL h.d.r hx hs,h.drawn hP hr hx⟩
theorem Xr.bsl(h:Xr P rb c L N n bs w0 w W m)(hs:∀x∈bs,x<w.heap.size):∀x∈rb::bs,x<w.heap.size:=fun x hm=>by
 rcases List.mem_cons.1 hm with h1 | h1
 ·rw[h1]; exact h.d.r.rd.lt
 ·exact hs x h1
theorem Xr.deed{P':Nat->Q7->Prop}{q:Nat}(h:Xr P rb c L N n bs w0 w W m)(hq:n<=q)(hs:∀x∈bs,x<w.heap.size)(hi:XU W')(hl:P' q W')(hM:Y1 8 w.heap.size w' W' m')(hx:Q0 [] w w'):Xr P' rb c L N q bs w0 w' W' m':=
 ⟨hi,hl,Dr.more ⟨h.d.r.call0 hx,h.d.ext.trans hx.of_nil,h.d.new⟩ hq,(OW.of hM (h.bsl hs)).mono h.d.ext.size⟩
theorem Xr.mak{p:Int}{name:ByteArray}(hP:P3 P)(h:Xr P rb c L N n bs w0 w W m)(hs:∀x∈bs,x<w.heap.size) :
  Cz Qx #[.agg (Qa W m).toArray,.int .i64 p,.string name] w fun e w'=>∃(W':Q7) (m':MW) (a d:Int),e=.returned (.tuple #[.agg (Qa W' m').toArray,.int .i64 a,.int .i64 d])/\Q9 bs w w'/\Xr P rb c L N n bs w0 w' W' m':=
 (znq (P:=P n) h.iv h.lw (PM h.rd h.iv.len) fun hb=>⟨zop h.iv (An hb).1,hP.mak h.iv h.lw (An hb).1⟩).mono fun e w' ⟨V,m',a,d,he,hi,hM,hx⟩=>⟨V,m',a,d,he,Qd hx hs,h.deed (Nat.le_refl _) hs hi.1 hi.2 hM hx⟩
theorem Xr.fork{g q x:Int}(hP:P3 P)(h:Xr P rb c L N n bs w0 w W m)(hs:∀x∈bs,x<w.heap.size) :
  Cz YT #[.agg (Qa W m).toArray,.int .i64 g,.int .i64 q,.int .i64 x] w fun e w'=>∃(W':Q7) (m':MW) (a d:Int),e=.returned (.tuple #[.agg (Qa W' m').toArray,.int .i64 a,.int .i64 d])/\Q9 bs w w'/\Xr P rb c L N n bs w0 w' W' m':=
 (znq (P:=P n) h.iv h.lw (MF h.rd h.iv.len) fun hb=>⟨zf6 h.iv.w hb,hP.fork h.iv h.lw hb⟩).mono fun e w' ⟨V,m',a,d,he,hi,hM,hx⟩=>⟨V,m',a,d,he,Qd hx hs,h.deed (Nat.le_refl _) hs hi.1 hi.2 hM hx⟩
theorem Xr.do{k a q r:Int}{s:ByteArray}(hP:P3 P)(hn:n<=10000)(h:Xr P rb c L N n bs w0 w W m)(hs:∀x∈bs,x<w.heap.size) :
  Cz Uf #[.agg (Qa W m).toArray,.agg #[.int .i64 k,.int .i64 a,.int .i64 q,.int .i64 r,.string s]] w fun e w'=>∃(W':Q7) (m':MW) (d:Int),e=.returned (.tuple #[.agg (Qa W' m').toArray,.int .i64 d])/\Q9 bs w w'/\Xr P rb c L N (n+10) bs w0 w' W' m':=
 (zma h.rd h.iv).mono fun e w' ⟨v,he,V,m',d,hv,hi,hM,hx⟩=>⟨V,m',d,by rw[he,hv],Qd hx hs,h.deed (Nat.le_add_right _ _) hs hi.1 (hP.deed hn h.iv h.lw hi.2) hM hx⟩
theorem Xr.fin{q:Nat}(hP:P3 P)(h:Xr P rb c L N n bs w0 w W m)(hq:n<=q):(XU W/\P q W)/\Y1 8 w0.heap.size w W m/\JF rb c L (N+q) w/\Q0 [rb] w0 w/\∀x∈QB 8 m,x≠rb:=⟨⟨h.iv,hP.mono hq h.lw⟩,h.o.own,(h.d.fin hq).1,h.d.ext,fun x hx e=>h.o.nb x hx (by rw[e]; exact List.mem_cons_self)⟩
end
end Go.Proofs.YtnclplgaicdapaaGreatDoor
