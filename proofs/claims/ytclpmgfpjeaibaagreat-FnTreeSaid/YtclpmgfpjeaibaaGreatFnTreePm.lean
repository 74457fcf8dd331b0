/- Part 13 of what the law FnTree needs: the engine, the functions' propositions, the contracts. -/
import Derived.Test.YtclpmgfpjeaibaaGreatFnTreePl
import Derived.Shelf.Abstract
namespace Go.Proofs.YtclpmgfpjeaibaaGreat
open Go.RowKit
set_option linter.unusedVariables false
set_option linter.unusedSimpArgs false
set_option maxRecDepth 10000
def zoi (W:Q7) (a b:Int):Bool:=decide (Lx W a>Lx W b)
def O7 (W:Q7) (c m:Int):Nat->Int
 | 0 => -1
 | k+1=>if ((Z5 m (k:Int)&&zfd W (k:Int) c)&&(decide (O7 W c m k<0)||zoi W (k:Int) (O7 W c m k)))=true then (k:Int) else O7 W c m k
theorem zhl {W:Q7} {c m:Int} {k:Nat} (h:((Z5 m (k:Int)&&zfd W (k:Int) c)&&(decide (O7 W c m k<0)||zoi W (k:Int) (O7 W c m k)))=true):O7 W c m (k+1)=(k:Int):=if_pos h
theorem zdr {W:Q7} {c m:Int} {k:Nat} (h:¬((Z5 m (k:Int)&&zfd W (k:Int) c)&&(decide (O7 W c m k<0)||zoi W (k:Int) (O7 W c m k)))=true):O7 W c m (k+1)=O7 W c m k:=if_neg h
theorem zkf {p:Nat->Bool} {n:Nat} (h:p n=false):Vs p (n+1)=Vs p n:=by simp [Vs,h]
theorem EM (W:Q7) (c m:Int):∀k:Nat,-1<=O7 W c m k/\O7 W c m k<k
 | 0=>by simp [O7]
 | k+1=>by
  have:=EM W c m k;simp only [O7]
  split <;> omega
noncomputable def Vt (W:Q7) (c lv:Int):Int:=O7 W c (zpb (W.cpus.length:Int) c lv) W.cpus.length
theorem zm7 {W:Q7} (wp:XG W) {b c:Int} (h:zfd W b c=true):0<=b/\b<(W.cpus.length:Int)/\b≠c:=by
 obtain ⟨t,ht,hp⟩:=EJ.1 h;simp only [Bool.and_eq_true,beq_iff_eq] at hp;obtain ⟨h1,h2⟩:=Hr hp.2;have:=wp.li (t:=(t:Int)) (by omega) (by have:=wp.a.t; omega) h1;rw [hp.1] at this h2;exact ⟨this.2.1,this.2.2,h2⟩
section
variable {W:Q7} {m:MW} {w:World} {bs:List Nat} {p:OA}
theorem Lr {s c:Int} (h:Xo bs w W m) (wp:XG W) (c0:0<=c) (c1:c<(W.cpus.length:Int)):PX bs JV #[.agg (Qa W m).toArray,.int .i64 s,.int .i64 c] w (.int .i64 (O7 W c s W.cpus.length)):=
 LE W.now m.cO W.cpus.length m.cC m.tO W.tasks.length m.tC m.gO W.groups.length m.gC s c fun wr hx=>by
  have h:=(h.ext hx).less (cs:=[]) (by simp);have h4:=wp.a.c2;have htl:=wp.a.t;intro _ _;refine Tx W.cpus.length 0 rfl (fun x k=>k<=W.cpus.length/\x=O7 W c s k) ⟨Nat.zero_le _,rfl⟩ fun x k ⟨hk,hx2⟩=>⟨fun hlt => ?_,fun hge => ?_⟩
  ·subst hx2;have hlt:=of_decide_eq_true hlt;have hr:=EM W c s k;refine ⟨_,fun _=>ZC,_,fun _ _=>Ut h wp,_,fun _ _=>Ut h wp,fun g => ?_,fun g => ?_⟩
   ·refine ⟨⟨by omega,by omega⟩,QA (by omega) ⟨by omega,?_⟩⟩;rw [zdr];intro hc;simp only [Bool.and_eq_true] at hc;have hne:=(zm7 wp hc.1.2).2.2;rw [beq_eq_false_iff_ne.2 hne,hc.1.1] at g;simp only [Bool.not_true,Bool.or_self,Bool.false_or,Bool.and_eq_true,decide_eq_true_eq] at g;unfold zoi at hc;simp only [Bool.or_eq_true,decide_eq_true_eq] at hc;omega
   ·simp only [Bool.or_eq_false_iff,Bool.not_eq_false'] at g;obtain ⟨⟨g1,g2⟩,g3⟩:=g
    have hb:(decide (O7 W c s k<0)||zoi W (k:Int) (O7 W c s k))=true:=by
     unfold zoi;simp only [Bool.or_eq_true,decide_eq_true_eq];simp only [Bool.and_eq_false_iff,decide_eq_false_iff_not] at g3;omega
    refine Tx 12 0 rfl (fun y j=>j<=12/\y=if Vs (fun t=>((Q8 W (t:Int)).cpu==(k:Int))&&Jk W (t:Int) c) j=true then (k:Int) else O7 W c s k) ⟨Nat.zero_le _,rfl⟩ fun y j ⟨hj,hy⟩=>⟨fun hlt2 => ?_,fun hge2 => ?_⟩
    ·have hlt2:=of_decide_eq_true hlt2;have hj12:j<12:=by omega
     refine ⟨h.t.ix QJ (by omega) hlt2,_,h.t.f (by omega) hlt2 (j:=2) rfl,_,fun _=>Pa h wp (by omega) hlt2 c0 c1,fun g4 => ?_,fun g4 => ?_⟩
     ·have g4:(((Q8 W (j:Int)).cpu==(k:Int))&&Jk W (j:Int) c)=true:=g4;refine ⟨⟨by omega,by omega⟩,QA hj12 ⟨by omega,?_⟩⟩;rw [if_pos];simp only [Vs,Bool.or_eq_true];exact .inr g4
     ·have g4:(((Q8 W (j:Int)).cpu==(k:Int))&&Jk W (j:Int) c)=false:=g4;refine ⟨⟨by omega,by omega⟩,QA hj12 ⟨by omega,?_⟩⟩;rw [hy,zkf (p:=fun t=>((Q8 W (t:Int)).cpu==(k:Int))&&Jk W (t:Int) c) g4]
    ·have hge2:=of_decide_eq_false hge2;have:j=12:=by omega
     subst this;refine ⟨⟨by omega,by omega⟩,QA (by omega) ⟨by omega,?_⟩⟩;rw [hy];show (if zfd W (k:Int) c=true then (k:Int) else O7 W c s k)=_
     cases ha:zfd W (k:Int) c with
     | true=>rw [zhl (by rw [g2,ha,hb]; rfl),if_pos rfl]
     | false=>rw [zdr (by rw [ha]; simp),if_neg (by decide)]
  ·have hge:=of_decide_eq_false hge;have:k=W.cpus.length:=by omega
   subst this;rw [hx2]
end
theorem CL (cs:List TQ) {c:Int} (c0:0<=c):∀k:Nat,k<=4->c<(k:Int)->(gi cs c).up=true->Z5 (UC cs k) c=true
 | 0,_,h,_=>by omega
 | k+1,hk,h,hu=>by
  have hl:=LU cs k (by omega)
  have hb:UI k<=8:=by
   have:k=0\/k=1\/k=2\/k=3:=by omega
   rcases this with rfl | rfl | rfl | rfl <;> decide
  have key:=z6 ⟨k,by omega⟩ ⟨(UC cs k).toNat,by omega⟩ ⟨c.toNat,by omega⟩;rw [show ((⟨(UC cs k).toNat,by omega⟩:Fin 8).val:Int)=UC cs k by show (((UC cs k).toNat:Nat):Int)=UC cs k; omega,show ((⟨c.toNat,by omega⟩:Fin 4).val:Int)=c by show ((c.toNat:Nat):Int)=c; omega] at key;simp only [UC]
  by_cases e:c=(k:Int)
  ·subst e;rw [if_pos hu,key hl.2];simp
  ·have ih:=CL cs c0 k (by omega) (by omega) hu;split
   ·rw [key hl.2,ih]; simp
   ·exact ih
theorem Hl {cs:List TQ} (h4:cs.length<=4) {c:Int} (c0:0<=c) (c1:c<(cs.length:Int)) (hu:(gi cs c).up=true):Jo cs≠0:=fun e=>by
 have h:=CL cs c0 cs.length h4 c1 hu;rw [show UC cs cs.length=0 from e] at h;have hr:=Tz h;have:c=0\/c=1\/c=2\/c=3:=by omega
 rcases this with rfl | rfl | rfl | rfl <;> exact absurd h (by decide)
theorem zit {m c:Int} (c0:0<=c) (c4:c<4) (h:Z5 m c=true) (hn:∀j:Int,0<=j->j<4->j≠c->Z5 m j=false):Kn m 4=1:=by
 have h0:=hn 0 (by decide) (by decide);have h1:=hn 1 (by decide) (by decide);have h2:=hn 2 (by decide) (by decide);have h3:=hn 3 (by decide) (by decide);have i0:((0:Nat):Int)=0:=rfl;have i1:((1:Nat):Int)=1:=rfl;have i2:((2:Nat):Int)=2:=rfl;have i3:((3:Nat):Int)=3:=rfl;have:c=0\/c=1\/c=2\/c=3:=by omega
 simp only [Kn,i0,i1,i2,i3];rcases this with rfl | rfl | rfl | rfl
 ·have e1:=h1 (by decide); have e2:=h2 (by decide); have e3:=h3 (by decide); simp [h,e1,e2,e3]
 ·have e1:=h0 (by decide); have e2:=h2 (by decide); have e3:=h3 (by decide); simp [h,e1,e2,e3]
 ·have e1:=h0 (by decide); have e2:=h1 (by decide); have e3:=h3 (by decide); simp [h,e1,e2,e3]
 ·have e1:=h0 (by decide); have e2:=h1 (by decide); have e3:=h2 (by decide); simp [h,e1,e2,e3]
theorem zgz {cs:List TQ} (h4:cs.length<=4) {c:Int} (c0:0<=c) (c1:c<(cs.length:Int)) (hu:(gi cs c).up=true) (hn:Kn (Jo cs) 4≠1):∃j:Int,0<=j/\j<(cs.length:Int)/\j≠c/\(gi cs j).up=true:=by
 refine Classical.byContradiction fun hne=>hn (zit c0 (by omega) (CL cs c0 cs.length h4 c1 hu) fun j j0 j4 hj => ?_)
 cases h:Z5 (Jo cs) j with
 | false=>rfl
 | true=>
  obtain ⟨a,b⟩:=CJ cs (c:=j) cs.length h4 h;exact absurd ⟨j,j0,a,hj,b⟩ hne
theorem SW.setCp {K:Int} {W:Q7} (h:SW K W) {c:Int} (c0:0<=c) (c1:c<(W.cpus.length:Int)) {x:TQ} (hu:Jo (W.cpus.set c.toNat x)≠0) (h1 : -1<=x.cur) (h2:x.cur<12):SW K (setCp W c x):=by
 have hl:(W.cpus.set c.toNat x).length=W.cpus.length:=List.length_set;have hg:∀d:Int,0<=d->gi (W.cpus.set c.toNat x) d=if c=d then x else gi W.cpus d:=fun d d0=>Qt _ _ c0 c1 d0
 refine ⟨h.a.cp hl hu,fun t a b n => ?_,h.tv,fun k d u a b => ?_,fun d a b => ?_⟩
 ·show _/\_/\_<(((W.cpus.set c.toNat x).length:Nat):Int);rw [hl];exact h.t t a b n
 ·have b:d<(((W.cpus.set c.toNat x).length:Nat):Int):=b;rw [hl] at b;exact h.s k d u a b
 ·have b:d<(((W.cpus.set c.toNat x).length:Nat):Int):=b;rw [hl] at b;show _<=(gi (W.cpus.set c.toNat x) d).cur/\(gi (W.cpus.set c.toNat x) d).cur<12;rw [hg _ a];split
  ·exact ⟨h1,h2⟩
  ·exact h.cu d a b
noncomputable def Ue (W:Q7) (c:Int) (up:Bool) (last:Int):Int:=if YK W c=false then 1 else if (gi W.cpus c).up≠up then 6 else if last≠0 then last else if QB W=false then 10 else 0
theorem AK {W:Q7} {c:Int} {up:Bool} {last:Int} (h:Ue W c up last=0):YK W c=true/\(gi W.cpus c).up=up/\last=0/\QB W=true:=by
 unfold Ue at h
 split at h
 ·cases h
 ·rename_i h1
  split at h
  ·cases h
  ·rename_i h2
   split at h
   ·rename_i h3; exact absurd h h3
   ·rename_i h3
    split at h
    ·cases h
    ·rename_i h4;exact ⟨by simpa using h1,by simpa using h2,by omega,by simpa using h4⟩
theorem M8 {W:Q7} {c:Int} {up:Bool} {last:Int} (h1:YK W c=true) (h2:(gi W.cpus c).up=up) (h3:last=0):Ue W c up last=if QB W=false then 10 else 0:=by
 unfold Ue;rw [if_neg (by rw [h1]; decide),if_neg (by simpa using h2),if_neg (by simpa using h3)]
def Ph (x:TQ) (b:Bool):TQ:={ x with up:=b }
def zpk (W:Q7) (c:Int):Q7:=Qg (MC (setCp W c (Ph (gi W.cpus c) true)))
def MA (W:Q7):Int:=if Kn (Jo W.cpus) 4=1 then 5 else 0
def zlw (W:Q7) (c:Int):Q7:=Qg (MC (endW (setCp W c (Ph (gi W.cpus c) false)) c))
theorem zmx {W:Q7} {c:Int} (hW:QG W=true) (hb:Ue W c false 0=0):0<=c/\c<(W.cpus.length:Int)/\SF Ql (Ql+Qj) W/\SF Ql (Ql+Qj) (setCp W c (Ph (gi W.cpus c) true)):=by
 obtain ⟨h1,h2,_,h4⟩:=AK hb;have wp:=Qn.1 hW;have sw:=TI wp (Qn.1 h4);obtain ⟨c0,c1⟩:=Vj h1;have hcu:=sw.cu c c0 c1;have hl:(W.cpus.set c.toNat (Ph (gi W.cpus c) true)).length=W.cpus.length:=List.length_set;have hc2:=wp.a.c2;exact ⟨c0,c1,OL sw,OL (sw.setCp c0 c1 (x:=Ph (gi W.cpus c) true) (Hl (by omega) c0 (by omega) (by rw [Qt _ _ c0 c1 c0,if_pos rfl]; rfl)) hcu.1 hcu.2)⟩
theorem zi5 {W:Q7} {c:Int} (hW:QG W=true) (hb:Ue W c true (MA W)=0):0<=c/\c<(W.cpus.length:Int)/\SF Ql (Ql+Qj) W/\SF Ql (Ql+Qj) (setCp W c (Ph (gi W.cpus c) false)):=by
 obtain ⟨h1,h2,h3,h4⟩:=AK hb;have wp:=Qn.1 hW;have sw:=TI wp (Qn.1 h4);obtain ⟨c0,c1⟩:=Vj h1;have hcu:=sw.cu c c0 c1;have hl:(W.cpus.set c.toNat (Ph (gi W.cpus c) false)).length=W.cpus.length:=List.length_set;have hc2:=wp.a.c2;have hn:Kn (Jo W.cpus) 4≠1:=fun e=>by unfold MA at h3; rw [if_pos e] at h3; cases h3
 obtain ⟨j,j0,j1,jc,hj⟩:=zgz hc2 c0 c1 h2 hn;exact ⟨c0,c1,OL sw,OL (sw.setCp c0 c1 (x:=Ph (gi W.cpus c) false) (Hl (by omega) j0 (by omega) (by rw [Qt _ _ c0 c1 j0,if_neg fun e=>jc e.symm]; exact hj)) hcu.1 hcu.2)⟩
theorem Ea (W:Q7) (c:Int) (x:TQ) (m:MW):Qa (setCp W c x) m=Qa W m:=by simp [Qa,setCp]
section
variable {W W':Q7} {m:MW} {w:World}
theorem Cb {c:Int} (h:Xo [] w W m) (hl:X4 W) :
  Cz O8 #[.agg (Qa W m).toArray,.int .i64 c] w fun e w'=>∃v,e = .returned v/\Qy (YZ W (Ue W c false 0) (zpk W c)) w v w':=by
 refine AS W.now m.cO W.cpus.length m.cC m.tO W.tasks.length m.tC m.gO W.groups.length m.gC c (R:=fun v w'=>Qy (YZ W (Ue W c false 0) (zpk W c)) w v w') ?_;intro y hy y1 hy1 wr hx2 hs2;have hm9:=Zp;have hlc:=hl.c;refine Calls.mono (QW (h.ext hx2) hl) ?_;rintro e wv (⟨hW,he,hy2⟩ | ⟨hW,m',he,hM,hy2⟩)
 ·exact ⟨_,_,_,_,_,_,_,_,_,_,_,he,Qf hy2 hs2,fun g=>by simp at g,true,fun g=>by simp at g,fun _ wr1 hx3=>Qy.bad hW ((hx2.trans hy2).fresh hx3 fun z hm=>.inl (Yd hy hy1 z hm)),fun g=>by simp at g⟩
 have hK:=Wk.begin hy hy1 hx2 hs2 hM hy2;have hr:=hK.rd;have wp:=Qn.1 hW;have hm0:=Je;refine ⟨_,_,_,_,_,_,_,_,_,_,_,he,Qf hy2 hs2,fun _=>⟨by omega,by omega⟩,YK W c,fun _=>Qi,fun g wr1 hx3 => ?_,fun g => ?_⟩
 ·have g:YK W c=false:=by
   cases hc:YK W c with
   | false=>rfl
   | true=>rw [hc] at g; split at g <;> simp at g
  have hb:Ue W c false 0=1:=by unfold Ue; rw [if_pos g]
  exact Qy.no hW (by rw [hb]; decide) (hK.step hx3) hb
 have g:YK W c=true:=by
  cases hc:YK W c with
  | true=>rfl
  | false=>rw [hc] at g; simp at g
 obtain ⟨c0,c1⟩:=Vj g;refine ⟨hr.c.ix ZZ c0 c1,_,hr.c.f c0 c1 (j:=0) rfl,fun g2 wr2 hx3 => ?_,fun g2=>⟨fun g3 wr3 hx3 => ?_,fun g3 => ?_⟩⟩
 ·have hb:Ue W c false 0=6:=by unfold Ue; rw [if_neg (by rw [g]; decide),if_pos (by rw [g2]; decide)]
  exact Qy.no hW (by rw [hb]; decide) (hK.step hx3) hb
 ·have hr0:¬QB W=true:=fun hr=>by rw [if_pos hr] at g3; simp at g3
  have hb:Ue W c false 0=10:=by rw [M8 g g2 rfl,if_pos (by simpa using hr0)]
  rw [if_neg hr0];exact Qy.no hW (by rw [hb]; decide) (hK.step hx3) hb
 have hr0:QB W=true:=Decidable.byContradiction fun hr=>by rw [if_neg hr] at g3; simp at g3
 have hb:Ue W c false 0=0:=by rw [M8 g g2 rfl,if_neg (by rw [hr0]; decide)]
 obtain ⟨_,_,_,sf⟩:=zmx hW hb;have hset:Wk 8 [y,y1] w (sto wv m'.cO (Int.toNat c*5+0) [.bool true]) (setCp W c (Ph (gi W.cpus c) true)) m':=hK.sto (hK.own.stoC c0 c1 (j:=0) (vs:=[.bool true]) (x:=Ph (gi W.cpus c) true) rfl (by simp)) Ny;refine ⟨hr.c.ix ZZ c0 c1,zg4 hK.own hK.nb c0 c1 (by decide),fun wr4 hx4 hs4 => ?_⟩;have e5:Qa (setCp W c (Ph (gi W.cpus c) true)) m'=Qa W m':=Ea _ _ _ _;have hE:zpk W c=Qg (MC (setCp W c (Ph (gi W.cpus c) true))):=rfl;rw [hE];generalize setCp W c (Ph (gi W.cpus c) true)=V at hset sf e5;have hK4:=hset.step hx4;have hcall:=Xt hK4.own sf (Int.le_refl _) (by simp only [Qj]; decide);rw [e5] at hcall;refine Calls.mono hcall ?_;rintro e1 wv1 ⟨he1,hy3⟩;refine ⟨_,_,_,_,_,_,_,_,_,_,he1,hK4.kept hy3 hs4,fun wr5 hx5 hs5 => ?_⟩;have hK5:=(hK4.deed hy3 hs4).step hx5;have hcall2:=Qm hK5.own (Mk sf (Int.le_refl _)).1.w (by simp only [Qj]; decide) (by simp only [Qj]; decide) hK5.base;rw [Lg sf (Int.le_refl _),e5] at hcall2;refine Calls.mono hcall2 ?_;rintro e2 wv2 ⟨m2,he2,hy4⟩;exact ⟨_,_,_,_,_,_,_,_,_,_,he2,hK5.kept hy4 hs5,fun wr6 hx6=>Qy.ok hW hb ((hK5.deed hy4 hs5).step hx6)⟩
theorem N2 {c:Int} (h:Xo [] w W m) (hl:X4 W) :
  Cz Ti #[.agg (Qa W m).toArray,.int .i64 c] w fun e w'=>∃v,e = .returned v/\Qy (YZ W (Ue W c true (MA W)) (zlw W c)) w v w':=by
 refine BV W.now m.cO W.cpus.length m.cC m.tO W.tasks.length m.tC m.gO W.groups.length m.gC c (R:=fun v w'=>Qy (YZ W (Ue W c true (MA W)) (zlw W c)) w v w') ?_;intro y hy y1 hy1 wr hx2 hs2;have hm0:=Je;have hlc:=hl.c;refine Calls.mono (QW (h.ext hx2) hl) ?_;rintro e wv (⟨hW,he,hy2⟩ | ⟨hW,m',he,hM,hy2⟩)
 ·exact ⟨_,_,_,_,_,_,_,_,_,_,_,he,Qf hy2 hs2,fun g=>by simp at g,true,fun g=>by simp at g,fun _ wr1 hx3=>Qy.bad hW ((hx2.trans hy2).fresh hx3 fun z hm=>.inl (Yd hy hy1 z hm)),fun g=>by simp at g⟩
 have hK:=Wk.begin hy hy1 hx2 hs2 hM hy2;have hr:=hK.rd;have wp:=Qn.1 hW;refine ⟨_,_,_,_,_,_,_,_,_,_,_,he,Qf hy2 hs2,fun _=>⟨by omega,by omega⟩,YK W c,fun _=>Qi,fun g wr1 hx3 => ?_,fun g => ?_⟩
 ·have g:YK W c=false:=by
   cases hc:YK W c with
   | false=>rfl
   | true=>rw [hc] at g; split at g <;> simp at g
  have hb:Ue W c true (MA W)=1:=by unfold Ue; rw [if_pos g]
  exact Qy.no hW (by rw [hb]; decide) (hK.step hx3) hb
 have g:YK W c=true:=by
  cases hc:YK W c with
  | true=>rfl
  | false=>rw [hc] at g; simp at g
 obtain ⟨c0,c1⟩:=Vj g;refine ⟨hr.c.ix ZZ c0 c1,_,hr.c.f c0 c1 (j:=0) rfl,fun g2 wr2 hx3 => ?_,fun g2=>⟨_,OY hr wp.a.c2,_,GA,fun g3 wr3 hx3 => ?_,fun g3=>⟨fun g4 wr4 hx3 => ?_,fun g4 => ?_⟩⟩⟩
 ·have g2:(gi W.cpus c).up=false:=by simpa using g2
  have hb:Ue W c true (MA W)=6:=by unfold Ue; rw [if_neg (by rw [g]; decide),if_pos (by rw [g2]; decide)]
  exact Qy.no hW (by rw [hb]; decide) (hK.step hx3) hb
 ·have g2:(gi W.cpus c).up=true:=by simpa using g2
  have hL:MA W=5:=by unfold MA; rw [if_pos (by simpa using g3)]
  have hb:Ue W c true (MA W)=5:=by unfold Ue; rw [if_neg (by rw [g]; decide),if_neg (by rw [g2]; decide),hL,if_pos (by decide)]
  exact Qy.no hW (by rw [hb]; decide) (hK.step hx3) hb
 ·have g2:(gi W.cpus c).up=true:=by simpa using g2
  have hL:MA W=0:=by unfold MA; rw [if_neg (by simpa using g3)]
  have hr0:¬QB W=true:=fun hr=>by rw [if_pos hr] at g4; simp at g4
  have hb:Ue W c true (MA W)=10:=by rw [M8 g g2 hL,if_pos (by simpa using hr0)]
  rw [if_neg hr0];exact Qy.no hW (by rw [hb]; decide) (hK.step hx3) hb
 have g2:(gi W.cpus c).up=true:=by simpa using g2
 have hL:MA W=0:=by unfold MA; rw [if_neg (by simpa using g3)]
 have hr0:QB W=true:=Decidable.byContradiction fun hr=>by rw [if_neg hr] at g4; simp at g4
 have hb:Ue W c true (MA W)=0:=by rw [M8 g g2 hL,if_neg (by rw [hr0]; decide)]
 obtain ⟨_,_,_,sf⟩:=zi5 hW hb;have hset:Wk 8 [y,y1] w (sto wv m'.cO (Int.toNat c*5+0) [.bool false]) (setCp W c (Ph (gi W.cpus c) false)) m':=hK.sto (hK.own.stoC c0 c1 (j:=0) (vs:=[.bool false]) (x:=Ph (gi W.cpus c) false) rfl (by simp)) Ny;refine ⟨hr.c.ix ZZ c0 c1,zg4 hK.own hK.nb c0 c1 (by decide),fun wr5 hx5 hs5 => ?_⟩;have e5:Qa (setCp W c (Ph (gi W.cpus c) false)) m'=Qa W m':=Ea _ _ _ _;have hlV:(setCp W c (Ph (gi W.cpus c) false)).cpus.length=W.cpus.length:=by simp [setCp]
 have hE:zlw W c=Qg (MC (endW (setCp W c (Ph (gi W.cpus c) false)) c)):=rfl;rw [hE];generalize setCp W c (Ph (gi W.cpus c) false)=V at hset sf e5 hlV;have c1V:c<(V.cpus.length:Int):=by rw [hlV]; exact c1
 have hK4:=hset.step hx5;have hcall0:=Zg hK4.own c0 c1V;rw [e5] at hcall0;refine Calls.mono hcall0 ?_;rintro e0 wv0 ⟨he0,hy0⟩;refine ⟨_,_,_,_,_,_,_,_,_,_,he0,hK4.kept hy0 hs5,fun wr6 hx6 hs6 => ?_⟩;have sfE:=sf.endW c0 c1V;have hK6:=(hK4.deed hy0 hs5).step hx6;generalize endW V c=U at hK6 sfE;have hcall:=Xt hK6.own sfE (Int.le_refl _) (by simp only [Qj]; decide);refine Calls.mono hcall ?_;rintro e1 wv1 ⟨he1,hy3⟩;refine ⟨_,_,_,_,_,_,_,_,_,_,he1,hK6.kept hy3 hs6,fun wr7 hx7 hs7 => ?_⟩;have hK7:=(hK6.deed hy3 hs6).step hx7;have hcall2:=Qm hK7.own (Mk sfE (Int.le_refl _)).1.w (by simp only [Qj]; decide) (by simp only [Qj]; decide) hK7.base;rw [Lg sfE (Int.le_refl _)] at hcall2;refine Calls.mono hcall2 ?_;rintro e2 wv2 ⟨m2,he2,hy4⟩;exact ⟨_,_,_,_,_,_,_,_,_,_,he2,hK7.kept hy4 hs7,fun wr8 hx8=>Qy.ok hW hb ((hK7.deed hy4 hs7).step hx8)⟩
end
noncomputable def ON (W:Q7) (t:Int):Int:=if ZG W t=false then 2 else if (Q8 W t).state≠2 then 6 else if QB W=false then 10 else 0
def TM (W:Q7) (t:Int):Int:=if zax W (Q8 W t).cpu>0 then TP W (Qq W (Q8 W t).group (Q8 W t).mask) else (Q8 W t).cpu
def UD (W:Q7) (t c:Int):Oi:={ Oh W t (Q8 W t).group c with state:=1 }
def Bc (W:Q7) (t:Int):Q7:=Qg (endW (setTk W t (UD W t (TM W t))) (TM W t))
theorem U8 (W:Q7) (t:Int) (x:Oi):(setTk W t x).tasks.length=W.tasks.length:=by simp [setTk]
theorem zet {W:Q7} {t:Int} (h:(Q8 W t).state=2) (c:Int):JZ W t (Q8 W t).group c=setTk W t (Oh W t (Q8 W t).group c):=by
 unfold JZ;rw [if_neg (by rw [h]; decide)]
theorem CN {W:Q7} {t c:Int} (sf:SF Ql (Ql+Qj) W) (t0:0<=t) (t1:t<(W.tasks.length:Int)) (n:(Q8 W t).state≠0) (c0:0<=c) (c1:c<(W.cpus.length:Int)):SF Ql (Ql+Qj) (setTk W t (UD W t c)):=by
 have hl:=sf.w.a.t;have hu:=(sf.w.t t t0 (by omega) n).1;have hv:=zes sf (Int.le_refl _) (t:=t) hu c0 c1;exact sf.setTk t0 (by omega) (x:=UD W t c) (fun _=>⟨hu,c0,c1⟩) hv.1 hv.2
theorem ze9 {W:Q7} {t:Int} (hW:QG W=true) (hb:ON W t=0):ZG W t=true/\(Q8 W t).state=2/\QB W=true/\SF Ql (Ql+Qj) W/\0<=TM W t/\TM W t<(W.cpus.length:Int):=by
 have wp:=Qn.1 hW;unfold ON at hb
 split at hb
 ·cases hb
 ·rename_i h1
  split at hb
  ·cases hb
  ·rename_i h2
   split at hb
   ·cases hb
   ·rename_i h3;have h1:ZG W t=true:=by simpa using h1
    have h2:(Q8 W t).state=2:=by simpa using h2
    have h3:QB W=true:=by simpa using h3
    have sw:=TI wp (Qn.1 h3);obtain ⟨t0,t1,n⟩:=Yl h1;have hl:=wp.a.t;have hc:=sw.t t t0 (by omega) n;refine ⟨h1,h2,h3,OL sw,?_⟩;unfold TM;split
    ·have:=Mj wp.a (Q8 W t).group (Q8 W t).mask;exact ⟨this.1,this.2.1⟩
    ·exact hc.2
section
variable {base pb:Nat} {W W':Q7} {m:MW} {w:World}
set_option maxHeartbeats 1000000 in
theorem DD {t:Int} (h:Xo [] w W m) (hl:X4 W) :
  Cz UV #[.agg (Qa W m).toArray,.int .i64 t] w fun e w'=>∃v,e = .returned v/\Qy (YZ W (ON W t) (Bc W t)) w v w':=by
 refine Dh W.now m.cO W.cpus.length m.cC m.tO W.tasks.length m.tC m.gO W.groups.length m.gC t (R:=fun v w'=>Qy (YZ W (ON W t) (Bc W t)) w v w') ?_;intro y hy y1 hy1 wr hx2 hs2;refine Calls.mono (QW (h.ext hx2) hl) ?_;rintro e wv (⟨hW,he,hy2⟩ | ⟨hW,m',he,hM,hy2⟩)
 ·exact ⟨_,_,_,_,_,_,_,_,_,_,_,he,Qf hy2 hs2,fun _ wr1 hx3=>Qy.bad hW ((hx2.trans hy2).fresh hx3 fun z hm=>.inl (Yd hy hy1 z hm)),fun g=>by simp at g⟩
 have hK:=Wk.begin hy hy1 hx2 hs2 hM hy2;have hr:=hK.rd;have wp:=Qn.1 hW;refine ⟨_,_,_,_,_,_,_,_,_,_,_,he,Qf hy2 hs2,fun g=>by split at g <;> simp at g,fun _=>⟨_,XC hr hl.t,fun g wr2 hx3 => ?_,fun g => ?_⟩⟩
 ·have g:ZG W t=false:=by simpa using g
  have hb:ON W t=2:=by unfold ON; rw [if_pos g]
  exact Qy.no hW (by rw [hb]; decide) (hK.step hx3) hb
 have g:ZG W t=true:=by simpa using g
 obtain ⟨t0,t1,tn⟩:=Yl g;have htl:=wp.a.t;have hix:=hr.t.ix QJ t0 t1;refine ⟨hix,_,hr.t.f t0 t1 (j:=0) rfl,fun g2 wr3 hx3 => ?_,fun g2=>⟨fun g3 wr4 hx3 => ?_,fun g3 => ?_⟩⟩
 ·have g2:(Q8 W t).state≠2:=by simpa [Q8] using g2
  have hb:ON W t=6:=by unfold ON; rw [if_neg (by rw [g]; decide),if_pos g2]
  exact Qy.no hW (by rw [hb]; decide) (hK.step hx3) hb
 ·have g2:¬(Q8 W t).state≠2:=by simpa [Q8] using g2
  have hr0:¬QB W=true:=fun hr=>by rw [if_pos hr] at g3; simp at g3
  have hb:ON W t=10:=by unfold ON; rw [if_neg (by rw [g]; decide),if_neg g2,if_pos (by simpa using hr0)]
  rw [if_neg hr0];exact Qy.no hW (by rw [hb]; decide) (hK.step hx3) hb
 have g2:¬(Q8 W t).state≠2:=by simpa [Q8] using g2
 have hr0:QB W=true:=Decidable.byContradiction fun hr=>by rw [if_neg hr] at g3; simp at g3
 have hb:ON W t=0:=by unfold ON; rw [if_neg (by rw [g]; decide),if_neg g2,if_neg (by rw [hr0]; decide)]
 have hs2':(Q8 W t).state=2:=by simpa using g2
 obtain ⟨_,_,_,sf,_,_⟩:=ze9 hW hb;obtain ⟨hu,c0,c1⟩:=sf.w.t t t0 (by omega) tn;refine ⟨hix,_,hr.t.f t0 t1 (j:=2) rfl,_,VP hr htl,fun g4 => ?_,fun g4 => ?_⟩
 ·have g4:zax W (Q8 W t).cpu>0:=of_decide_eq_true g4;have hC:TM W t=TP W (Qq W (Q8 W t).group (Q8 W t).mask):=if_pos g4;obtain ⟨d0,d1,_⟩:=Mj wp.a (Q8 W t).group (Q8 W t).mask;refine ⟨hix,_,hr.t.f t0 t1 (j:=1) rfl,hix,_,hr.t.f t0 t1 (j:=4) rfl,_,X9 hr wp.a.c2 wp.a.tree hu,_,P9 hr wp.a (zin wp),hix,_,hr.t.f t0 t1 (j:=1) rfl,fun wr5 hx5 hs5 => ?_⟩;have hM4:=hK.step hx5;have hcall:=Jv hM4.own sf (Int.le_refl _) (by simp only [Qj]; decide) (t:=t) (g:=(Q8 W t).group) (c:=TP W (Qq W (Q8 W t).group (Q8 W t).mask)) t0 (by omega) tn hu d0 d1;refine Calls.mono hcall ?_;rintro e1 wv1 ⟨he1,hy3⟩;rw [zet hs2' (TP W (Qq W (Q8 W t).group (Q8 W t).mask))] at hy3;have hK5:=hM4.deed hy3 hs5
  have hset:Wk 8 [y,y1] w (sto wv1 m'.tO (Int.toNat t*9+0) [.int .i64 1]) (setTk W t (UD W t (TP W (Qq W (Q8 W t).group (Q8 W t).mask)))) m':=by
   have:Wk 8 [y,y1] w (sto wv1 m'.tO (Int.toNat t*9+0) [.int .i64 1]) (setTk (setTk W t (Oh W t (Q8 W t).group (TP W (Qq W (Q8 W t).group (Q8 W t).mask)))) t (UD W t (TP W (Qq W (Q8 W t).group (Q8 W t).mask)))) m':=hK5.sto (hK5.own.stoT t0 (by rw [U8]; exact t1) (j:=0) (vs:=[.int .i64 1]) (x:=UD W t (TP W (Qq W (Q8 W t).group (Q8 W t).mask))) (by rw [show gi (setTk W t (Oh W t (Q8 W t).group (TP W (Qq W (Q8 W t).group (Q8 W t).mask)))).tasks t=_ from Hi t0 t1]; rfl) (by simp)) MD
   rwa [set_set] at this
  have hixT:Ix m'.tO W.tasks.length t:=by
   have:=hK5.rd.t.ix QJ t0 (by rw [U8]; exact t1)
   rwa [U8] at this
  refine ⟨_,_,_,_,_,_,_,_,_,_,he1,hM4.kept hy3 hs5,hixT,CS hK5.own hK5.nb t0 (by rw [U8]; exact t1) (j:=0) (by decide),fun wr6 hx6 hs6 => ?_⟩;have e5:Qa (setTk W t (UD W t (TP W (Qq W (Q8 W t).group (Q8 W t).mask)))) m'=Qa W m':=Lh _ _ _ _;have hE:Bc W t=Qg (endW (setTk W t (UD W t (TP W (Qq W (Q8 W t).group (Q8 W t).mask)))) (TP W (Qq W (Q8 W t).group (Q8 W t).mask))):=by unfold Bc; rw [hC]
  have sfV:=CN sf t0 t1 tn d0 d1;rw [hE];have hlV:(setTk W t (UD W t (TP W (Qq W (Q8 W t).group (Q8 W t).mask)))).cpus.length=W.cpus.length:=rfl;generalize setTk W t (UD W t (TP W (Qq W (Q8 W t).group (Q8 W t).mask)))=V at hset e5 sfV hlV;have hK6:=hset.step hx6;have hcall2:=Zg hK6.own d0 (by rw [hlV]; exact d1);rw [e5] at hcall2;refine Calls.mono hcall2 ?_;rintro e2 wv2 ⟨he2,hy4⟩;refine ⟨_,_,_,_,_,_,_,_,_,_,he2,hK6.kept hy4 hs6,fun wr7 hx7 hs7 => ?_⟩;have hK7:=(hK6.deed hy4 hs6).step hx7;have hcall3:=Qm hK7.own (sfV.endW d0 (by rw [hlV]; exact d1)).w (by simp only [Qj]; decide) (by simp only [Qj]; decide) hK7.base;refine Calls.mono hcall3 ?_;rintro e3 wv3 ⟨m2,he3,hy5⟩;exact ⟨_,_,_,_,_,_,_,_,_,_,he3,hK7.kept hy5 hs7,fun wr8 hx8=>Qy.ok hW hb ((hK7.deed hy5 hs7).step hx8)⟩
 ·have g4:¬zax W (Q8 W t).cpu>0:=of_decide_eq_false g4;have hC:TM W t=(Q8 W t).cpu:=if_neg g4;have d0:=c0;have d1:=c1;refine ⟨hix,_,hr.t.f t0 t1 (j:=1) rfl,fun wr5 hx5 hs5 => ?_⟩;have hM4:=hK.step hx5;have hcall:=Jv hM4.own sf (Int.le_refl _) (by simp only [Qj]; decide) (t:=t) (g:=(Q8 W t).group) (c:=(Q8 W t).cpu) t0 (by omega) tn hu d0 d1;refine Calls.mono hcall ?_;rintro e1 wv1 ⟨he1,hy3⟩;rw [zet hs2' ((Q8 W t).cpu)] at hy3;have hK5:=hM4.deed hy3 hs5
  have hset:Wk 8 [y,y1] w (sto wv1 m'.tO (Int.toNat t*9+0) [.int .i64 1]) (setTk W t (UD W t ((Q8 W t).cpu))) m':=by
   have:Wk 8 [y,y1] w (sto wv1 m'.tO (Int.toNat t*9+0) [.int .i64 1]) (setTk (setTk W t (Oh W t (Q8 W t).group ((Q8 W t).cpu))) t (UD W t ((Q8 W t).cpu))) m':=hK5.sto (hK5.own.stoT t0 (by rw [U8]; exact t1) (j:=0) (vs:=[.int .i64 1]) (x:=UD W t ((Q8 W t).cpu)) (by rw [show gi (setTk W t (Oh W t (Q8 W t).group ((Q8 W t).cpu))).tasks t=_ from Hi t0 t1]; rfl) (by simp)) MD
   rwa [set_set] at this
  have hixT:Ix m'.tO W.tasks.length t:=by
   have:=hK5.rd.t.ix QJ t0 (by rw [U8]; exact t1)
   rwa [U8] at this
  refine ⟨_,_,_,_,_,_,_,_,_,_,he1,hM4.kept hy3 hs5,hixT,CS hK5.own hK5.nb t0 (by rw [U8]; exact t1) (j:=0) (by decide),fun wr6 hx6 hs6 => ?_⟩;have e5:Qa (setTk W t (UD W t ((Q8 W t).cpu))) m'=Qa W m':=Lh _ _ _ _;have hE:Bc W t=Qg (endW (setTk W t (UD W t ((Q8 W t).cpu))) ((Q8 W t).cpu)):=by unfold Bc; rw [hC]
  have sfV:=CN sf t0 t1 tn d0 d1;rw [hE];have hlV:(setTk W t (UD W t ((Q8 W t).cpu))).cpus.length=W.cpus.length:=rfl;generalize setTk W t (UD W t ((Q8 W t).cpu))=V at hset e5 sfV hlV;have hK6:=hset.step hx6;have hcall2:=Zg hK6.own d0 (by rw [hlV]; exact d1);rw [e5] at hcall2;refine Calls.mono hcall2 ?_;rintro e2 wv2 ⟨he2,hy4⟩;refine ⟨_,_,_,_,_,_,_,_,_,_,he2,hK6.kept hy4 hs6,fun wr7 hx7 hs7 => ?_⟩;have hK7:=(hK6.deed hy4 hs6).step hx7;have hcall3:=Qm hK7.own (sfV.endW d0 (by rw [hlV]; exact d1)).w (by simp only [Qj]; decide) (by simp only [Qj]; decide) hK7.base;refine Calls.mono hcall3 ?_;rintro e3 wv3 ⟨m2,he3,hy5⟩;exact ⟨_,_,_,_,_,_,_,_,_,_,he3,hK7.kept hy5 hs7,fun wr8 hx8=>Qy.ok hW hb ((hK7.deed hy5 hs7).step hx8)⟩
end
theorem Al {a b w:Int} (ha:0<=a) (hb:0<=b) (h:a+b<=100000000) (w1:1<=w) (w2:w<=20):Z4 (a+b) w=Z4 a w+Z4 b w:=by
 rw [TL (by omega) h w1 w2,TL ha (by omega) w1 w2,TL hb (by omega) w1 w2,Int.add_mul]
theorem zf3 {l w:Int} (h0:0<=l) (h1:l<=Zs w):YH l w=l:=by
 unfold YH;rw [if_neg (show ¬Zs w<l by omega)]
 split <;> omega
theorem Oj {p q:Nat->Bool}:∀{n:Nat},(∀j,j<n->p j=q j)->Vs p n=Vs q n
 | 0,_=>rfl
 | n+1,h=>by simp only [Vs]; rw [Oj fun j hj=>h j (by omega),h n (by omega)]
theorem TX {p q:Nat->Bool} {v u:Nat->Int}:∀{n:Nat},(∀j,j<n->p j=q j)->(∀j,j<n->p j=true->v j=u j)->QD p v n=QD q u n
 | 0,_,_=>rfl
 | n+1,h,hv=>by
  have ih:=TX (p:=p) (q:=q) (v:=v) (u:=u) (n:=n) (fun j hj=>h j (by omega)) fun j hj=>hv j (by omega)
  simp only [QD];rw [ih,<-h n (by omega)]
  cases hp:p n with
  | false=>simp
  | true=>
   rw [hv n (by omega) hp];rcases Z7 q u n with ⟨e,_⟩ | ⟨e0,e1,e2,_⟩
   ·rw [e]; simp
   ·rw [hv _ (by omega) (by rw [h _ (by omega)]; exact e2)]
theorem Yc {gs:List Z0} (ht:Z6 gs):∀g:Int,Q6 gs g=true->∀x∈QT gs g,Q6 gs x=true/\x≠0:=
 Jx ht (fun x hx=>by rw [show QT gs 0=[] from Zh _ _] at hx; cases hx) fun h hu hz ih x hx=>by
  rw [YN ht hu hz] at hx;rcases List.mem_cons.1 hx with e | e
  ·subst e; exact ⟨hu,hz⟩
  ·exact ih x e
def U2 (W:Q7) (k c:Int):Prop:=(Qc W (gi W.groups k).parent c).floor<=(Qc W k c).v/\(Qc W k c).v - (Qc W (gi W.groups k).parent c).floor<=Zs (Qc W k c).w
structure KI (W:Q7) (x:Oi):Prop where
 st:x.state=1\/x.state=2
 g:Q6 W.groups x.group=true
 n:Qd x.nice≠0
 m:TZ x.mask=true
 m0:x.mask≠0
 s:XH x.sum=true
 u:XH x.used=true
 l1:0<=x.load
 l2:x.load<=8000000
 f:x.state=1->(Qc W x.group x.cpu).floor<=x.v/\x.v - (Qc W x.group x.cpu).floor<=Zs (Qd x.nice)
structure zbs (W:Q7) (k c:Int):Prop where
 s:XH (Qc W k c).sum=true
 root:k=0->(Qc W k c).on=false/\(Qc W k c).v=0/\(Qc W k c).w=10
 st:k≠0->(Qc W k c).on=true->U2 W k c
structure zm4 (W:Q7) (c:Int):Prop where
 b:XH (gi W.cpus c).busy=true
 i:XH (gi W.cpus c).idle=true
 c1 : -1<=(gi W.cpus c).cur
 c2:(gi W.cpus c).cur<12
 no:(gi W.cpus c).cur<0->(gi W.cpus c).ran=0
 yes:0<=(gi W.cpus c).cur->(gi W.cpus c).up=true/\1<=(gi W.cpus c).ran/\(gi W.cpus c).ran<=149
 q:0<=(gi W.cpus c).cur->(Q8 W (gi W.cpus c).cur).state=1->(Q8 W (gi W.cpus c).cur).cpu=c->
  (Q8 W (gi W.cpus c).cur).v - (Qc W (Q8 W (gi W.cpus c).cur).group c).floor<=Z4 (gi W.cpus c).ran (Qd (Q8 W (gi W.cpus c).cur).nice)/\
  ∀x∈QT W.groups (Q8 W (gi W.cpus c).cur).group,U2 W x c/\(Qc W x c).v - (Qc W (gi W.groups x).parent c).floor<=Z4 (gi W.cpus c).ran (Qc W x c).w
structure PreA (W:Q7):Prop where
 a:WA W
 t:∀t:Int,0<=t->t<12->(Q8 W t).state=0/\Q8 W t=TN\/(Q8 W t).state≠0/\KI W (Q8 W t)
 l:∀t:Int,0<=t->t<12->(Q8 W t).state≠0->0<=(Q8 W t).cpu/\(Q8 W t).cpu<(W.cpus.length:Int)
 s:∀k c:Int,Q6 W.groups k=true->0<=c->c<(W.cpus.length:Int)->zbs W k c
structure UE (W:Q7):Prop extends PreA W where
 c:∀c:Int,0<=c->c<(W.cpus.length:Int)->zm4 W c
def En (W:Q7):Prop:=∀t:Int,0<=t->t<12->(Q8 W t).state≠0->Z5 (Qq W (Q8 W t).group (Q8 W t).mask) (Q8 W t).cpu=true
def zph (W:Q7):Prop:=∀k c:Int,Q6 W.groups k=true->0<=c->c<(W.cpus.length:Int)->Zw W k c 20=true->QZ W k c 20<=(Qc W k c).floor
theorem LM {v f k:Int} (hv:XH v=true) (hf:XH f=true):Hc v f k=true↔f<=v/\v - f<=Zs k:=by
 have h1:=ZR.1 hv;have h2:=ZR.1 hf;have hw:IntKind.i64.wrap (v - f)=v - f:=Qo.wrap (k:=.i64) ⟨by show _<=v - f; omega,by show v - f<=_; omega⟩;unfold Hc;rw [hw];simp
theorem Jm {W:Q7} (wp:XG W):En W:=fun t t0 t1 n=>by
 rcases wp.t t t0 t1 with h | h
 ·exact absurd h.1 n
 ·exact h.2.c
theorem Kw {W:Q7} (wp:XG W) {k c:Int} (hu:Q6 W.groups k=true) (c0:0<=c) (c1:c<(W.cpus.length:Int)):Bl W k c:=by
 obtain ⟨u0,u1,_⟩:=wp.a.u hu;have hl:=wp.a.sl hu;exact wp.s k c u0 u1 c0 (by omega)
theorem YI {W:Q7} (wp:XG W):UE W:=by
 have hst:∀k c:Int,Q6 W.groups k=true->k≠0->0<=c->c<(W.cpus.length:Int)->(Qc W k c).on=true->U2 W k c:=fun k c hu hz c0 c1 ho=>by
  have h1:=Kw wp hu c0 c1;have h2:=Kw wp (wp.a.up hu hz) c0 c1;exact (LM h1.v h2.f).1 (h1.st hz ho)
 refine ⟨⟨wp.a,fun t t0 t1 => ?_,fun t t0 t1 n => ?_,fun k c hu c0 c1 => ?_⟩,fun c c0 c1 => ?_⟩
 ·rcases wp.t t t0 t1 with h | ⟨n,h⟩
  ·exact .inl h
  ·refine .inr ⟨n,h.st,h.g,h.n,h.m,h.m0,h.s,h.u,h.l1,h.l2,fun h1 => ?_⟩;obtain ⟨d0,d1⟩:=K9 wp.a h.c;exact (LM h.v (Kw wp h.g d0 d1).f).1 (h.f h1)
 ·rcases wp.t t t0 t1 with h | ⟨_,h⟩
  ·exact absurd h.1 n
  ·exact K9 wp.a h.c
 ·have h:=Kw wp hu c0 c1;exact ⟨h.s,h.root,fun hz ho=>hst k c hu hz c0 c1 ho⟩
 ·have h:=wp.c c c0 c1;have hl:=wp.a.t;refine ⟨h.b,h.i,h.c1,by have:=h.c2; omega,h.no,fun h0=>⟨(h.yes h0).1,(h.yes h0).2.1,(h.yes h0).2.2.1⟩,fun h0 h1 h2 => ?_⟩;obtain ⟨_,_,_,_,hline,hstay⟩:=h.yes h0;unfold PO at hstay;rw [Bool.and_eq_true,decide_eq_true_eq] at hstay;refine ⟨hstay.1,fun x hx => ?_⟩
  have hu:Q6 W.groups (Q8 W (gi W.cpus c).cur).group=true:=by
   rcases wp.t _ h0 (by have:=h.c2; omega) with hz | ⟨_,hz⟩
   ·rw [hz.1] at h1; cases h1
   ·exact hz.g
  obtain ⟨xu,xz⟩:=Yc wp.a.tree _ hu x hx;unfold ZH TY at hline;rw [Bool.and_eq_true,h2,List.all_eq_true] at hline;have hs:=hstay.2;unfold Pe at hs;rw [List.all_eq_true] at hs;exact ⟨hst x c xu xz c0 c1 (hline.2 x hx),of_decide_eq_true (hs x hx)⟩
structure LZ (c:Int) (W W':Q7):Prop where
 n:W'.now=W.now
 t:W'.tasks=W.tasks
 g:QM W.groups W'.groups
 len:W'.cpus.length=W.cpus.length
 b:∀i:Int,0<=i->(gi W'.groups i).band=(gi W.groups i).band
 e:∀k d:Int,0<=k->0<=d->d≠c->Qc W' k d=Qc W k d
 cp:∀d:Int,0<=d->d≠c->gi W'.cpus d=gi W.cpus d
theorem LZ.refl (c:Int) (W:Q7):LZ c W W:=⟨rfl,rfl,QM.refl _,rfl,fun _ _=>rfl,fun _ _ _ _ _=>rfl,fun _ _ _=>rfl⟩
theorem LZ.trans {c:Int} {A B C:Q7} (h:LZ c A B) (k:LZ c B C):LZ c A C:=⟨k.n.trans h.n,k.t.trans h.t,h.g.trans k.g,k.len.trans h.len,fun i hi=>(k.b i hi).trans (h.b i hi),fun i d hi hd hn=>(k.e i d hi hd hn).trans (h.e i d hi hd hn),fun d hd hn=>(k.cp d hd hn).trans (h.cp d hd hn)⟩
theorem GS {W:Q7} {g c:Int} {s:Pi} (h0:0<=g) (h1:g<(W.groups.length:Int)) (c0:0<=c) (c1:c<((gi W.groups g).shelves.length:Int)):LZ c W (setSh W g c s):=
 ⟨rfl,rfl,YX h0 h1,rfl,fun i hi=>ND h0 h1 hi,fun k d hk hd hn=>by
  rw [XE h0 h1 c0 c1 hk hd,if_neg fun h=>hn h.2.symm],fun _ _ _=>rfl⟩
theorem zan {W:Q7} {c:Int} (c0:0<=c) (c1:c<(W.cpus.length:Int)):LZ c W (endW W c):=
 ⟨rfl,rfl,QM.refl _,List.length_set,fun _ _=>rfl,fun _ _ _ _ _=>rfl,fun d d0 hn=>by
  show gi (W.cpus.set c.toNat (X0 (gi W.cpus c))) d=_;rw [Qt _ _ c0 c1 d0,if_neg fun h=>hn h.symm]⟩
section
variable {c d:Int} {W W':Q7}
theorem Vr (ht:W'.tasks=W.tasks) (hT:QM W.groups W'.groups) {g:Int} (h:∀j:Nat,j<W.groups.length->1<=j->(gi W.groups (j:Int)).used=true->(gi W.groups (j:Int)).parent=g->(Qc W' (j:Int) d).on=(Qc W (j:Int) d).on):QU W' g d=QU W g d:=by
 unfold QU;rw [ht,hT.len]
 congr 1
 ·refine Oj fun j _ => ?_
  unfold O5;rw [ht]
 ·refine Oj fun j hj => ?_
  unfold J6;rw [hT.u,hT.p]
  by_cases h1:1<=j
  ·cases hu:(gi W.groups (j:Int)).used with
   | false=>simp
   | true=>
    by_cases hp:(gi W.groups (j:Int)).parent=g
    ·rw [h j hj h1 hu hp]
    ·rw [show ((gi W.groups (j:Int)).parent==g)=false from beq_false_of_ne hp]; simp
  ·simp [h1]
theorem zf9 (ht:W'.tasks=W.tasks) (hT:QM W.groups W'.groups) (hl:W.groups.length=8) (h:∀k:Int,0<=k->(Qc W' k d).on=(Qc W k d).on) (g:Int) {j:Nat} (hj:j<20):Z9 W' g d j=Z9 W g d j:=by
 unfold Z9;split
 ·unfold O5; rw [ht]
 ·unfold J6;rw [hT.u,hT.p,h _ (by omega)]
theorem NR (ht:W'.tasks=W.tasks) (h:∀k:Int,0<=k->(Qc W' k d).v=(Qc W k d).v) (j:Nat):Za W' d j=Za W d j:=by
 unfold Za;split
 ·unfold Q8; rw [ht]
 ·rw [h _ (by omega)]
theorem Gj (ht:W'.tasks=W.tasks) (hT:QM W.groups W'.groups) (hl:W.groups.length=8) (h:∀k:Int,0<=k->(Qc W' k d).on=(Qc W k d).on) (hv:∀k:Int,0<=k->(Qc W' k d).v=(Qc W k d).v) (g:Int):Zw W' g d 20=Zw W g d 20/\QZ W' g d 20=QZ W g d 20:=by
 have e:QD (Z9 W' g d) (Za W' d) 20=QD (Z9 W g d) (Za W d) 20:=TX (fun j hj=>zf9 ht hT hl h g hj) fun j _ _=>NR ht hv j
 unfold Zw QZ;rw [e];refine ⟨rfl,?_⟩;split
 ·rfl
 ·exact NR ht hv _
theorem Xf (ht:W'.tasks=W.tasks) (t:Int):Q8 W' t=Q8 W t:=by unfold Q8; rw [ht]
theorem Uy (hT:QM W.groups W'.groups) (g:Int):QT W'.groups g=QT W.groups g:=hT.path 3 g
theorem AO {g:Int} (hb:(gi W'.groups g).band=(gi W.groups g).band):Uf W' g d=Uf W g d:=by unfold Uf; rw [hb]
end
theorem zdq {W:Q7} {g c:Int} {j:Nat} (hj:j<20) (h:Z9 W g c j=true):Zw W g c 20=true/\QZ W g c 20<=Za W c j:=by
 unfold Zw QZ;rcases Z7 (Z9 W g c) (Za W c) 20 with ⟨_,h2⟩ | ⟨h1,_,_,h4,_⟩
 ·rw [h2 j hj] at h; cases h
 ·rw [if_neg (by omega)];exact ⟨decide_eq_true h1,h4 j hj h⟩
theorem zff {W:Q7} (ha:WA W) {t:Int} (t0:0<=t) (t1:t<12) (hs:(Q8 W t).state=1):Zw W (Q8 W t).group (Q8 W t).cpu 20=true/\QZ W (Q8 W t).group (Q8 W t).cpu 20<=(Q8 W t).v:=by
 have e:((t.toNat:Nat):Int)=t:=by omega
 have h:Z9 W (Q8 W t).group (Q8 W t).cpu t.toNat=true:=by
  rw [Uw (by omega)];unfold O5;rw [e];show (((Q8 W t).state==1)&&((Q8 W t).group==_)&&((Q8 W t).cpu==_))=true;rw [hs]; simp
 have:=zdq (by omega) h
 rwa [GL (by omega),e] at this
theorem zbu {W:Q7} (ha:WA W) {k c:Int} (hu:Q6 W.groups k=true) (hz:k≠0) (ho:(Qc W k c).on=true):Zw W (gi W.groups k).parent c 20=true/\QZ W (gi W.groups k).parent c 20<=(Qc W k c).v:=by
 obtain ⟨k0,k1,ku⟩:=Q4.1 hu;have hl:=ha.gl;have e:((k.toNat:Nat):Int)=k:=by omega
 have h:Z9 W (gi W.groups k).parent c (12+k.toNat)=true:=by
  rw [J0];unfold J6;rw [e,ku,ho];simp;omega
 have:=zdq (by omega) h
 rwa [GK,e] at this
structure LC (c:Int) (W W':Q7):Prop where
 o:LZ c W W'
 cs:W'.cpus=W.cpus
 f:∀k d:Int,0<=k->0<=d->(Qc W' k d).floor=(Qc W k d).floor
 w:∀k d:Int,0<=k->0<=d->(Qc W' k d).w=(Qc W k d).w
 s:∀k d:Int,0<=k->0<=d->(Qc W' k d).sum=(Qc W k d).sum
 r:∀d:Int,0<=d->Qc W' 0 d=Qc W 0 d
 v:∀k d:Int,Q6 W.groups k=true->k≠0->0<=d->U2 W k d->(Qc W' k d).v=(Qc W k d).v
theorem LC.refl (c:Int) (W:Q7):LC c W W:=⟨LZ.refl _ _,rfl,fun _ _ _ _=>rfl,fun _ _ _ _=>rfl,fun _ _ _ _=>rfl,fun _ _=>rfl,fun _ _ _ _ _ _=>rfl⟩
theorem LC.st {c:Int} {W W':Q7} (ht:Z6 W.groups) (h:LC c W W') {k d:Int} (hu:Q6 W.groups k=true) (hz:k≠0) (d0:0<=d) (hs:U2 W k d):U2 W' k d:=by
 have hp:=(Q4.1 (Zl ht hu hz).1).1;have k0:=(Q4.1 hu).1;unfold U2;rw [h.o.g.p,h.f _ d hp d0,h.v k d hu hz d0 hs,h.w k d k0 d0];exact hs
theorem LC.trans {c:Int} {A B C:Q7} (ht:Z6 A.groups) (h:LC c A B) (k:LC c B C):LC c A C:=
 ⟨h.o.trans k.o,k.cs.trans h.cs,fun i d a b=>(k.f i d a b).trans (h.f i d a b),fun i d a b=>(k.w i d a b).trans (h.w i d a b),fun i d a b=>(k.s i d a b).trans (h.s i d a b),fun d a=>(k.r d a).trans (h.r d a),fun i d hu hz d0 hs=>by
  rw [k.v i d (by rw [h.o.g.usd]; exact hu) hz d0 (h.st ht hu hz d0 hs),h.v i d hu hz d0 hs]⟩
theorem UE.lc {c:Int} {W W':Q7} (p:UE W) (h:LC c W W') (ha:WA W') (hon:∀k d:Int,Q6 W.groups k=true->k≠0->0<=d->d<(W.cpus.length:Int)->(Qc W' k d).on=true->U2 W' k d):UE W':=by
 have et:∀t,Q8 W' t=Q8 W t:=Xf h.o.t;refine ⟨⟨ha,fun t t0 t1 => ?_,fun t t0 t1 n => ?_,fun k d hu d0 d1 => ?_⟩,fun d d0 d1 => ?_⟩
 ·rw [et];rcases p.t t t0 t1 with hz | ⟨n,hx⟩
  ·exact .inl hz
  ·refine .inr ⟨n,hx.st,by rw [h.o.g.usd]; exact hx.g,hx.n,hx.m,hx.m0,hx.s,hx.u,hx.l1,hx.l2,fun h1 => ?_⟩;rw [h.f _ _ (Q4.1 hx.g).1 (p.l t t0 t1 n).1];exact hx.f h1
 ·rw [et] at n ⊢;rw [h.o.len];exact p.l t t0 t1 n
 ·rw [h.o.g.usd] at hu;rw [h.cs] at d1;have hs:=p.s k d hu d0 d1;have k0:=(Q4.1 hu).1;refine ⟨by rw [h.s k d k0 d0]; exact hs.s,fun hz => ?_,fun hz ho=>hon k d hu hz d0 d1 ho⟩;subst hz;rw [h.r d d0];exact hs.root rfl
 ·rw [h.cs] at d1;have hc:=p.c d d0 d1;refine ⟨by rw [h.cs]; exact hc.b,by rw [h.cs]; exact hc.i,by rw [h.cs]; exact hc.c1,by rw [h.cs]; exact hc.c2,by rw [h.cs]; exact hc.no,by rw [h.cs]; exact hc.yes,?_⟩;rw [h.cs];simp only [et];intro h0 h1 h2;obtain ⟨q1,q2⟩:=hc.q h0 h1 h2
  have hu:Q6 W.groups (Q8 W (gi W.cpus d).cur).group=true:=by
   rcases p.t _ h0 hc.c2 with hz | ⟨_,hx⟩
   ·rw [hz.1] at h1; cases h1
   ·exact hx.g
  refine ⟨by rw [h.f _ d (Q4.1 hu).1 d0]; exact q1,fun x hx => ?_⟩;rw [Uy h.o.g] at hx;obtain ⟨xu,xz⟩:=Yc p.a.tree _ hu x hx;obtain ⟨s1,s2⟩:=q2 x hx;refine ⟨h.st p.a.tree xu xz d0 s1,?_⟩;rw [h.o.g.p,h.v x d xu xz d0 s1,h.f _ d (Q4.1 (p.a.up xu xz)).1 d0,h.w x d (Q4.1 xu).1 d0];exact s2
def Ua (W:Q7) (c k:Int):Prop:=(Qc W k c).on=(QU W k c && !Uf W k c)
theorem ziq {W:Q7} (p:UE W) {k c d:Int} (hu:Q6 W.groups k=true) (hd:dep 3 W.groups k=d) (d1:1<=d) (c0:0<=c) (c1:c<(W.cpus.length:Int)) :
  LC c W (setSh W k c (Y7 W k c))/\UE (setSh W k c (Y7 W k c))/\Ua (setSh W k c (Y7 W k c)) c k/\∀g:Int,Q6 W.groups g=true->g≠k->(gi W.groups k).parent≠g->Ua W c g->Ua (setSh W k c (Y7 W k c)) c g:=by
 have hz:k≠0:=fun e=>by subst e; rw [ZN] at hd; omega
 obtain ⟨u0,u1,_⟩:=Q4.1 hu;have hl:=p.a.gl;have hsl:=p.a.sl hu;have c1':c<((gi W.groups k).shelves.length:Int):=by omega
 have hpu:=p.a.up hu hz
 have hpk:(gi W.groups k).parent≠k:=fun e=>by
  obtain ⟨_,_,_,n,e1,e2,_⟩:=Zl p.a.tree hu hz;rw [e] at e2; omega
 have e:∀{i j:Int},0<=i->0<=j->Qc (setSh W k c (Y7 W k c)) i j=if k=i/\c=j then Y7 W k c else Qc W i j:=fun hi hj=>XE u0 u1 c0 c1' hi hj
 have ev:U2 W k c->(Y7 W k c).v=(Qc W k c).v:=fun hs=>by
  simp only [Y7];split
  ·rw [zf3 (by have:=hs.1; omega) hs.2]; omega
  ·rfl
 have eq0:∀{i j:Int},k=i/\c=j->(Y7 W k c).floor=(Qc W i j).floor/\(Y7 W k c).w=(Qc W i j).w/\(Y7 W k c).sum=(Qc W i j).sum:=fun h=>by
  obtain ⟨rfl,rfl⟩:=h; exact ⟨rfl,rfl,rfl⟩
 have hT:=YX (W:=W) (g:=k) (c:=c) (s:=Y7 W k c) u0 u1
 have lc:LC c W (setSh W k c (Y7 W k c)):=by
  refine ⟨GS u0 u1 c0 c1',rfl,fun i j hi hj => ?_,fun i j hi hj => ?_,fun i j hi hj => ?_,fun j hj => ?_,fun i j iu iz hj hs => ?_⟩
  ·rw [e hi hj]; split
   ·rename_i h; exact (eq0 h).1
   ·rfl
  ·rw [e hi hj]; split
   ·rename_i h; exact (eq0 h).2.1
   ·rfl
  ·rw [e hi hj]; split
   ·rename_i h; exact (eq0 h).2.2
   ·rfl
  ·rw [e (Int.le_refl 0) hj,if_neg fun h=>hz h.1]
  ·rw [e (Q4.1 iu).1 hj]; split
   ·rename_i h;obtain ⟨rfl,rfl⟩:=h;exact ev hs
   ·rfl
 have act:∀g:Int,(gi W.groups k).parent≠g->QU (setSh W k c (Y7 W k c)) g c=QU W g c:=fun g hg=>by
  refine Vr (W:=W) (W':=setSh W k c (Y7 W k c)) rfl hT fun j hj _ _ hp => ?_
  rw [e (by omega) c0,if_neg];rintro ⟨h,_⟩;exact hg (by rw [h]; exact hp)
 have hoe:Ua (setSh W k c (Y7 W k c)) c k:=by
  unfold Ua;rw [e u0 c0,if_pos ⟨rfl,rfl⟩,act k hpk,M9 u0 u1 u0];rfl
 refine ⟨lc,p.lc lc (p.a.setSh u0 (by omega)) fun i j iu iz j0 j1 ho => ?_,hoe,fun g gu gk hg h => ?_⟩
 ·by_cases h:k=i/\c=j
  ·obtain ⟨rfl,rfl⟩:=h
   by_cases hs:U2 W k c
   ·exact lc.st p.a.tree hu hz c0 hs
   ·have hoff:(Qc W k c).on=false:=by
     cases hb:(Qc W k c).on with
     | false=>rfl
     | true=>exact absurd ((p.s k c hu c0 c1).st hz hb) hs
    rw [e u0 c0,if_pos ⟨rfl,rfl⟩] at ho;have ho:(QU W k c && !Uf W k c)=true:=ho;unfold U2;rw [hT.p,e u0 c0,if_pos ⟨rfl,rfl⟩,lc.f _ c (Q4.1 hpu).1 c0];simp only [Y7];rw [if_pos ⟨ho,hoff⟩];have:=ZF ((Qc W k c).v - (Qc W (gi W.groups k).parent c).floor) (Qc W k c).w;omega
  ·rw [e (Q4.1 iu).1 j0,if_neg h] at ho;exact lc.st p.a.tree iu iz j0 ((p.s i j iu j0 j1).st iz ho)
 ·unfold Ua;have g0:=(Q4.1 gu).1;rw [e g0 c0,if_neg fun h=>gk h.1.symm,act g hg,M9 u0 u1 g0];exact h
theorem zaf {W:Q7} (p:UE W) {c d:Int} (d1:1<=d) (c0:0<=c) (c1:c<(W.cpus.length:Int)) (hI:∀g:Int,Q6 W.groups g=true->d<dep 3 W.groups g->Ua W c g):∀k:Nat,k<=8->
  LC c W (ZE W c d k)/\UE (ZE W c d k)/\∀g:Int,Q6 W.groups g=true->d<dep 3 W.groups g\/dep 3 W.groups g=d/\g<(k:Int)->Ua (ZE W c d k) c g
 | 0,_=>⟨LC.refl _ _,p,fun g gu h=>hI g gu (by
   rcases h with h | h
   ·exact h
   ·have:=(Q4.1 gu).1;have:=h.2;omega)⟩
 | k+1,hk=>by
  obtain ⟨a,b,ih⟩:=zaf p d1 c0 c1 hI k (by omega);have hl:=b.a.gl;have hT:=a.o.g;simp only [ZE];split
  ·rename_i hc;have hu:Q6 (ZE W c d k).groups (k:Int)=true:=Q4.2 ⟨by omega,by omega,hc.1⟩;obtain ⟨l1,l2,l3,l4⟩:=ziq b hu hc.2 d1 c0 (c:=c) (by rw [a.cs]; exact c1);refine ⟨a.trans p.a.tree l1,l2,fun g gu h => ?_⟩
   by_cases e:g=(k:Int)
   ·subst e; exact l3
   ·have hkz:(k:Int)≠0:=fun e=>by have:=hc.2; rw [e,ZN] at this; omega
    obtain ⟨_,_,_,n,e1,e2,_⟩:=Zl b.a.tree hu hkz;refine l4 g (by rw [hT.usd]; exact gu) e (fun hp => ?_) (ih g gu ?_)
    ·rw [hp,hT.dep] at e2;have:=hc.2;omega
    ·rcases h with h | h
     ·exact .inl h
     ·exact .inr ⟨h.1,by have:=h.2; omega⟩
  ·rename_i hc;refine ⟨a,b,fun g gu h=>ih g gu ?_⟩;rcases h with h | h
   ·exact .inl h
   ·refine .inr ⟨h.1,?_⟩
    by_cases e:g=(k:Int)
    ·subst e;exact absurd ⟨by rw [hT.u]; exact (Q4.1 gu).2.2,by rw [hT.dep]; exact h.1⟩ hc
    ·have:=h.2;omega
theorem NP {W:Q7} (p:UE W) {c:Int} (c0:0<=c) (c1:c<(W.cpus.length:Int)):LC c W (QE W c)/\UE (QE W c)/\∀g:Int,Q6 W.groups g=true->g≠0->Ua (QE W c) c g:=by
 have key:∀j:Nat,j<=3->LC c W (Xa W c j)/\UE (Xa W c j)/\∀g:Int,Q6 W.groups g=true->3 - (j:Int)<dep 3 W.groups g->Ua (Xa W c j) c g:=by
  intro j
  induction j with
  | zero=>exact fun _=>⟨LC.refl _ _,p,fun g gu h=>by have:=(Ps p.a gu).2; omega⟩
  | succ j ih=>
   intro hj;obtain ⟨a,b,h⟩:=ih (by omega);have hT:=a.o.g;obtain ⟨a2,b2,h2⟩:=zaf b (c:=c) (d:=3 - (j:Int)) (by omega) c0 (by rw [a.cs]; exact c1) (fun g gu hd=>h g (by rwa [hT.usd] at gu) (by rwa [hT.dep] at hd)) 8 (Nat.le_refl _);refine ⟨a.trans p.a.tree a2,b2,fun g gu hd=>h2 g (by rw [hT.usd]; exact gu) ?_⟩;rw [hT.dep];have:=(Q4.1 gu).2.1;have:=p.a.gl
   by_cases e:dep 3 W.groups g=3 - (j:Int)
   ·exact .inr ⟨e,by omega⟩
   ·exact .inl (by omega)
 obtain ⟨a,b,h⟩:=key 3 (Nat.le_refl _);refine ⟨a,b,fun g gu gz=>h g gu ?_⟩;obtain ⟨_,_,_,n,e1,_⟩:=Zl p.a.tree gu gz;omega
theorem Fu {W:Q7} (p:UE W):∀c:Nat,c<=W.cpus.length->UE (Ys W c)/\(Ys W c).cpus=W.cpus
 | 0,_=>⟨p,rfl⟩
 | c+1,hc=>by
  obtain ⟨a,e⟩:=Fu p c (by omega);obtain ⟨l,b,_⟩:=NP a (c:=(c:Int)) (by omega) (by rw [e]; omega);exact ⟨b,l.cs.trans e⟩
theorem UE.onlyB {W W':Q7} (p:UE W) (ho:Ub W W') (ha:WA W'):UE W':=by
 have et:∀t,Q8 W' t=Q8 W t:=Xf ho.t;have es:∀k d:Int,0<=k->Qc W' k d=Qc W k d:=fun k d hk=>by unfold Qc; rw [ho.s k hk]
 have est:∀k d:Int,Q6 W.groups k=true->k≠0->(U2 W' k d↔U2 W k d):=fun k d hu hz=>by
  unfold U2;rw [ho.g.p,es _ _ (Q4.1 (p.a.up hu hz)).1,es _ _ (Q4.1 hu).1]
 refine ⟨⟨ha,fun t t0 t1 => ?_,fun t t0 t1 n => ?_,fun k d hu d0 d1 => ?_⟩,fun d d0 d1 => ?_⟩
 ·rw [et];rcases p.t t t0 t1 with hz | ⟨n,hx⟩
  ·exact .inl hz
  ·refine .inr ⟨n,hx.st,by rw [ho.g.usd]; exact hx.g,hx.n,hx.m,hx.m0,hx.s,hx.u,hx.l1,hx.l2,fun h1 => ?_⟩;rw [es _ _ (Q4.1 hx.g).1];exact hx.f h1
 ·rw [et] at n ⊢;rw [ho.c];exact p.l t t0 t1 n
 ·rw [ho.g.usd] at hu;rw [ho.c] at d1;have hs:=p.s k d hu d0 d1;have k0:=(Q4.1 hu).1;exact ⟨by rw [es k d k0]; exact hs.s,by rw [es k d k0]; exact hs.root,fun hz h=>(est k d hu hz).2 (hs.st hz (by rwa [es k d k0] at h))⟩
 ·rw [ho.c] at d1;have hc:=p.c d d0 d1;refine ⟨by rw [ho.c]; exact hc.b,by rw [ho.c]; exact hc.i,by rw [ho.c]; exact hc.c1,by rw [ho.c]; exact hc.c2,by rw [ho.c]; exact hc.no,by rw [ho.c]; exact hc.yes,?_⟩;rw [ho.c];simp only [et];intro h0 h1 h2;obtain ⟨q1,q2⟩:=hc.q h0 h1 h2
  have hu:Q6 W.groups (Q8 W (gi W.cpus d).cur).group=true:=by
   rcases p.t _ h0 hc.c2 with hz | ⟨_,hx⟩
   ·rw [hz.1] at h1; cases h1
   ·exact hx.g
  refine ⟨by rw [es _ d (Q4.1 hu).1]; exact q1,fun x hx => ?_⟩;rw [Uy ho.g] at hx;obtain ⟨xu,xz⟩:=Yc p.a.tree _ hu x hx;obtain ⟨s1,s2⟩:=q2 x hx;refine ⟨(est x d xu xz).2 s1,?_⟩;rw [ho.g.p,es x d (Q4.1 xu).1,es _ d (Q4.1 (p.a.up xu xz)).1];exact s2
structure FC (c:Int) (W W':Q7):Prop where
 o:LZ c W W'
 cs:W'.cpus=W.cpus
 on:∀k d:Int,0<=k->0<=d->(Qc W' k d).on=(Qc W k d).on
 v:∀k d:Int,0<=k->0<=d->(Qc W' k d).v=(Qc W k d).v
 w:∀k d:Int,0<=k->0<=d->(Qc W' k d).w=(Qc W k d).w
 s:∀k d:Int,0<=k->0<=d->(Qc W' k d).sum=(Qc W k d).sum
 up:∀k d:Int,0<=k->0<=d->(Qc W k d).floor<=(Qc W' k d).floor
 fl:∀k:Int,0<=k->(Qc W' k c).floor=(Qc W k c).floor\/Zw W k c 20=true/\(Qc W' k c).floor=QZ W k c 20
theorem Gv {W:Q7} (ha:WA W) {c:Int} (c0:0<=c) (c1:c<(W.cpus.length:Int)):∀k:Nat,k<=8->FC c W (QR W c k)/\WA (QR W c k)/\∀g:Int,Q6 W.groups g=true->g<(k:Int)->Zw W g c 20=true->QZ W g c 20<=(Qc (QR W c k) g c).floor
 | 0,_=>⟨⟨LZ.refl _ _,rfl,fun _ _ _ _=>rfl,fun _ _ _ _=>rfl,fun _ _ _ _=>rfl,fun _ _ _ _=>rfl,fun _ _ _ _=>Int.le_refl _,fun _ _=>.inl rfl⟩,ha,fun g gu h=>by have:=(Q4.1 gu).1; omega⟩
 | k+1,hk=>by
  obtain ⟨f,hA,ih⟩:=Gv ha c0 c1 k (by omega);have hl:=hA.gl;have hT:=f.o.g;have hb:=Gj f.o.t hT ha.gl (fun i hi=>f.on i c hi c0) (fun i hi=>f.v i c hi c0);simp only [QR];split
  ·rename_i hc;have hu:Q6 (QR W c k).groups (k:Int)=true:=Q4.2 ⟨by omega,by omega,hc.1⟩;have hsl:=hA.sl hu;have c1':c<((gi (QR W c k).groups (k:Int)).shelves.length:Int):=by rw [hsl,f.cs]; exact c1
   have e:∀{i j:Int},0<=i->0<=j->Qc (setSh (QR W c k) (k:Int) c (Gw (QR W c k) (k:Int) c)) i j=if (k:Int)=i/\c=j then Gw (QR W c k) (k:Int) c else Qc (QR W c k) i j:=fun hi hj=>XE (by omega) (by omega) c0 c1' hi hj
   refine ⟨⟨f.o.trans (GS (by omega) (by omega) c0 c1'),f.cs,fun i j hi hj => ?_,fun i j hi hj => ?_,fun i j hi hj => ?_,fun i j hi hj => ?_,fun i j hi hj => ?_,fun i hi => ?_⟩,hA.setSh (by omega) (by omega),fun g gu hg hB => ?_⟩
   ·rw [e hi hj]; split
    ·rename_i h; obtain ⟨rfl,rfl⟩:=h; exact f.on _ _ hi hj
    ·exact f.on i j hi hj
   ·rw [e hi hj]; split
    ·rename_i h; obtain ⟨rfl,rfl⟩:=h; exact f.v _ _ hi hj
    ·exact f.v i j hi hj
   ·rw [e hi hj]; split
    ·rename_i h; obtain ⟨rfl,rfl⟩:=h; exact f.w _ _ hi hj
    ·exact f.w i j hi hj
   ·rw [e hi hj]; split
    ·rename_i h; obtain ⟨rfl,rfl⟩:=h; exact f.s _ _ hi hj
    ·exact f.s i j hi hj
   ·rw [e hi hj]; split
    ·rename_i h; obtain ⟨rfl,rfl⟩:=h;have h1:=f.up (k:Int) c hi hj;have h2:=hc.2.2;show _<=QZ (QR W c k) (k:Int) c 20;omega
    ·exact f.up i j hi hj
   ·rw [e hi c0]; split
    ·rename_i h; obtain ⟨rfl,_⟩:=h;refine .inr ⟨(hb _).1▸hc.2.1,?_⟩;show QZ (QR W c k) (k:Int) c 20=_;exact (hb _).2
    ·exact f.fl i hi
   ·have g0:=(Q4.1 gu).1;rw [e g0 c0];split
    ·rename_i h; obtain ⟨rfl,_⟩:=h;show _<=QZ (QR W c k) (k:Int) c 20;rw [(hb _).2]; exact Int.le_refl _
    ·rename_i h;exact ih g gu (by have:g≠(k:Int):=fun e=>h ⟨e.symm,rfl⟩; omega) hB
  ·rename_i hc;refine ⟨f,hA,fun g gu hg hB => ?_⟩
   by_cases e:g=(k:Int)
   ·subst e;rw [hT.u,(hb _).1,(hb _).2] at hc
    by_cases h:QZ W (k:Int) c 20>(Qc (QR W c k) (k:Int) c).floor
    ·exact absurd ⟨(Q4.1 gu).2.2,hB,h⟩ hc
    ·omega
   ·exact ih g gu (by omega) hB
theorem LZ.active {c d:Int} {W W':Q7} (h:LZ c W W') (d0:0<=d) (hd:d≠c) (g:Int):QU W' g d=QU W g d:=
 Vr h.t h.g fun j _ _ _ _=>by rw [h.e _ d (by omega) d0 hd]
theorem LZ.line {c:Int} {W W':Q7} (h:LZ c W W') (ht:Z6 W.groups) {t:Int} (hu:Q6 W.groups (Q8 W t).group=true) (d0:0<=(Q8 W t).cpu) (hd:(Q8 W t).cpu≠c):ZH W' t=ZH W t:=by
 unfold ZH TY;rw [Xf h.t,Uy h.g]
 congr 1
 rw [Bool.eq_iff_iff,List.all_eq_true,List.all_eq_true];refine forall_congr' fun x=>forall_congr' fun hx => ?_
 rw [h.e x _ (Q4.1 (Yc ht _ hu x hx).1).1 d0 hd]
structure Dn (W:Q7) (c:Int):Prop where
 on:∀k:Int,Q6 W.groups k=true->k≠0->Ua W c k
 cu:0<=(gi W.cpus c).cur->(Q8 W (gi W.cpus c).cur).cpu=c/\ZH W (gi W.cpus c).cur=true
 fl:∀k:Int,Q6 W.groups k=true->Zw W k c 20=true->QZ W k c 20<=(Qc W k c).floor
theorem Dn.oth {c d:Int} {W W':Q7} (h:Dn W d) (p:UE W) (o:LZ c W W') (d0:0<=d) (d1:d<(W.cpus.length:Int)) (hd:d≠c):Dn W' d:=by
 refine ⟨fun k hu hz => ?_,fun h0 => ?_,fun k hu hB => ?_⟩
 ·rw [o.g.usd] at hu;have k0:=(Q4.1 hu).1;have:=h.on k hu hz;unfold Ua at this ⊢;rw [o.e k d k0 d0 hd,o.active d0 hd,AO (o.b k k0)];exact this
 ·rw [o.cp d d0 hd] at h0 ⊢;rw [Xf o.t];obtain ⟨h1,h2⟩:=h.cu h0;refine ⟨h1,?_⟩
  have hs:(Q8 W (gi W.cpus d).cur).state=1:=by
   unfold ZH at h2;rw [Bool.and_eq_true] at h2;exact eq_of_beq h2.1
  have hu:Q6 W.groups (Q8 W (gi W.cpus d).cur).group=true:=by
   rcases p.t _ h0 (p.c d d0 d1).c2 with hz | ⟨_,hx⟩
   ·rw [hz.1] at hs; cases hs
   ·exact hx.g
  rw [o.line p.a.tree hu (by rw [h1]; exact d0) (by rw [h1]; exact hd)];exact h2
 ·rw [o.g.usd] at hu;have hb:=Gj (d:=d) o.t o.g p.a.gl (fun i hi=>by rw [o.e i d hi d0 hd]) (fun i hi=>by rw [o.e i d hi d0 hd]) k;rw [hb.1] at hB;rw [hb.2,o.e k d (Q4.1 hu).1 d0 hd];exact h.fl k hu hB
theorem KI.cp {W:Q7} {x:Oi} (h:KI W x) (cs:List TQ):KI { W with cpus:=cs } x:=⟨h.st,h.g,h.n,h.m,h.m0,h.s,h.u,h.l1,h.l2,h.f⟩
theorem zbs.cp {W:Q7} {k c:Int} (h:zbs W k c) (cs:List TQ):zbs { W with cpus:=cs } k c:=⟨h.s,h.root,h.st⟩
theorem PreA.endW {W:Q7} (p:PreA W) {c:Int} (c0:0<=c) (c1:c<(W.cpus.length:Int)):PreA (endW W c):=by
 have hlen:(Go.Proofs.YtclpmgfpjeaibaaGreat.endW W c).cpus.length=W.cpus.length:=List.length_set;refine ⟨?_,fun t t0 t1 => ?_,fun t t0 t1 n => ?_,fun k d hu d0 d1 => ?_⟩
 ·refine p.a.cp List.length_set ?_;rw [CI List.length_set fun j hj => ?_]
  ·exact p.a.ups
  ·rw [Qt _ _ c0 c1 (by omega)];split
   ·rename_i e; rw [<-e]; rfl
   ·rfl
 ·rcases p.t t t0 t1 with h | h
  ·exact .inl h
  ·exact .inr ⟨h.1,h.2.cp _⟩
 ·rw [hlen]; exact p.l t t0 t1 n
 ·rw [hlen] at d1; exact (p.s k d hu d0 d1).cp _
theorem UE.endW {W:Q7} (p:UE W) {c:Int} (c0:0<=c) (c1:c<(W.cpus.length:Int)):UE (endW W c):=by
 refine ⟨p.toPreA.endW c0 c1,fun d d0 d1 => ?_⟩;have hlen:(Go.Proofs.YtclpmgfpjeaibaaGreat.endW W c).cpus.length=W.cpus.length:=List.length_set;have hcp:gi (Go.Proofs.YtclpmgfpjeaibaaGreat.endW W c).cpus d=if c=d then X0 (gi W.cpus c) else gi W.cpus d:=Qt _ _ c0 c1 d0;rw [hlen] at d1;have hc:=p.c d d0 d1
 by_cases e:c=d
 ·subst e;rw [if_pos rfl] at hcp;have n1:(X0 (gi W.cpus c)).cur = -1:=rfl;exact ⟨by rw [hcp]; exact hc.b,by rw [hcp]; exact hc.i,by rw [hcp,n1]; exact Int.le_refl _,by rw [hcp,n1]; decide,fun _=>by rw [hcp]; rfl,fun h=>by rw [hcp,n1] at h; omega,fun h=>by rw [hcp,n1] at h; omega⟩
 ·rw [if_neg e] at hcp;exact ⟨by rw [hcp]; exact hc.b,by rw [hcp]; exact hc.i,by rw [hcp]; exact hc.c1,by rw [hcp]; exact hc.c2,by rw [hcp]; exact hc.no,by rw [hcp]; exact hc.yes,by rw [hcp]; exact hc.q⟩
theorem zjq {W:Q7} (p:UE W) {c:Int} (c0:0<=c) (c1:c<(W.cpus.length:Int)):UE (UA W c)/\LZ c W (UA W c)/\Dn (UA W c) c:=by
 obtain ⟨l,p1,hon⟩:=NP p c0 c1;obtain ⟨f,hA,hfl⟩:=Gv p1.a c0 (c:=c) (by rw [l.cs]; exact c1) 8 (Nat.le_refl _);have f:FC c (QE W c) (Zf (QE W c) c):=f;have hA:WA (Zf (QE W c) c):=hA;have hfl:∀g:Int,Q6 (QE W c).groups g=true->g<((8:Nat):Int)->Zw (QE W c) g c 20=true->QZ (QE W c) g c 20<=(Qc (Zf (QE W c) c) g c).floor:=hfl;have hon:∀g:Int,Q6 (QE W c).groups g=true->g≠0->Ua (QE W c) c g:=fun g gu gz=>hon g (by rwa [l.o.g.usd] at gu) gz
 have hgl:=p1.a.gl;have hlc:(QE W c).cpus.length=W.cpus.length:=by rw [l.cs]
 have hdef:UA W c=if P6 (Zf (QE W c) c) c=true then endW (Zf (QE W c) c) c else Zf (QE W c) c:=rfl;have hO:LZ c W (Zf (QE W c) c):=l.o.trans f.o;rw [hdef];clear hdef;have c1':c<((QE W c).cpus.length:Int):=by rw [hlc]; exact c1
 generalize QE W c=V at p1 hon f hA hfl hgl hlc hO c1';generalize Zf V c=F at f hA hfl hO;have et:∀t,Q8 F t=Q8 V t:=Xf f.o.t;have hT:=f.o.g;have best:=Gj (d:=c) f.o.t hT hgl (fun i hi=>f.on i c hi c0) (fun i hi=>f.v i c hi c0)
 have low:∀k:Int,Q6 V.groups k=true->∀v:Int,(Zw V k c 20=true/\QZ V k c 20<=v)->(Qc V k c).floor<=v->(Qc F k c).floor<=v:=fun k hu v hv hf=>by
  rcases f.fl k (Q4.1 hu).1 with e | ⟨_,e⟩
  ·rw [e]; exact hf
  ·rw [e]; exact hv.2
 have st:∀k d:Int,Q6 V.groups k=true->k≠0->0<=d->(Qc V k d).on=true->U2 V k d->U2 F k d:=fun k d hu hz d0 ho hs=>by
  have pu:=p1.a.up hu hz;have k0:=(Q4.1 hu).1;have q0:=(Q4.1 pu).1;unfold U2;rw [hT.p,f.v k d k0 d0,f.w k d k0 d0];have hup:=f.up _ d q0 d0;refine ⟨?_,by have:=hs.2; omega⟩
  by_cases hd:d=c
  ·subst hd;exact low _ pu _ (zbu p1.a hu hz ho) hs.1
  ·rw [f.o.e _ d q0 d0 hd]; exact hs.1
 have pa:PreA F:=by
  refine ⟨hA,fun t t0 t1 => ?_,fun t t0 t1 n => ?_,fun k d hu d0 d1 => ?_⟩
  ·rw [et];rcases p1.t t t0 t1 with hz | ⟨n,hx⟩
   ·exact .inl hz
   ·refine .inr ⟨n,hx.st,by rw [hT.usd]; exact hx.g,hx.n,hx.m,hx.m0,hx.s,hx.u,hx.l1,hx.l2,fun h1 => ?_⟩;obtain ⟨d0,d1⟩:=p1.l t t0 t1 n;have g0:=(Q4.1 hx.g).1;have hup:=f.up _ _ g0 d0;have hs:=hx.f h1;refine ⟨?_,by omega⟩
    by_cases hd:(Q8 V t).cpu=c
    ·have hb:=zff p1.a t0 t1 h1;rw [hd] at hb hs ⊢;exact low _ hx.g _ hb hs.1
    ·rw [f.o.e _ _ g0 d0 hd]; exact hs.1
  ·rw [et] at n ⊢;rw [f.cs];exact p1.l t t0 t1 n
  ·rw [hT.usd] at hu;rw [f.cs] at d1;have hs:=p1.s k d hu d0 d1;have k0:=(Q4.1 hu).1;refine ⟨by rw [f.s k d k0 d0]; exact hs.s,fun hz => ?_,fun hz h => ?_⟩
   ·rw [f.on k d k0 d0,f.v k d k0 d0,f.w k d k0 d0]; exact hs.root hz
   ·rw [f.on k d k0 d0] at h;exact st k d hu hz d0 h (hs.st hz h)
 have ptu:∀t:Int,0<=t->t<12->(Q8 V t).state=1->Q6 V.groups (Q8 V t).group=true:=fun t t0 t1 h=>by
  rcases p1.t t t0 t1 with hz | ⟨_,hx⟩
  ·rw [hz.1] at h; cases h
  ·exact hx.g
 have pc:∀d:Int,0<=d->d<(V.cpus.length:Int)->(d=c->P6 F c=false)->zm4 F d:=fun d d0 d1 hg=>by
  have hc:=p1.c d d0 d1;refine ⟨by rw [f.cs]; exact hc.b,by rw [f.cs]; exact hc.i,by rw [f.cs]; exact hc.c1,by rw [f.cs]; exact hc.c2,by rw [f.cs]; exact hc.no,by rw [f.cs]; exact hc.yes,?_⟩;rw [f.cs];simp only [et];intro h0 h1 h2;obtain ⟨q1,q2⟩:=hc.q h0 h1 h2;have hu:=ptu _ h0 hc.c2 h1;have hup:=f.up _ d (Q4.1 hu).1 d0;refine ⟨by omega,fun x hx => ?_⟩;rw [Uy hT] at hx;obtain ⟨xu,xz⟩:=Yc p1.a.tree _ hu x hx;obtain ⟨s1,s2⟩:=q2 x hx;have x0:=(Q4.1 xu).1;have q0:=(Q4.1 (p1.a.up xu xz)).1;have hup2:=f.up _ d q0 d0;refine ⟨?_,by rw [hT.p,f.v x d x0 d0,f.w x d x0 d0]; omega⟩
  by_cases hd:d=c
  ·subst hd
   have hl:ZH F (gi V.cpus d).cur=true:=by
    have:=hg rfl;unfold P6 at this;rw [f.cs,et,decide_eq_true h0,h2] at this
    simpa using this
   unfold ZH TY at hl;rw [et,h2,Uy hT,Bool.and_eq_true,List.all_eq_true] at hl;have ho:=hl.2 x hx;rw [f.on x d x0 d0] at ho;exact st x d xu xz d0 ho s1
  ·unfold U2;rw [hT.p,f.o.e x d x0 d0 hd,f.o.e _ d q0 d0 hd];exact s1
 have honF:∀k:Int,Q6 F.groups k=true->k≠0->Ua F c k:=fun k hu hz=>by
  rw [hT.usd] at hu;have k0:=(Q4.1 hu).1;have:=hon k hu hz;unfold Ua at this ⊢;rw [f.on k c k0 c0,Vr f.o.t hT fun j _ _ _ _=>f.on _ c (by omega) c0,AO (f.o.b k k0)];exact this
 have hflF:∀k:Int,Q6 F.groups k=true->Zw F k c 20=true->QZ F k c 20<=(Qc F k c).floor:=fun k hu hB=>by
  rw [hT.usd] at hu;rw [(best k).1] at hB;rw [(best k).2];exact hfl k hu (by have:=(Q4.1 hu).2.1; omega) hB
 split
 ·rename_i hg;have cF:c<(F.cpus.length:Int):=by rw [f.cs]; exact c1'
  have hcp:∀d:Int,0<=d->gi (endW F c).cpus d=if c=d then X0 (gi F.cpus c) else gi F.cpus d:=fun d d0=>Qt _ _ c0 cF d0
  have hlen:(endW F c).cpus.length=F.cpus.length:=List.length_set;refine ⟨⟨pa.endW c0 cF,fun d d0 d1 => ?_⟩,hO.trans (zan c0 cF),honF,fun h0 => ?_,hflF⟩
  ·rw [hlen] at d1
   by_cases e:c=d
   ·subst e;have hc:=p1.c c c0 c1';have e1:gi (endW F c).cpus c=X0 (gi V.cpus c):=by rw [hcp c c0,if_pos rfl,f.cs]
    have n1:(X0 (gi V.cpus c)).cur = -1:=rfl;exact ⟨by rw [e1]; exact hc.b,by rw [e1]; exact hc.i,by rw [e1,n1]; exact Int.le_refl _,by rw [e1,n1]; decide,fun _=>by rw [e1]; rfl,fun h=>by rw [e1,n1] at h; omega,fun h=>by rw [e1,n1] at h; omega⟩
   ·have hc:=pc d d0 (by rw [<-f.cs]; exact d1) fun h=>absurd h.symm e
    have e1:gi (endW F c).cpus d=gi F.cpus d:=by rw [hcp d d0,if_neg e]
    exact ⟨by rw [e1]; exact hc.b,by rw [e1]; exact hc.i,by rw [e1]; exact hc.c1,by rw [e1]; exact hc.c2,by rw [e1]; exact hc.no,by rw [e1]; exact hc.yes,by rw [e1]; exact hc.q⟩
  ·rw [hcp c c0,if_pos rfl] at h0;have h0:(0:Int)<=-1:=h0;omega
 ·rename_i hg;have hg:P6 F c=false:=by simpa using hg
  refine ⟨⟨pa,fun d d0 d1=>pc d d0 (by rw [<-f.cs]; exact d1) fun _=>hg⟩,hO,honF,fun h0 => ?_,hflF⟩;unfold P6 at hg;rw [decide_eq_true h0,Bool.true_and,Bool.or_eq_false_iff] at hg;exact ⟨by simpa using hg.1,by simpa using hg.2⟩
theorem zbd {W:Q7} (p:UE W):∀c:Nat,c<=W.cpus.length->UE (J5 W c)/\(J5 W c).cpus.length=W.cpus.length/\(J5 W c).tasks=W.tasks/\QM W.groups (J5 W c).groups/\∀d:Int,0<=d->d<(c:Int)->Dn (J5 W c) d
 | 0,_=>⟨p,rfl,rfl,QM.refl _,fun d a b=>by omega⟩
 | c+1,hc=>by
  obtain ⟨a,e,et,eg,ih⟩:=zbd p c (by omega);obtain ⟨p1,o,dn⟩:=zjq a (c:=(c:Int)) (by omega) (by rw [e]; omega);refine ⟨p1,o.len.trans e,o.t.trans et,eg.trans o.g,fun d d0 d1 => ?_⟩
  by_cases h:d=(c:Int)
  ·subst h; exact dn
  ·exact (ih d d0 (by omega)).oth a o d0 (by rw [e]; omega) h
theorem zgr {K:Int} {W:Q7} (sw:SW K W) (p:UE W) (hK:0<=K):UE (Qg W)/\Fr W (Qg W)/\∀d:Int,0<=d->d<(W.cpus.length:Int)->Dn (Qg W) d:=by
 obtain ⟨a,e⟩:=Fu p W.cpus.length (Nat.le_refl _);obtain ⟨s1,_⟩:=T5 (F:=K) (K:=K+Qj) (sw.sf.mono (Int.le_refl _) (by simp only [Qj]; omega)) (Int.le_refl _) W.cpus.length (Nat.le_refl _);obtain ⟨s2,b2⟩:=Vy s1 8 (Nat.le_refl _);have p2:=a.onlyB b2 s2.w.a;have e2:(Yv (Ys W W.cpus.length) 8).cpus.length=W.cpus.length:=by rw [b2.c,e]
 obtain ⟨p3,e3,_,_,dn⟩:=zbd p2 W.cpus.length (by rw [e2]; exact Nat.le_refl _);exact ⟨p3,(Vg sw hK).2,dn⟩
theorem zoc {K:Int} {W:Q7} (sw:SW K W) (hK:K<=100000000000000000) (p:UE W) (hl:En W) (dn:∀d:Int,0<=d->d<(W.cpus.length:Int)->Dn W d):XG W/\zph W:=by
 have tm:∀k c:Int,Q6 W.groups k=true->0<=c->c<(W.cpus.length:Int)->XH (Qc W k c).floor=true/\XH (Qc W k c).v=true:=fun k c hu c0 c1=>by
  have:=sw.s k c hu c0 c1;exact ⟨ZR.2 (by omega),ZR.2 (by omega)⟩
 have tv:∀t:Int,0<=t->t<12->XH (Q8 W t).v=true:=fun t t0 t1=>by
  have:=sw.tv t t0 t1;exact ZR.2 (by omega)
 refine ⟨⟨p.a,fun t t0 t1 => ?_,fun k c k0 k1 c0 c1 => ?_,fun c c0 c1 => ?_⟩,fun k c hu c0 c1 hB=>(dn c c0 c1).fl k hu hB⟩
 ·rcases p.t t t0 t1 with hz | ⟨n,hx⟩
  ·exact .inl hz
  ·obtain ⟨d0,d1⟩:=p.l t t0 t1 n;exact .inr ⟨n,hx.st,hx.g,hx.n,hx.m,hx.m0,tv t t0 t1,hx.s,hx.u,hx.l1,hx.l2,hl t t0 t1 n,fun h1=>(LM (tv t t0 t1) (tm _ _ hx.g d0 d1).1).2 (hx.f h1)⟩
 ·have hgl:=p.a.gl
  have hu:Q6 W.groups k=true:=by
   cases hb:(gi W.groups k).used with
   | true=>exact Q4.2 ⟨k0,by omega,hb⟩
   | false=>
    have:=((p.a.grp k k0 k1).1 hb).l;omega
  have hsl:=p.a.sl hu;have c1:c<(W.cpus.length:Int):=by omega
  have hs:=p.s k c hu c0 c1;have ht:=tm k c hu c0 c1;have hw:=sw.s k c hu c0 c1;exact ⟨ht.1,ht.2,hs.s,hw.2.2.2.2.1,hw.2.2.2.2.2,hs.root,fun hz=>(dn c c0 c1).on k hu hz,fun hz ho=>(LM ht.2 (tm _ c (p.a.up hu hz) c0 c1).1).2 (hs.st hz ho)⟩
 ·have hc:=p.c c c0 c1;have htl:=p.a.t;refine ⟨hc.b,hc.i,hc.c1,by have:=hc.c2; omega,hc.no,fun h0 => ?_⟩;obtain ⟨y1,y2,y3⟩:=hc.yes h0;obtain ⟨z1,z2⟩:=(dn c c0 c1).cu h0
  have hs:(Q8 W (gi W.cpus c).cur).state=1:=by
   unfold ZH at z2;rw [Bool.and_eq_true] at z2;exact eq_of_beq z2.1
  obtain ⟨q1,q2⟩:=hc.q h0 hs z1;refine ⟨y1,y2,y3,z1,z2,?_⟩;unfold PO Pe;rw [Bool.and_eq_true,List.all_eq_true];exact ⟨decide_eq_true q1,fun x hx=>decide_eq_true (q2 x hx).2⟩
theorem Yh {α β:Type} [Inhabited α] {f:α->β} (l:List α) (k:Int) {x:α} (h:f x=f (gi l k)) (i:Int):f (gi (l.set k.toNat x) i)=f (gi l i):=by
 unfold gi at *;simp only [List.getD_eq_getElem?_getD,List.getElem?_set] at *
 by_cases e:k.toNat=i.toNat
 ·rw [if_pos e];split
  ·rw [<-e]; simpa using h
  ·rename_i hl;have:l[i.toNat]? = none:=List.getElem?_eq_none_iff.2 (by omega);rw [this]
 ·rw [if_neg e]
structure UF (W W':Q7):Prop where
 g:QM W.groups W'.groups
 m:∀i:Int,(gi W'.groups i).cpus=(gi W.groups i).cpus
 w:∀i:Int,(gi W'.groups i).weight=(gi W.groups i).weight
 len:W'.cpus.length=W.cpus.length
 u:∀i:Int,(gi W'.cpus i).up=(gi W.cpus i).up
theorem UF.refl (W:Q7):UF W W:=⟨QM.refl _,fun _=>rfl,fun _=>rfl,rfl,fun _=>rfl⟩
theorem UF.trans {A B C:Q7} (h:UF A B) (k:UF B C):UF A C:=⟨h.g.trans k.g,fun i=>(k.m i).trans (h.m i),fun i=>(k.w i).trans (h.w i),k.len.trans h.len,fun i=>(k.u i).trans (h.u i)⟩
theorem zc7 {W:Q7} {g:Int} {x:Z0} (u:x.used=(gi W.groups g).used) (p:x.parent=(gi W.groups g).parent) (n:x.name=(gi W.groups g).name) (m:x.cpus=(gi W.groups g).cpus) (w:x.weight=(gi W.groups g).weight):UF W (setGr W g x):=
 ⟨⟨List.length_set,fun i=>Yh (f:=Z0.used) _ _ u i,fun i=>Yh (f:=Z0.parent) _ _ p i,fun i=>Yh (f:=Z0.name) _ _ n i⟩,fun i=>Yh (f:=Z0.cpus) _ _ m i,fun i=>Yh (f:=Z0.weight) _ _ w i,rfl,fun _=>rfl⟩
theorem B7 (W:Q7) (g c:Int) (s:Pi):UF W (setSh W g c s):=zc7 rfl rfl rfl rfl rfl
theorem zc6 (W:Q7) (g:Int) (b:XS):UF W (setBd W g b):=zc7 rfl rfl rfl rfl rfl
theorem zc9 (W:Q7) (t:Int) (x:Oi):UF W (setTk W t x):=⟨QM.refl _,fun _=>rfl,fun _=>rfl,rfl,fun _=>rfl⟩
theorem CD {W:Q7} {c:Int} {x:TQ} (u:x.up=(gi W.cpus c).up):UF W (setCp W c x):=⟨QM.refl _,fun _=>rfl,fun _=>rfl,List.length_set,fun i=>Yh (f:=TQ.up) _ _ u i⟩
theorem Mm (W:Q7) (c:Int):UF W (endW W c):=CD rfl
theorem Hb (W:Q7) (c d:Int):∀k:Nat,UF W (ZE W c d k)
 | 0=>UF.refl _
 | k+1=>by
  simp only [ZE];split
  ·exact (Hb W c d k).trans (B7 _ _ _ _)
  ·exact Hb W c d k
theorem Ky (W:Q7) (c:Int):∀j:Nat,UF W (Xa W c j)
 | 0=>UF.refl _
 | j+1=>(Ky W c j).trans (Hb _ _ _ _)
theorem B6 (W:Q7):∀c:Nat,UF W (Ys W c)
 | 0=>UF.refl _
 | c+1=>(B6 W c).trans (Ky (Ys W c) (c:Int) 3)
theorem H9 (W:Q7) (k:Int):∀c:Nat,UF W (Yi W k c)
 | 0=>UF.refl _
 | c+1=>by
  simp only [Yi];split
  ·exact (H9 W k c).trans (zc6 _ _ _)
  ·exact H9 W k c
theorem Ha (W:Q7):∀k:Nat,UF W (Yv W k)
 | 0=>UF.refl _
 | k+1=>by
  simp only [Yv];split
  ·exact (Ha W k).trans (H9 _ _ _)
  ·exact Ha W k
theorem Kx (W:Q7) (c:Int):∀k:Nat,UF W (QR W c k)
 | 0=>UF.refl _
 | k+1=>by
  simp only [QR];split
  ·exact (Kx W c k).trans (B7 _ _ _ _)
  ·exact Kx W c k
theorem zgu (W:Q7) (c:Int):UF W (UA W c):=by
 have h:=(Ky W c 3).trans (Kx (QE W c) c 8);unfold UA;split
 ·exact h.trans (Mm _ _)
 ·exact h
theorem Ae (W:Q7):∀c:Nat,UF W (J5 W c)
 | 0=>UF.refl _
 | c+1=>(Ae W c).trans (zgu (J5 W c) (c:Int))
theorem zc8 (W:Q7):UF W (Qg W):=((B6 W W.cpus.length).trans (Ha (Ys W W.cpus.length) 8)).trans (Ae (MN (Ys W W.cpus.length)) W.cpus.length)
theorem UF.ups {W W':Q7} (h:UF W W'):Jo W'.cpus=Jo W.cpus:=CI h.len fun j _=>h.u j
theorem UF.pin {W W':Q7} (h:UF W W') (g u:Int):T2 W'.groups g u=T2 W.groups g u:=by
 unfold T2;rw [show QT W'.groups g=QT W.groups g from h.g.path 3 g]
 congr 1
 funext s x
 rw [h.m]
theorem UF.wh {W W':Q7} (h:UF W W') (g m:Int):Qq W' g m=Qq W g m:=by
 unfold Qq;rw [h.ups,h.pin]
theorem UF.loc {W W':Q7} (h:UF W W') (ht:W'.tasks=W.tasks) (hl:En W):En W':=fun t t0 t1 n=>by
 rw [Xf ht] at n ⊢;rw [h.wh];exact hl t t0 t1 n
theorem B2 {K:Int} {W:Q7} (sw:SW K W) (hK:0<=K) (hK2:K+U1<=100000000000000000) (p:UE W) (hl:En W):XG (Qg W)/\zph (Qg W):=by
 obtain ⟨p1,hf,dn⟩:=zgr sw p hK;exact zoc (Vg sw hK).1 hK2 p1 ((zc8 W).loc hf.t hl) fun d d0 d1=>dn d d0 (by rw [<-hf.c]; exact d1)
theorem zbs.cong {W W':Q7} {k c:Int} (h:zbs W k c) (e:Qc W' k c=Qc W k c) (ep:k≠0->(Qc W' (gi W'.groups k).parent c).floor=(Qc W (gi W.groups k).parent c).floor):zbs W' k c:=
 ⟨by rw [e]; exact h.s,by rw [e]; exact h.root,fun hz ho=>by
  rw [e] at ho;have:=h.st hz ho;unfold U2 at this ⊢;rw [e,ep hz]; exact this⟩
theorem UE.setTk {W:Q7} (p:UE W) {t:Int} (t0:0<=t) (t1:t<12) {x:Oi} (hx:x.state=0/\x=TN\/x.state≠0/\KI W x/\0<=x.cpu/\x.cpu<(W.cpus.length:Int))
  (hc:∀c:Int,0<=c->c<(W.cpus.length:Int)->(gi W.cpus c).cur=t->x.state=1->x.cpu=c->x.v - (Qc W x.group c).floor<=Z4 (gi W.cpus c).ran (Qd x.nice)/\∀y∈QT W.groups x.group,U2 W y c/\(Qc W y c).v - (Qc W (gi W.groups y).parent c).floor<=Z4 (gi W.cpus c).ran (Qc W y c).w):UE (setTk W t x):=by
 have hl:=p.a.t;have e:∀i:Int,0<=i->Q8 (Go.Proofs.YtclpmgfpjeaibaaGreat.setTk W t x) i=if t=i then x else Q8 W i:=fun i i0=>Qt _ _ t0 (by omega) i0
 refine ⟨⟨p.a.tk List.length_set,fun i a b => ?_,fun i a b n => ?_,fun k c hu c0 c1 => ?_⟩,fun c c0 c1 => ?_⟩
 ·rw [e i a];split
  ·rcases hx with h | ⟨h1,h2,_⟩
   ·exact .inl h
   ·exact .inr ⟨h1,h2.st,h2.g,h2.n,h2.m,h2.m0,h2.s,h2.u,h2.l1,h2.l2,h2.f⟩
  ·rcases p.t i a b with h | ⟨h1,h2⟩
   ·exact .inl h
   ·exact .inr ⟨h1,h2.st,h2.g,h2.n,h2.m,h2.m0,h2.s,h2.u,h2.l1,h2.l2,h2.f⟩
 ·rw [e i a] at n ⊢;split
  ·rename_i h;rw [if_pos h] at n;rcases hx with h | ⟨_,_,h2⟩
   ·exact absurd h.1 n
   ·exact h2
  ·rename_i h;rw [if_neg h] at n;exact p.l i a b n
 ·exact (p.s k c hu c0 c1).cong rfl fun _=>rfl
 ·have h:=p.c c c0 c1;refine ⟨h.b,h.i,h.c1,h.c2,h.no,h.yes,fun h0 => ?_⟩;rw [e _ h0];split
  ·rename_i he;exact fun h1 h2=>hc c c0 c1 he.symm h1 h2
  ·exact h.q h0
def Kj (p:Nat->Bool):Nat->Int
 | 0 => -1
 | k+1=>if (decide (Kj p k<0)&&p k)=true then (k:Int) else Kj p k
theorem Oq (p:Nat->Bool):∀k:Nat,(Kj p k = -1/\∀j,j<k->p j=false)\/(0<=Kj p k/\Kj p k<(k:Int)/\p (Kj p k).toNat=true/\∀j:Nat,(j:Int)<Kj p k->p j=false)
 | 0=>.inl ⟨rfl,fun j hj=>absurd hj (Nat.not_lt_zero j)⟩
 | k+1=>by
  simp only [Kj];rcases Oq p k with ⟨h1,h2⟩ | ⟨h1,h2,h3,h4⟩
  ·cases hp:p k with
   | true=>
    rw [h1,if_pos (by rfl)];exact .inr ⟨by omega,by omega,by simpa using hp,fun j hj=>h2 j (by omega)⟩
   | false=>
    rw [if_neg (by simp),h1];refine .inl ⟨rfl,fun j hj => ?_⟩
    by_cases e:j=k
    ·rw [e]; exact hp
    ·exact h2 j (by omega)
  ·rw [if_neg (by rw [decide_eq_false (by omega:¬Kj p k<0)]; simp)];exact .inr ⟨h1,by omega,h3,h4⟩
theorem zd4 {p:Nat->Bool} {n:Nat} (h:∀j,j<n->p j=false):Kj p n = -1:=by
 rcases Oq p n with ⟨h1,_⟩ | ⟨h1,h2,h3,_⟩
 ·exact h1
 ·rw [h _ (by omega)] at h3; cases h3
theorem zd3 {p:Nat->Bool} {n:Nat} {a:Int} (a0:0<=a) (a1:a<(n:Int)) (hp:p a.toNat=true) (hn:∀j:Nat,(j:Int)<a->p j=false):Kj p n=a:=by
 rcases Oq p n with ⟨_,h2⟩ | ⟨h1,h2,h3,h4⟩
 ·rw [h2 _ (by omega)] at hp; cases hp
 ·by_cases l:Kj p n<a
  ·rw [hn _ (by omega)] at h3; cases h3
  ·by_cases g:a<Kj p n
   ·rw [h4 _ (by omega)] at hp; cases hp
   ·omega
def Ts (W:Q7) (j:Nat):Bool:=(Q8 W (j:Int)).state==0
def Us (W:Q7):Int:=Kj (Ts W) 12
noncomputable def Tq (W:Q7) (g n x:Int):Int:=if Qd n=0\/TZ x=false\/x=0 then 1 else if Q6 W.groups g=false then 2 else if Us W<0 then 3 else if QB W=false then 10 else 0
def P5 (W:Q7) (g x:Int):Int:=TP W (Qq W g x)
def Py (W:Q7) (g n x:Int):Oi:=⟨1,g,P5 W g x,n,x,(Qc W g (P5 W g x)).floor,0,0,0⟩
def zh0 (W:Q7) (g n x:Int):Q7:=Qg (endW (setTk W (Us W) (Py W g n x)) (P5 W g x))
noncomputable def T8 (W:Q7) (bar:Int) (W':Q7) (a:Int):Q7×Int×Int:=if QG W=false then (OP,-1,1) else if bar≠0 then (W,-1,bar) else (W',a,0)
def VE (r:Q7×Int×Int) (w:World) (v:Value) (w':World):Prop:=∃n m',v = .tuple #[.agg (Qa r.1 m').toArray,.int .i64 r.2.1,.int .i64 r.2.2]/\Y8 n w.heap.size w' r.1 m'/\Q0 [] w w'
structure zon (W:Q7) (g n x:Int):Prop where
 w:Qd n≠0
 m:TZ x=true
 m0:x≠0
 u:Q6 W.groups g=true
 f0:0<=Us W
 f1:Us W<12
 f2:(Q8 W (Us W)).state=0
 r:QB W=true
 sw:SW Ql W
 c0:0<=P5 W g x
 c1:P5 W g x<(W.cpus.length:Int)
 ch:Z5 (Qq W g x) (P5 W g x)=true
 sw2:SW Ql (setTk W (Us W) (Py W g n x))
theorem zd2 {W:Q7} {g n x:Int} (hW:QG W=true) (hb:Tq W g n x=0):zon W g n x:=by
 have wp:=Qn.1 hW;unfold Tq at hb
 split at hb
 ·cases hb
 ·rename_i h1
  split at hb
  ·cases hb
  ·rename_i h2
   split at hb
   ·cases hb
   ·rename_i h3
    split at hb
    ·cases hb
    ·rename_i h4;have h4:QB W=true:=by simpa using h4
     have h2:Q6 W.groups g=true:=by simpa using h2
     have sw:=TI wp (Qn.1 h4)
     have hf:0<=Us W/\Us W<12/\Ts W (Us W).toNat=true:=by
      rcases Oq (Ts W) 12 with ⟨a,_⟩ | ⟨a,b,c,_⟩
      ·unfold Us at h3; omega
      ·exact ⟨a,b,c⟩
     obtain ⟨c0,c1,ch⟩:=Mj wp.a g x;have hs:=sw.s g _ h2 c0 c1;have e:(((Us W).toNat:Nat):Int)=Us W:=by omega
     refine ⟨fun h=>h1 (.inl h),?_,fun h=>h1 (.inr (.inr h)),h2,hf.1,hf.2.1,?_,h4,sw,c0,c1,ch,sw.setTk hf.1 hf.2.1 (x:=Py W g n x) (fun _=>⟨h2,c0,c1⟩) hs.1 hs.2.1⟩
     ·cases hm:TZ x with
      | true=>rfl
      | false=>exact absurd (.inr (.inl hm)) h1
     ·have:=hf.2.2;unfold Ts at this;rw [e] at this;exact eq_of_beq this
section
variable {W W':Q7} {m:MW} {w:World} {bar a:Int}
theorem VE.bad {w':World} (hW:QG W=false) (hx:Q0 [] w w'):VE (T8 W bar W' a) w (.tuple #[.agg (Qa OP zlv).toArray,.int .i64 (-1),.int .i64 1]) w':=by
 rw [show T8 W bar W' a=(OP,-1,1) from if_pos hW];exact ⟨0,zlv,rfl,Y8.zero _ _,hx⟩
theorem VE.no {n:Nat} {bs:List Nat} {w':World} {m':MW} (hW:QG W=true) (hb:bar≠0) (hk:Wk n bs w w' W m') {c:Int} (hc:bar=c):VE (T8 W bar W' a) w (.tuple #[.agg (Qa W m').toArray,.int .i64 (-1),.int .i64 c]) w':=by
 rw [show T8 W bar W' a=(W,-1,c) by unfold T8; rw [if_neg (by rw [hW]; decide),if_pos hb,hc]];exact ⟨n,m',rfl,hk.fin⟩
theorem VE.ok {n:Nat} {bs:List Nat} {w':World} {m':MW} (hW:QG W=true) (hb:bar=0) (hk:Wk n bs w w' W' m'):VE (T8 W bar W' a) w (.tuple #[.agg (Qa W' m').toArray,.int .i64 a,.int .i64 0]) w':=by
 rw [show T8 W bar W' a=(W',a,0) by unfold T8; rw [if_neg (by rw [hW]; decide),if_neg (by simpa using hb)]];exact ⟨n,m',rfl,hk.fin⟩
set_option maxHeartbeats 1000000 in
theorem P8 {g n x:Int} (h:Xo [] w W m) (hl:X4 W) :
  Cz YA #[.agg (Qa W m).toArray,.int .i64 g,.int .i64 n,.int .i64 x] w fun e w'=>∃v,e = .returned v/\VE (T8 W (Tq W g n x) (zh0 W g n x) (Us W)) w v w':=by
 refine De W.now m.cO W.cpus.length m.cC m.tO W.tasks.length m.tC m.gO W.groups.length m.gC g n x (R:=fun v w'=>VE (T8 W (Tq W g n x) (zh0 W g n x) (Us W)) w v w') ?_;intro y hy y1 hy1 wr hx2 hs2;refine Calls.mono (QW (h.ext hx2) hl) ?_;rintro e wv (⟨hW,he,hy2⟩ | ⟨hW,m',he,hM,hy2⟩)
 ·exact ⟨_,_,_,_,_,_,_,_,_,_,_,he,Qf hy2 hs2,fun _ wr1 hx3=>VE.bad hW ((hx2.trans hy2).fresh hx3 fun z hm=>.inl (Yd hy hy1 z hm)),fun g=>by simp at g⟩
 have hK:=Wk.begin hy hy1 hx2 hs2 hM hy2;have hr:=hK.rd;have wp:=Qn.1 hW;have htl:=wp.a.t;refine ⟨_,_,_,_,_,_,_,_,_,_,_,he,Qf hy2 hs2,fun g=>by split at g <;> simp at g,fun _=>⟨_,Zq,_,fun _=>Yw,fun g1 wr2 hx3 => ?_,fun g1=>⟨_,Yx hr.g,fun g2 wr3 hx3 => ?_,fun g2=>⟨⟨by omega,by omega⟩,?_⟩⟩⟩⟩
 ·have hb:Tq W g n x=1:=by
   unfold Tq;rw [if_pos];simp only [Bool.or_eq_true,beq_iff_eq,Bool.not_eq_true'] at g1;rcases g1 with (g1 | g1) | g1
   ·exact .inl g1
   ·exact .inr (.inl g1)
   ·exact .inr (.inr g1)
  exact VE.no hW (by rw [hb]; decide) (hK.step hx3) hb
 ·have n1:¬(Qd n=0\/TZ x=false\/x=0):=by
   simp only [Bool.or_eq_false_iff,beq_eq_false_iff_ne,Bool.not_eq_false',ne_eq] at g1;rintro (h | h | h)
   ·exact g1.1.1 h
   ·rw [g1.1.2] at h; cases h
   ·exact g1.2 h
  have hb:Tq W g n x=2:=by unfold Tq; rw [if_neg n1,if_pos (by simpa using g2)]
  exact VE.no hW (by rw [hb]; decide) (hK.step hx3) hb
 have n1:¬(Qd n=0\/TZ x=false\/x=0):=by
  simp only [Bool.or_eq_false_iff,beq_eq_false_iff_ne,Bool.not_eq_false',ne_eq] at g1;rintro (h | h | h)
  ·exact g1.1.1 h
  ·rw [g1.1.2] at h; cases h
  ·exact g1.2 h
 have hu:Q6 W.groups g=true:=by simpa using g2
 have n2:¬Q6 W.groups g=false:=by rw [hu]; decide
 refine ⟨fun vs w1=>∃a t:Int,vs=[.int .i64 a,.int .i64 t]/\-1<=t/\t<12/\(a = -1/\(∀j:Nat,t<(j:Int)->j<12->Ts W j=false)\/t<a/\a<12/\Ts W a.toNat=true/\∀j:Nat,t<(j:Int)->(j:Int)<a->Ts W j=false)/\Q0 [y,y1] wv w1,
  fun vs _=>(Yf 1 vs+1).toNat,fun w1 hx0 _=>⟨-1,_,rfl,by omega,by omega,.inl ⟨rfl,fun j h1 h2=>by omega⟩,hx0⟩,?_⟩
 rintro av tv wv1 hs3 ⟨a,t,he2,ht0,ht1,hcond,hxw⟩;simp only [List.cons.injEq,Value.int.injEq,true_and,and_true] at he2;obtain ⟨rfl,rfl⟩:=he2;have hK1:=hK.step hxw;have hr1:=hK1.rd;refine ⟨fun hlt => ?_,fun hge => ?_⟩
 ·have hlt:=of_decide_eq_true hlt;have e:((tv.toNat:Nat):Int)=tv:=by omega
  have hst:Ts W tv.toNat=((Q8 W tv).state==0):=by unfold Ts; rw [e]
  refine ⟨hr1.t.ix QJ hlt (by omega),_,hr1.t.f hlt (by omega) (j:=0) rfl,fun g3=>⟨⟨by omega,by omega⟩,fun wr5 hx5 _=>⟨⟨tv,tv - 1,rfl,by omega,by omega,.inr ⟨by omega,ht1,by rw [hst]; exact g3,fun j h1 h2=>by omega⟩,hxw.trans hx5⟩,?_⟩⟩,fun g3=>⟨⟨by omega,by omega⟩,fun wr6 hx6 _=>⟨⟨av,tv - 1,rfl,by omega,by omega,?_,hxw.trans hx6⟩,?_⟩⟩⟩
  ·simp only [Yf,List.getElem?_cons_zero,List.getElem?_cons_succ]; omega
  ·have g3:Ts W tv.toNat=false:=by rw [hst]; exact g3
   have one:∀j:Nat,tv - 1<(j:Int)->¬tv<(j:Int)->Ts W j=false:=fun j h1 h2=>by
    have:j=tv.toNat:=by omega
    rw [this]; exact g3
   rcases hcond with ⟨h1,h2⟩ | ⟨h1,h2,h3,h4⟩
   ·exact .inl ⟨h1,fun j j1 j2=>if h:tv<(j:Int) then h2 j h j2 else one j j1 h⟩
   ·exact .inr ⟨by omega,h2,h3,fun j j1 j2=>if h:tv<(j:Int) then h4 j h j2 else one j j1 h⟩
  ·simp only [Yf,List.getElem?_cons_zero,List.getElem?_cons_succ]; omega
 ·have hge:=of_decide_eq_false hge;have ht:tv = -1:=by omega
  subst ht
  have hfree:av=Us W:=by
   rcases hcond with ⟨h1,h2⟩ | ⟨h1,h2,h3,h4⟩
   ·rw [h1]; exact (zd4 fun j hj=>h2 j (by omega) hj).symm
   ·exact (zd3 (by omega) h2 h3 fun j hj=>h4 j (by omega) hj).symm
  subst hfree;refine ⟨fun g4 wr7 hx7 => ?_,fun g4=>⟨fun g5 wr8 hx8 => ?_,fun g5 => ?_⟩⟩
  ·have g4:=of_decide_eq_true g4;have hb:Tq W g n x=3:=by unfold Tq; rw [if_neg n1,if_neg n2,if_pos g4]
   exact VE.no hW (by rw [hb]; decide) (hK1.step hx7) hb
  ·have g4:=of_decide_eq_false g4;have hr0:¬QB W=true:=fun hr=>by rw [if_pos hr] at g5; simp at g5
   have hb:Tq W g n x=10:=by unfold Tq; rw [if_neg n1,if_neg n2,if_neg g4,if_pos (by simpa using hr0)]
   rw [if_neg hr0];exact VE.no hW (by rw [hb]; decide) (hK1.step hx8) hb
  have g4:=of_decide_eq_false g4;have hr0:QB W=true:=Decidable.byContradiction fun hr=>by rw [if_neg hr] at g5; simp at g5
  have hb:Tq W g n x=0:=by unfold Tq; rw [if_neg n1,if_neg n2,if_neg g4,if_neg (by rw [hr0]; decide)]
  have hf:=zd2 hW hb;obtain ⟨u0,u1,_⟩:=Q4.1 hu;have hsl:=wp.a.sl hu;have c0:=hf.c0;have c1:=hf.c1;have f0:=hf.f0;have f1:=hf.f1;have hset:Wk 8 [y,y1] w (sto wv1 m'.tO (Int.toNat (Us W)*9) (Yz (Py W g n x))) (setTk W (Us W) (Py W g n x)) m':=hK1.sto (hK1.own.stoT f0 (by rw [htl]; exact f1) (j:=0) (vs:=Yz (Py W g n x)) (x:=Py W g n x) (by simp [Yz]) (by simp [Yz])) MD;refine ⟨_,X9 hr1 wp.a.c2 wp.a.tree hu,_,P9 hr1 wp.a (zin wp),hr1.g.ix u0 u1,_,_,_,hr1.g.shelf u0 u1,(hr1.g.shelves g u0 u1).ix ZK c0 (by rw [hsl]; exact c1),(Qc W g (P5 W g x)).floor,zbq.f (hr1.g.shelves g u0 u1) c0 (by rw [hsl]; exact c1) (j:=0) rfl,hr1.t.ix QJ f0 (by rw [htl]; exact f1),CS hK1.own hK1.nb f0 (by rw [htl]; exact f1) (j:=0) (k:=9) (by decide),fun wr9 hx9 hs9 => ?_⟩;have e5:Qa (setTk W (Us W) (Py W g n x)) m'=Qa W m':=Lh _ _ _ _;have hK4:=hset.step hx9;have hcall2:=Zg hK4.own c0 (show P5 W g x<((setTk W (Us W) (Py W g n x)).cpus.length:Int) from c1);rw [e5] at hcall2;refine Calls.mono hcall2 ?_;rintro e2 wv2 ⟨he2,hy4⟩;refine ⟨_,_,_,_,_,_,_,_,_,_,he2,hK4.kept hy4 hs9,fun wr10 hx10 hs10 => ?_⟩;have hK7:=(hK4.deed hy4 hs9).step hx10;have hcall3:=Qm hK7.own (hf.sw2.endW c0 c1) (by decide) (by decide) hK7.base;refine Calls.mono hcall3 ?_;rintro e3 wv3 ⟨m2,he3,hy5⟩;exact ⟨_,_,_,_,_,_,_,_,_,_,he3,hK7.kept hy5 hs10,fun wr8 hx8=>VE.ok hW hb ((hK7.deed hy5 hs10).step hx8)⟩
end
section
variable {base pb:Nat} {W W':Q7} {m:MW} {w:World}
end
structure Xn (W:Q7):Prop where
 wp:XG W
 fl:zph W
theorem Ze {K:Int} {W:Q7} (sw:SW K W) (hK:0<=K) (hK2:K+U1<=100000000000000000) (p:UE W) (hl:En W):Xn (Qg W):=by
 obtain ⟨a,b⟩:=B2 sw hK hK2 p hl;exact ⟨a,b⟩
theorem En.endW {W:Q7} (h:En W) (c:Int):En (endW W c):=(Mm W c).loc rfl h
theorem En.setTk {W:Q7} (h:En W) (ha:WA W) {t:Int} (t0:0<=t) (t1:t<12) {x:Oi} (hx:x.state≠0->Z5 (Qq W x.group x.mask) x.cpu=true):En (setTk W t x):=fun i i0 i1 n=>by
 have hl:=ha.t;have e:Q8 (Go.Proofs.YtclpmgfpjeaibaaGreat.setTk W t x) i=if t=i then x else Q8 W i:=Qt _ _ t0 (by omega) i0;rw [e] at n ⊢;rw [(zc9 W t x).wh]
 split at n
 ·rename_i he;rw [if_pos he]; exact hx n
 ·rename_i he;rw [if_neg he]; exact h i i0 i1 n
theorem zkq (W:Q7) (t c:Int) (x:Oi):endW (setTk W t x) c=setTk (endW W c) t x:=rfl
theorem Vn {W:Q7} (p:UE W) {t:Int} (t0:0<=t) (t1:t<12) (n:(Q8 W t).state≠0):KI W (Q8 W t):=by
 rcases p.t t t0 t1 with h | h
 ·exact absurd h.1 n
 ·exact h.2
theorem zfw {W:Q7} {t:Int} (hW:QG W=true) (hb:UM W t=0):Xn (zbw W t):=by
 have wp:=Qn.1 hW;obtain ⟨h1,h2,sw,sw2⟩:=CV hW hb;obtain ⟨t0,t1,n⟩:=Yl h1;have hl:=wp.a.t;have p:=YI wp;have h:=Vn p t0 (by omega) n;have hloc:=Jm wp;refine Ze sw2 (by decide) (by decide) (p.setTk t0 (by omega) (.inr ⟨by show (2:Int)≠0; decide,⟨.inr rfl,h.g,h.n,h.m,h.m0,h.s,h.u,h.l1,h.l2,fun h=>by cases h⟩,p.l t t0 (by omega) n⟩) fun c c0 c1 _ hs _=>by cases hs) (hloc.setTk wp.a t0 (by omega) fun _=>hloc t t0 (by omega) n)
theorem zib {W:Q7} {t:Int} (hW:QG W=true) (hb:VS W t=0):Xn (F3 W t):=by
 have wp:=Qn.1 hW;obtain ⟨h1,_,sw,_,sw2⟩:=C0 hW hb;obtain ⟨t0,t1,n⟩:=Yl h1;have hl:=wp.a.t;have p:=YI wp;obtain ⟨c0,c1⟩:=p.l t t0 (by omega) n
 have key:UE (QK W t)/\En (QK W t):=by
  unfold QK;split
  ·exact ⟨p.endW c0 c1,(Jm wp).endW _⟩
  ·exact ⟨p,Jm wp⟩
 exact Ze sw2 (by decide) (by decide) (key.1.setTk t0 (by omega) (.inl ⟨rfl,rfl⟩) fun c c0 c1 _ hs _=>by cases hs) (key.2.setTk key.1.a t0 (by omega) fun h=>absurd rfl h)
theorem Eg {W:Q7} (p:UE W) {t c:Int} (t0:0<=t) (t1:t<12) {x:Oi} (n:x.state≠0) (hx:KI W x) (hc:x.cpu=c) (c0:0<=c) (c1:c<(W.cpus.length:Int)):UE (endW (setTk W t x) c):=by
 rw [zkq];have hl:(endW W c).cpus.length=W.cpus.length:=List.length_set;refine (p.endW c0 c1).setTk t0 t1 (.inr ⟨n,⟨hx.st,hx.g,hx.n,hx.m,hx.m0,hx.s,hx.u,hx.l1,hx.l2,hx.f⟩,by rw [hl,hc]; exact ⟨c0,c1⟩⟩) fun d d0 d1 hcur _ hd => ?_
 rw [hc] at hd;subst hd;have e1:gi (endW W c).cpus c=X0 (gi W.cpus c):=(Qt _ _ c0 c1 c0).trans (if_pos rfl);rw [e1] at hcur;have hcur:(-1:Int)=t:=hcur;omega
theorem zny (f v w:Int):f<=f+YH (v - f) w/\f+YH (v - f) w - f<=Zs w:=by
 have:=ZF (v - f) w;omega
theorem zid {W:Q7} {t n:Int} (hW:QG W=true) (hb:TA W t n=0):Xn (MU W t n):=by
 have wp:=Qn.1 hW;have hq:=zen hW hb;obtain ⟨t0,t1,tn⟩:=Yl hq.th;have hl:=wp.a.t;have p:=YI wp;have hw:Qd n≠0:=fun h=>by unfold TA at hb; rw [if_pos h] at hb; cases hb
 have h:=Vn p t0 (by omega) tn;obtain ⟨c0,c1⟩:=p.l t t0 (by omega) tn;have hloc:=Jm wp;have hL:En (setTk W t (Xc W t n)):=hloc.setTk wp.a t0 (by omega) fun _=>hloc t t0 (by omega) tn
 have hT:KI W (Xc W t n):=⟨h.st,h.g,hw,h.m,h.m0,h.s,h.u,h.l1,h.l2,fun hs=>by
  have hs:(Q8 W t).state=1:=hs;rw [zem hs];exact zny _ _ _⟩
 have hK:K1+U1<=100000000000000000:=by simp only [K1,Qj,U1]; decide
 have hK0:0<=K1:=by simp only [K1,Qj]; decide
 unfold MU;split
 ·rename_i hs
  have hlv:QK (setTk W t (Xc W t n)) t=if (gi W.cpus (Q8 W t).cpu).cur=t then endW (setTk W t (Xc W t n)) (Q8 W t).cpu else setTk W t (Xc W t n):=by
   unfold QK;rw [Hi t0 t1]; rfl
  have s2:=hq.s2;rw [hlv] at s2 ⊢;split
  ·rename_i hcur;rw [if_pos hcur] at s2;exact Ze s2 hK0 hK (Eg p t0 (by omega) tn hT rfl c0 c1) (hL.endW _)
  ·rename_i hcur;rw [if_neg hcur] at s2;refine Ze s2 hK0 hK (p.setTk t0 (by omega) (.inr ⟨tn,hT,c0,c1⟩) fun d d0 d1 hd _ hx => ?_) hL;have hx:(Q8 W t).cpu=d:=hx;rw [hx] at hcur;exact absurd hd hcur
 ·rename_i hs;exact Ze hq.s1 hK0 hK (p.setTk t0 (by omega) (.inr ⟨tn,hT,c0,c1⟩) fun d d0 d1 hd hx _=>absurd hx hs) hL
theorem zif {W:Q7} {t:Int} (hW:QG W=true) (hb:ON W t=0):Xn (Bc W t):=by
 have wp:=Qn.1 hW;obtain ⟨h1,h2,_,sf,c0,c1⟩:=ze9 hW hb;obtain ⟨t0,t1,tn⟩:=Yl h1;have hl:=wp.a.t;have p:=YI wp;have h:=Vn p t0 (by omega) tn;have hloc:=Jm wp
 have hT:KI W (UD W t (TM W t)):=⟨.inl rfl,h.g,h.n,h.m,h.m0,h.s,h.u,h.l1,h.l2,fun _=>by
  have:=ZF ((Q8 W t).v - (Qc W (Q8 W t).group (Q8 W t).cpu).floor) (Qd (Q8 W t).nice);show (Qc W (Q8 W t).group (TM W t)).floor<=(Qc W (Q8 W t).group (TM W t)).floor+GF W t/\(Qc W (Q8 W t).group (TM W t)).floor+GF W t - (Qc W (Q8 W t).group (TM W t)).floor<=Zs (Qd (Q8 W t).nice);unfold GF;exact ⟨by omega,by omega⟩⟩
 have hwh:Z5 (Qq W (Q8 W t).group (Q8 W t).mask) (TM W t)=true:=by
  unfold TM;split
  ·exact (Mj wp.a _ _).2.2
  ·exact hloc t t0 (by omega) tn
 exact Ze ((CN sf t0 t1 tn c0 c1).endW c0 c1).w (by simp only [Qj]; decide) (by simp only [Qj,U1]; decide) (Eg p t0 (by omega) (show (1:Int)≠0 by decide) hT rfl c0 c1) ((hloc.setTk wp.a t0 (by omega) (x:=UD W t (TM W t)) fun _=>hwh).endW _)
def L3 (l u:Int):Int:=if X3 l 0 8000000=true/\X3 u 0 1000000=true then l - Int.tdiv l 8+u else 0
def BP (x:Oi):Oi:={ x with used:=0,load:=ZL (L3 x.load (ZL x.used 1000000)) 8000000 }
def VH (W:Q7):Nat->Q7
 | 0=>W
 | t+1=>setTk (VH W t) (t:Int) (BP (Q8 (VH W t) (t:Int)))
def PK (next p now:Int):Nat->Int
 | 0=>next
 | i+1=>if PK next p now i<=now+((i:Int)+1) then PK next p now i+p else PK next p now i
structure zg9 (next p now v:Int):Prop where
 gt:now<v
 at':∃j:Nat,v=next+p*(j:Int)/\(j=0\/v - p<=now)
theorem Kq {next p now:Int} (hp:1<=p) (hn:now<next):∀i:Nat,zg9 next p (now+(i:Int)) (PK next p now i)
 | 0=>⟨by simp only [PK]; omega,0,by simp only [PK]; omega,.inl rfl⟩
 | i+1=>by
  obtain ⟨h1,j,h2,h3⟩:=Kq hp hn i;simp only [PK]
  push_cast
  split
  ·refine ⟨by omega,j+1,?_,.inr (by omega)⟩;rw [h2]; push_cast; rw [Int.mul_add,Int.mul_one,Int.add_assoc]
  ·exact ⟨by omega,j,h2,h3.imp id fun h=>by omega⟩
theorem zlc {next p now v v':Int} (hp:1<=p) (h:zg9 next p now v) (h':zg9 next p now v'):v=v':=by
 obtain ⟨h1,j,h2,h3⟩:=h;obtain ⟨k1,k,k2,k3⟩:=h'
 have key:∀a b:Nat,a<b->p*(a:Int)+p<=p*(b:Int):=fun a b hab=>by
  have:p*((a:Int)+1)<=p*(b:Int):=Int.mul_le_mul_of_nonneg_left (by omega) (by omega);rw [Int.mul_add,Int.mul_one] at this;exact this
 rcases Nat.lt_trichotomy j k with h | h | h
 ·have:=key j k h; omega
 ·subst h; omega
 ·have:=key k j h; omega
def YV (now:Int) (n:Nat) (G:Z0):Z0:=if (G.used&&(G.band.quota != 0))=true/\G.next<=now+(n:Int) then { G with next:=PK G.next G.period now n,band:=Jg G.band } else G
theorem zcp {now:Int} {G:Z0} (h:G.band.quota≠0->now<G.next):YV now 0 G=G:=by
 unfold YV;rw [if_neg];rintro ⟨h1,h2⟩;simp only [Bool.and_eq_true,bne_iff_ne,ne_eq] at h1;have:=h h1.2;simp at h2;omega
def Ux (W:Q7) (n:Nat):Nat->Q7
 | 0=>{ W with now:=W.now+(n:Int) }
 | k+1=>setGr (Ux W n k) (k:Int) (YV W.now n (gi W.groups (k:Int)))
def Zr (W:Q7) (n:Nat):Q7:=Ux W n 8
noncomputable def PW (W:Q7) (n:Int):Int:=if X3 n 1 1000=false then 1 else if QB W=false then 10 else 0
def zbi (W:Q7) (n:Int):Q7:=Qg (VH (Zr W n.toNat) 12)
theorem Mh (now:Int) (n:Nat) (G:Z0):(YV now n G).used=G.used/\(YV now n G).parent=G.parent/\(YV now n G).name=G.name/\(YV now n G).shelves=G.shelves/\(YV now n G).weight=G.weight/\(YV now n G).cpus=G.cpus/\(YV now n G).sum=G.sum/\(YV now n G).period=G.period/\(YV now n G).band.quota=G.band.quota:=by
 unfold YV; split <;> exact ⟨rfl,rfl,rfl,rfl,rfl,rfl,rfl,rfl,rfl⟩
theorem Vd (W:Q7) (n:Nat):∀k:Nat,(Ux W n k).groups.length=W.groups.length/\(Ux W n k).now=W.now+(n:Int)/\(Ux W n k).cpus=W.cpus/\(Ux W n k).tasks=W.tasks
 | 0=>⟨rfl,rfl,rfl,rfl⟩
 | k+1=>by
  obtain ⟨a,b,c,d⟩:=Vd W n k;exact ⟨by show (List.set _ _ _).length=_; rw [List.length_set]; exact a,b,c,d⟩
theorem OG (W:Q7) (n:Nat):∀k:Nat,k<=W.groups.length->∀i:Int,0<=i->gi (Ux W n k).groups i=if i<(k:Int) then YV W.now n (gi W.groups i) else gi W.groups i
 | 0,_,i,i0=>by rw [if_neg (by omega)]; rfl
 | k+1,hk,i,i0=>by
  have ih:=OG W n k (by omega) i i0;have hl:=(Vd W n k).1;show gi (setGr (Ux W n k) (k:Int) _).groups i=_;rw [Y4 (by omega) (by omega) i0]
  by_cases e:(k:Int)=i
  ·subst e;rw [if_pos rfl,if_pos (by omega)]
  ·rw [if_neg e,ih]
   by_cases h:i<(k:Int)
   ·rw [if_pos h,if_pos (by omega)]
   ·rw [if_neg h,if_neg (by omega)]
theorem zdy (W:Q7):∀k:Nat,(VH W k).groups=W.groups/\(VH W k).now=W.now/\(VH W k).cpus=W.cpus/\(VH W k).tasks.length=W.tasks.length
 | 0=>⟨rfl,rfl,rfl,rfl⟩
 | k+1=>by
  obtain ⟨a,b,c,d⟩:=zdy W k;exact ⟨a,b,c,by show (List.set _ _ _).length=_; rw [List.length_set]; exact d⟩
theorem zdz {K:Int} {W:Q7} (h:SW K W):∀k:Nat,k<=12->SW K (VH W k)
 | 0,_=>h
 | k+1,hk=>by
  have ih:=zdz h k (by omega);have hv:=ih.tv (k:Int) (by omega) (by omega);exact ih.setTk (by omega) (by omega) (x:=BP (Q8 (VH W k) (k:Int))) (fun hs=>ih.t (k:Int) (by omega) (by omega) hs) hv.1 hv.2
theorem y7 {b:XS} (h:VF b):VF (Jg b)/\(Jg b).locals.length=b.locals.length:=by
 have hd:=h.dl;refine ⟨⟨h.q1,h.q2,by simp only [Jg,List.length_replicate]; have:=h.l1; omega,by simp only [Jg,List.length_replicate]; have:=h.l2; omega,by simp [Jg],by simp only [Jg]; have:=h.q1; omega,Int.le_refl _,by simp [Jg],by simp only [Jg]; have:=h.q1; omega,fun c c0 c1 => ?_,?_⟩,by simp [Jg,hd]⟩
 ·simp only [Jg,List.length_replicate] at c1 ⊢;rw [VO _ _ c0 c1,VO _ _ c0 c1];have:=h.q1;exact ⟨Int.le_refl _,by omega,fun h=>by cases h⟩
 ·simp only [Jg,List.length_replicate];rw [He _ _ (Nat.le_refl _)]; omega
theorem zi7 {W W':Q7} {n:Nat} {k:Int} {G:Z0} (hg:zbr W k G) (hu:G.used=true) (hn:W'.now=W.now+(n:Int)) (hc:W'.cpus.length=W.cpus.length):zbr W' k (YV W.now n G):=by
 obtain ⟨_,_,_,u4,u5,u6,u7,u8,u9⟩:=Mh W.now n G;refine ⟨by rw [u5]; exact hg.w1,by rw [u5]; exact hg.w2,by rw [u6]; exact hg.m,by rw [u6]; exact hg.m0,by rw [u7]; exact hg.s,by rw [u4,hc]; exact hg.len,fun h=>by rw [u5,u6,u9]; exact hg.root h,fun hq => ?_,fun hq => ?_⟩
 ·rw [u9] at hq
  have:YV W.now n G=G:=by
   unfold YV;rw [if_neg];rintro ⟨h1,_⟩;simp only [Bool.and_eq_true,bne_iff_ne,ne_eq] at h1;exact h1.2 hq
  rw [this];exact hg.none hq
 ·rw [u9] at hq;obtain ⟨b1,b2,b3,b4,b5,b6⟩:=hg.band hq;rw [hn,hc];unfold YV;split
  ·obtain ⟨f1,f2⟩:=y7 b1;have hj:=Kq b3 b5 n;refine ⟨f1,by show (Jg G.band).locals.length=_; rw [f2]; exact b2,b3,b4,hj.gt,?_⟩;obtain ⟨h1,j,h2,h3⟩:=hj;show PK G.next G.period W.now n - (W.now+(n:Int))<=G.period;rcases h3 with rfl | h3
   ·simp at h2; omega
   ·omega
  ·rename_i hcnd;have hlt:W.now+(n:Int)<G.next:=Int.not_le.1 fun hle=>hcnd ⟨by rw [hu]; simpa using hq,hle⟩
   exact ⟨b1,b2,b3,b4,hlt,by omega⟩
theorem Kt (W:Q7) (n:Nat):∀k:Nat,k<=W.groups.length->QM W.groups (Ux W n k).groups
 | 0,_=>QM.refl _
 | k+1,hk=>by
  have ih:=Kt W n k (by omega);have hl:=(Vd W n k).1;have e:=OG W n k (by omega) (k:Int) (by omega);rw [if_neg (by omega)] at e;obtain ⟨u1,u2,u3,_⟩:=Mh W.now n (gi W.groups (k:Int));exact ih.trans (XF (W:=Ux W n k) (g:=(k:Int)) (x:=YV W.now n (gi W.groups (k:Int))) (by omega) (by omega) (by rw [u1,e]) (by rw [u2,e]) (by rw [u3,e]))
theorem zi8 {K:Int} {W:Q7} {n:Nat} (h:SW K W) (h1:W.now+(n:Int)<=100000000000000000):SW K (Zr W n):=by
 have hl:=h.a.gl;have hT:=Kt W n 8 (by omega);obtain ⟨l1,l2,l3,l4⟩:=Vd W n 8
 have e:∀i:Int,0<=i->i<8->gi (Zr W n).groups i=YV W.now n (gi W.groups i):=fun i a b=>by
  have:=OG W n 8 (by omega) i a
  rwa [if_pos (show i<((8:Nat):Int) by omega)] at this
 have n1:=h.a.n1;have et:∀t:Int,Q8 (Zr W n) t=Q8 W t:=fun t=>by unfold Q8; rw [show (Zr W n).tasks=W.tasks from l4]
 have ec:(Zr W n).cpus=W.cpus:=l3;have hT:QM W.groups (Zr W n).groups:=hT;refine ⟨⟨by rw [show (Zr W n).now=_ from l2]; omega,by rw [show (Zr W n).now=_ from l2]; exact h1,by rw [ec]; exact h.a.c1,by rw [ec]; exact h.a.c2,by rw [show (Zr W n).tasks=W.tasks from l4]; exact h.a.t,hT.tree h.a.tree,by rw [ec]; exact h.a.ups,fun k a b => ?_⟩,fun t a b hs => ?_,fun t a b => ?_,fun k c u a b => ?_,fun c a b => ?_⟩
 ·have hg:=h.a.grp k a b;obtain ⟨u1,u2,u3,u4,u5,u6,u7,u8,u9⟩:=Mh W.now n (gi W.groups k);unfold HB;rw [e k a b];refine ⟨fun hu => ?_,fun hu => ?_⟩
  ·rw [u1] at hu
   have:YV W.now n (gi W.groups k)=gi W.groups k:=by
    unfold YV;rw [if_neg];rintro ⟨h1,_⟩;rw [hu] at h1;cases h1
   rw [this];exact hg.1 hu
  ·rw [u1] at hu;exact zi7 (hg.2 hu) hu l2 (by rw [ec])
 ·rw [et] at hs ⊢;rw [hT.usd,ec];exact h.t t a b hs
 ·rw [et]; exact h.tv t a b
 ·rw [hT.usd] at u;rw [ec] at b;have hk:=Q4.1 u
  have:Qc (Zr W n) k c=Qc W k c:=by
   unfold Qc;rw [e k hk.1 (by omega),(Mh W.now n (gi W.groups k)).2.2.2.1]
  rw [this];exact h.s k c u a b
 ·rw [ec] at b ⊢;exact h.cu c a b
theorem zn7 {W:Q7} (ha:WA W):Zr W 0=W:=by
 have hl:=ha.gl;obtain ⟨l1,l2,l3,l4⟩:=Vd W 0 8
 have hg:(Zr W 0).groups=W.groups:=zh2 l1 fun k hk=>by
  have hk8:k<8:=by have:(Zr W 0).groups.length=W.groups.length:=l1; omega
  have:=OG W 0 8 (by omega) (k:Int) (by omega);rw [if_pos (by omega)] at this;refine this.trans (zcp fun hq => ?_);have hgp:=ha.grp (k:Int) (by omega) (by omega)
  cases hu:(gi W.groups (k:Int)).used with
  | true=>exact ((hgp.2 hu).band hq).2.2.2.2.1
  | false=>
   have:=(hgp.1 hu).b;exact absurd (by unfold TB at this; simp only [Bool.and_eq_true,beq_iff_eq] at this; exact this.1.1.1.1) hq
 have h2:(Zr W 0).now=W.now:=by rw [show (Zr W 0).now=_ from l2]; simp
 have h3:(Zr W 0).cpus=W.cpus:=l3;have h4:(Zr W 0).tasks=W.tasks:=l4;generalize Zr W 0=V at hg h2 h3 h4;cases V;cases W;simp only at hg h2 h3 h4;subst hg; subst h2; subst h3; subst h4;rfl
theorem ze5 {W:Q7} {n:Int} (hW:QG W=true) (hb:PW W n=0):X3 n 1 1000=true/\QB W=true/\SW Ql W/\W.now<=Ql/\SW Ql (Zr W n.toNat)/\SW Ql (VH (Zr W n.toNat) 12):=by
 have wp:=Qn.1 hW;unfold PW at hb
 split at hb
 ·cases hb
 ·rename_i h1
  split at hb
  ·cases hb
  ·rename_i h3;have h1:X3 n 1 1000=true:=by simpa using h1
   have h3:QB W=true:=by simpa using h3
   have hr:=Qn.1 h3;have sw:=TI wp hr;have hn:=hr.n;have hi:=Qx.1 h1;have hh:Ql=50000000000000000:=rfl;have s1:=zi8 (n:=n.toNat) sw (by omega);exact ⟨h1,h3,sw,hn,s1,zdz s1 12 (Nat.le_refl _)⟩
section
variable {W W':Q7} {m:MW} {w:World} {bar:Int}
theorem zki {l u:Int} (h1:X3 l 0 8000000=true) (h2:X3 u 0 1000000=true):0<=Int.tdiv l 8/\Int.tdiv l 8<=l:=by
 have:=Qx.1 h1;rw [Int.tdiv_eq_ediv_of_nonneg this.1];omega
theorem Gy {bs:List Nat} {l u:Int}:PX bs Ui #[.int .i64 l,.int .i64 u] w (.int .i64 (L3 l u)):=
 GW l u fun wr hx=>⟨_,Qi,_,fun _=>Qi,fun g=>(by
  unfold L3;rw [if_neg];rintro ⟨h1,h2⟩;rw [h1,h2] at g
  cases g),fun g=>by
  have h1:X3 l 0 8000000=true:=by cases h:X3 l 0 8000000 <;> simp_all
  have h2:X3 u 0 1000000=true:=by cases h:X3 u 0 1000000 <;> simp_all
  have hb:=zki h1 h2;have i1:=Qx.1 h1;have i2:=Qx.1 h2;refine ⟨⟨by decide,by omega,by omega⟩,⟨by omega,by omega⟩,⟨by omega,by omega⟩,?_⟩;unfold L3;rw [if_pos ⟨h1,h2⟩]⟩
theorem zc3 {W:Q7} {k:Int} (h0:0<=k) (h1:k<(W.groups.length:Int)):setGr W k (gi W.groups k)=W:=by
 unfold setGr;rw [za7 h0 h1]
set_option maxHeartbeats 1000000 in
theorem DE {n:Int} (h:Xo [] w W m) (hl:X4 W) :
  Cz UW #[.agg (Qa W m).toArray,.int .i64 n] w fun e w'=>∃v,e = .returned v/\Qy (YZ W (PW W n) (zbi W n)) w v w':=by
 refine Di W.now m.cO W.cpus.length m.cC m.tO W.tasks.length m.tC m.gO W.groups.length m.gC n (R:=fun v w'=>Qy (YZ W (PW W n) (zbi W n)) w v w') ?_;intro x hx x1 hx1 wr hx2 hs2;refine Calls.mono (QW (h.ext hx2) hl) ?_;rintro e wv (⟨hW,he,hy⟩ | ⟨hW,m',he,hM,hy⟩)
 ·exact ⟨_,_,_,_,_,_,_,_,_,_,_,he,Qf hy hs2,false,fun g=>by simp at g,fun _ wr1 hx3=>Qy.bad hW ((hx2.trans hy).fresh hx3 fun y hm=>.inl (Yd hx hx1 y hm)),fun g=>by simp at g⟩
 have hK:=Wk.begin hx hx1 hx2 hs2 hM hy;have hc1:((if QB W=true then 0 else 10:Int)==1)=false:=by split <;> rfl
 refine ⟨_,_,_,_,_,_,_,_,_,_,_,he,Qf hy hs2,_,fun _=>Qi,fun g wr1 hx3 => ?_,fun g=>⟨fun g3 wr2 hx3 => ?_,fun g3 => ?_⟩⟩
 ·rw [hc1] at g;have g:X3 n 1 1000=false:=by simpa using g
  have hb:PW W n=1:=by unfold PW; rw [if_pos g]
  exact Qy.no hW (by rw [hb]; decide) (hK.step hx3) hb
 ·rw [hc1] at g;have g:X3 n 1 1000=true:=by simpa using g
  have hr0:¬QB W=true:=fun hr=>by rw [if_pos hr] at g3; simp at g3
  have hb:PW W n=10:=by unfold PW; rw [if_neg (by rw [g]; decide),if_pos (by simpa using hr0)]
  rw [if_neg hr0];exact Qy.no hW (by rw [hb]; decide) (hK.step hx3) hb
 rw [hc1] at g;have g:X3 n 1 1000=true:=by simpa using g
 have hr0:QB W=true:=Decidable.byContradiction fun hr=>by rw [if_neg hr] at g3; simp at g3
 have hb:PW W n=0:=by unfold PW; rw [if_neg (by rw [g]; decide),if_neg (by rw [hr0]; decide)]
 obtain ⟨_,_,sw,hnow,sp,sd⟩:=ze5 hW hb;have hn:=Qx.1 g;obtain ⟨N,rfl⟩:=Int.eq_ofNat_of_zero_le (show 0<=n by omega);have hE:zbi W (N:Int)=Qg (VH (Zr W N) 12):=by unfold zbi; rw [Int.toNat_natCast]
 rw [Int.toNat_natCast] at sp sd;rw [hE];have hgl:=sw.a.gl;have htl:=sw.a.t;have hn1:=sw.a.n1;have hh:Ql=50000000000000000:=rfl;refine ⟨⟨by omega,by omega⟩,?_⟩;refine Vb W.groups.length 0 rfl (fun k w2=>k<=8/\∃m2,Wk 8 [x,x1] w w2 (Ux W N k) m2/\m2={ m' with ms:=m2.ms }) (fun w2 hx3 _=>⟨by decide,m',(show Wk 8 [x,x1] w wv (Ux W N 0) m' from ⟨hK.s,⟨⟨hK.own.c,hK.own.t,hK.own.g,hK.own.len⟩,hK.nb⟩⟩).step hx3,rfl⟩) fun k w2 hs3 ⟨hk8,m2,hK2,hd2⟩ => ?_
 obtain ⟨l1,l2,l3,l4⟩:=Vd W N k;have eG:=OG W N k (by omega) (k:Int) (by omega);rw [if_neg (by omega)] at eG;have hdef:Ux W N (k+1)=setGr (Ux W N k) (k:Int) (YV W.now N (gi W.groups (k:Int))):=rfl;have hend:k=8->Zr W N=Ux W N k:=fun e=>by rw [e]; rfl
 have hself:(k:Int)<(W.groups.length:Int)->setGr (Ux W N k) (k:Int) (gi W.groups (k:Int))=Ux W N k:=fun hlt=>by
  have:=zc3 (W:=Ux W N k) (k:=(k:Int)) (by omega) (by omega)
  rwa [eG] at this
 have emg:m2.gO=m'.gO:=by rw [hd2]
 have emc:m2.gC=m'.gC:=by rw [hd2]
 refine ⟨fun hlt => ?_,fun hge => ?_⟩
 ·have hlt:=of_decide_eq_true hlt;generalize Ux W N k=V at hK2 l1 l2 l3 l4 eG hdef hend hself;have hr:=hK2.rd;have hltV:(k:Int)<(V.groups.length:Int):=by omega
  have hix:Ix m'.gO W.groups.length (k:Int):=by have:=hr.g.ix (i:=(k:Int)) (by omega) hltV; rwa [l1,emg] at this
  have hcs:=hr.g.cells (k:Int) (by omega) hltV;rw [eG,emg] at hcs;refine ⟨hix,_,_,_,_,_,_,_,_,_,_,_,_,_,_,_,_,_,_,_,_,hcs,fun b2 hb2=>⟨fun g4=>⟨⟨by omega,by omega⟩,fun w3 hx3 _=>QN (by omega) ⟨by omega,m2,?_,hd2⟩⟩,fun g4 wr5 hx5 hs5 => ?_⟩⟩
  ·have:YV W.now N (gi W.groups (k:Int))=gi W.groups (k:Int):=by
    unfold YV;rw [if_neg];rintro ⟨a,b⟩;simp only [Bool.or_eq_true,Bool.not_eq_true',beq_iff_eq,decide_eq_true_eq] at g4;simp only [Bool.and_eq_true,bne_iff_ne,ne_eq] at a;rcases g4 with (h1 | h1) | h1
    ·rw [a.1] at h1; cases h1
    ·exact a.2 h1
    ·omega
   rw [hdef,this,hself hlt];exact hK2.step hx3
  ·simp only [Bool.or_eq_false_iff,Bool.not_eq_false',beq_eq_false_iff_ne,ne_eq,decide_eq_false_iff_not] at g4;obtain ⟨⟨hu,hq⟩,hdue⟩:=g4;have hgu:=(sw.a.grp (k:Int) (by omega) (by omega)).2 hu;obtain ⟨hbd,hbl,hp1,hp2,hnx,hnp⟩:=hgu.band hq
   have hP:YV W.now N (gi W.groups (k:Int))={ gi W.groups (k:Int) with next:=PK (gi W.groups (k:Int)).next (gi W.groups (k:Int)).period W.now N,band:=Jg (gi W.groups (k:Int)).band }:=by
    unfold YV;rw [if_pos ⟨by rw [hu]; simpa using hq,by omega⟩]
   have hJ:=Kq hp1 hnx N;have hK3:=(hK2.add hb2).step (hx5.mono fun y hy=>List.mem_append_left _ hy);have hr5:=hK3.o.rd0;have hLo:=hr5.g.locals (k:Int) (by omega) hltV;have hDo:=hr5.g.dry (k:Int) (by omega) hltV;rw [eG] at hLo hDo;refine Calls.mono (XB (op:=⟨4,0,0⟩) hbd hLo hDo) ?_;rintro e wv2 ⟨pb,he,hO,hy2⟩;have hbdE:Ym (gi W.groups (k:Int)).band ⟨4,0,0⟩=(Jg (gi W.groups (k:Int)).band,0):=by unfold Ym; rw [if_pos rfl]
   rw [hbdE] at he hO
   dsimp only at he hO
   refine ⟨_,_,_,_,_,_,_,_,_,_,he,Qf hy2 hs5,fun b3 hb3 => ?_⟩;have hK4:=(hK3.call0 hy2).add hb3
   have hOb:∀y∈Zz pb,y∉QF 8 m2/\y∉[x,x1]++[b2]++[b3]:=fun y hy=>by
    have:=hO.lt y hy;refine ⟨fun hm=>by have:=(hK3.own.lt y hm).2; omega,fun hm => ?_⟩;rcases List.mem_append.1 hm with h1 | h1
    ·have:=hs5 y h1; omega
    ·have:y=b3:=by simpa using h1
     omega
   have hO4:QQ w.heap.size wv2 (Jg (gi W.groups (k:Int)).band) pb:=hO.mono hK3.base;refine ⟨fun vs w'=>∃v:Int,vs=Yq { gi W.groups (k:Int) with next:=v,band:=Jg (gi W.groups (k:Int)).band } (TF (m2.ms k) pb)/\(∃j:Nat,v=(gi W.groups (k:Int)).next+(gi W.groups (k:Int)).period*(j:Int)/\(j=0\/v - (gi W.groups (k:Int)).period<=W.now+(N:Int)))/\0<=v/\Wk 8 ([x,x1]++[b2]++[b3]) w w' V m2/\QQ w.heap.size w' (Jg (gi W.groups (k:Int)).band) pb,fun vs _=>(W.now+(N:Int)+1 - Yf 6 vs).toNat,fun wr7 hx7 hs7=>⟨(gi W.groups (k:Int)).next,by simp [Yq,TF],⟨0,by simp,.inl rfl⟩,by omega,hK4.step (hx7.mono fun y hy=>List.mem_append_left _ hy),hO4.ext hx7 fun y hy hm=>(hOb y hy).2 (List.mem_append_left _ hm)⟩,?_⟩;rintro l0 a1 a2 a3 a4 a5 a6 a7 a8 a9 a10 a11O a11L a11C a12O a12L a12C a13O a13L a13C wv4 hs4 ⟨v,hv,hj,hv0,hK5,hO5⟩;simp only [Yq,Z2,List.cons_append,List.nil_append,List.cons.injEq,Value.bool.injEq,Value.int.injEq,Value.string.injEq,Value.slice.injEq,true_and,and_true] at hv;obtain ⟨rfl,rfl,rfl,rfl,rfl,rfl,rfl,rfl,rfl,rfl,rfl,⟨rfl,rfl,rfl⟩,⟨rfl,rfl,rfl⟩,rfl,rfl,rfl⟩:=hv;refine ⟨fun hle => ?_,fun hgt => ?_⟩
   ·have hle:=of_decide_eq_true hle;refine ⟨⟨by omega,by omega⟩,fun wr8 hx8 hs8=>⟨⟨a6+(gi W.groups (k:Int)).period,rfl,?_,by omega,hK5.step hx8,hO5.ext hx8 fun y hy=>(hOb y hy).2⟩,?_⟩⟩
    ·obtain ⟨j,h1,_⟩:=hj;exact ⟨j+1,by rw [h1]; push_cast; rw [Int.mul_add,Int.mul_one,Int.add_assoc],.inr (by omega)⟩
    ·show (_ - (a6+(gi W.groups (k:Int)).period)).toNat<(_ - a6).toNat;omega
   ·have hgt:=of_decide_eq_false hgt;have hv6:a6=PK (gi W.groups (k:Int)).next (gi W.groups (k:Int)).period W.now N:=zlc hp1 ⟨by omega,hj⟩ hJ;have hwr:=NB hK5.own hK5.nb (i:=(k:Int)) (by omega) (by omega) (j:=0) (k:=14) (by decide);rw [emg] at hwr;refine ⟨hix,hwr,⟨by omega,by omega⟩,fun wr9 hx9 hs9=>QN (by omega) ⟨by omega,T3 m2 k (TF (m2.ms k) pb),?_,by rw [hd2]; rfl⟩⟩;rw [hdef];have hK6:=hK5.gr (g:=(k:Int)) (by omega) (by omega) (G:=YV W.now N (gi W.groups (k:Int))) (p:=pb) (j:=0) (vs:=Yq (YV W.now N (gi W.groups (k:Int))) (TF (m2.ms k) pb)) (by rw [hP]; exact hO5) hOb (by rw [eG]; exact (Mh _ _ _).2.2.2.1) (by simp [Yq]) (by simp [Yq]);refine (hK6.step (w':=wr9) ?_).sub fun y hy=>List.mem_append_left _ (List.mem_append_left _ hy)
    rw [hP,<-hv6,emg];exact hx9
 ·have hge:=of_decide_eq_false hge;rw [<-hend (by omega)] at hK2 l1 l2 l3 l4;have emt:m2.tO=m'.tO:=by rw [hd2]
  refine Vb W.tasks.length 0 rfl (fun t w2=>t<=12/\Wk 8 [x,x1] w w2 (VH (Zr W N) t) m2) (fun w2 hx3 _=>⟨by decide,hK2.step hx3⟩) fun t w2 hs4 ⟨ht12,hK3⟩ => ?_
  obtain ⟨q1,q2,q3,q4⟩:=zdy (Zr W N) t;have hdef2:VH (Zr W N) (t+1)=setTk (VH (Zr W N) t) (t:Int) (BP (Q8 (VH (Zr W N) t) (t:Int))):=rfl;have hend2:t=12->VH (Zr W N) 12=VH (Zr W N) t:=fun e=>by rw [e]
  generalize hU:VH (Zr W N) t=U at hK3 q1 q2 q3 q4 hdef2 hend2;have hr:=hK3.rd;refine ⟨fun hlt => ?_,fun hge2 wr12 hx12 hs12 => ?_⟩
  ·have hlt:=of_decide_eq_true hlt;have t1:(t:Int)<(U.tasks.length:Int):=by rw [q4,l4]; exact hlt
   have hix:Ix m'.tO W.tasks.length (t:Int):=by have:=hr.t.ix QJ (i:=(t:Int)) (by omega) t1; rwa [q4,l4,emt] at this
   have hcs:=hr.t (t:Int) (by omega) t1;rw [emt] at hcs;have hwr:=CS hK3.own hK3.nb (i:=(t:Int)) (by omega) t1 (j:=0) (k:=9) (by decide);rw [emt] at hwr;refine ⟨hix,_,_,_,_,_,_,_,_,_,hcs,fun b4 hb4=>⟨_,Xu,_,Gy,_,Xu,hix,hwr,⟨by omega,by omega⟩,fun wr11 hx11 hs11=>QN (by omega) ⟨by omega,?_⟩⟩⟩;rw [hdef2];have hset:=hK3.own.stoT (i:=(t:Int)) (by omega) t1 (j:=0) (vs:=Yz (BP (Q8 U (t:Int)))) (x:=BP (Q8 U (t:Int))) (by simp [Yz]) (by simp [Yz]);have hK4:=hK3.sto hset MD;rw [emt] at hK4;exact hK4.step hx11
  ·have hge2:=of_decide_eq_false hge2;rw [hend2 (by omega)] at sd ⊢;have hK4:=hK3.step hx12;have hcall:=Qm hK4.own sd (by decide) (by decide) hK4.base
   have e5:Qa U m2=[.int .i64 (W.now+(N:Int)),.slice m'.cO W.cpus.length m'.cC,.slice m'.tO W.tasks.length m'.tC,.slice m'.gO W.groups.length m'.gC]:=by
    unfold Qa;rw [q2,q3,q4,q1,l1,l2,l3,l4,hd2]
   rw [e5] at hcall;refine Calls.mono hcall ?_;rintro e2 wv2 ⟨m3,he2,hy2⟩;exact ⟨_,_,_,_,_,_,_,_,_,_,he2,hK4.kept hy2 hs12,fun wr13 hx13=>Qy.ok hW hb ((hK4.deed hy2 hs12).step hx13)⟩
section
variable {base pb:Nat} {w0 w':World} {m0 m':MW}
end
end
theorem UE.same {W W':Q7} (p:UE W) (ha:WA W') (ht:W'.tasks=W.tasks) (hc:W'.cpus=W.cpus) (hT:QM W.groups W'.groups) (hs:∀k c:Int,Qc W' k c=Qc W k c):UE W':=by
 have est:∀k c:Int,U2 W' k c↔U2 W k c:=fun k c=>by
  unfold U2;rw [hT.p,hs,hs]
 refine ⟨⟨ha,fun t t0 t1 => ?_,fun t t0 t1 n=>by rw [Xf ht] at n ⊢; rw [hc]; exact p.l t t0 t1 n,fun k c hk c0 c1 => ?_⟩,fun c c0 c1 => ?_⟩
 ·rw [Xf ht];rcases p.t t t0 t1 with h | ⟨h1,h2⟩
  ·exact .inl h
  ·exact .inr ⟨h1,h2.st,by rw [hT.usd]; exact h2.g,h2.n,h2.m,h2.m0,h2.s,h2.u,h2.l1,h2.l2,fun h=>by rw [hs]; exact h2.f h⟩
 ·rw [hT.usd] at hk;rw [hc] at c1;exact (p.s k c hk c0 c1).cong (hs _ _) fun _=>by rw [hT.p,hs]
 ·rw [hc] at c1;have h:=p.c c c0 c1;refine ⟨by rw [hc]; exact h.b,by rw [hc]; exact h.i,by rw [hc]; exact h.c1,by rw [hc]; exact h.c2,by rw [hc]; exact h.no,by rw [hc]; exact h.yes,fun h0 h1 h2 => ?_⟩;rw [hc,Xf ht] at *;obtain ⟨q1,q2⟩:=h.q h0 h1 h2;refine ⟨by rw [hs]; exact q1,fun y hy => ?_⟩;rw [Uy hT] at hy;rw [est,hT.p,hs,hs];exact q2 y hy
theorem zmk {W W':Q7} (hT:QM W.groups W'.groups) (hm:∀i:Int,(gi W'.groups i).cpus=(gi W.groups i).cpus) (hu:Jo W'.cpus=Jo W.cpus) (g m:Int):Qq W' g m=Qq W g m:=by
 unfold Qq
 have hp:T2 W'.groups g (Jo W.cpus)=T2 W.groups g (Jo W.cpus):=by
  unfold T2;rw [show QT W'.groups g=QT W.groups g from hT.path 3 g]
  congr 1
  funext s x
  rw [hm]
 rw [hu,hp]
theorem En.same {W W':Q7} (h:En W) (ht:W'.tasks=W.tasks) (hT:QM W.groups W'.groups) (hm:∀i:Int,(gi W'.groups i).cpus=(gi W.groups i).cpus) (hu:Jo W'.cpus=Jo W.cpus):En W':=fun t t0 t1 n=>by
 rw [Xf ht] at n ⊢;rw [zmk hT hm hu];exact h t t0 t1 n
theorem zc5 {W:Q7} {g:Int} {x:Z0} (s:x.shelves=(gi W.groups g).shelves) (k c:Int):Qc (setGr W g x) k c=Qc W k c:=by
 unfold Qc;rw [show (gi (setGr W g x).groups k).shelves=(gi W.groups k).shelves from Yh (f:=Z0.shelves) _ _ s k]
theorem zk5 {W:Q7} {g q p:Int} (hW:QG W=true) (hb:zcg W g q p=0):Xn (zn0 W g q p):=by
 have wp:=Qn.1 hW;obtain ⟨hu,hz,_,_,sw,sw2⟩:=zio hW hb;obtain ⟨u0,u1,_⟩:=Q4.1 hu;have h:=Ce (W:=W) (g:=g) (q:=q) (p:=p);have hT:=XF (W:=W) (x:=Of W g q p) u0 u1 h.1 h.2.1 h.2.2.1;exact Ze sw2 (by decide) (by decide) ((YI wp).same sw2.a rfl rfl hT (zc5 h.2.2.2.1)) ((Jm wp).same rfl hT (fun i=>Yh (f:=Z0.cpus) _ _ h.2.2.2.2.2.1 i) rfl)
theorem zie {W:Q7} {n:Int} (hW:QG W=true) (hb:PW W n=0):Xn (zbi W n):=by
 have wp:=Qn.1 hW;obtain ⟨_,_,sw,_,sp,sd⟩:=ze5 hW hb;have hgl:=wp.a.gl;obtain ⟨l1,l2,l3,l4⟩:=Vd W n.toNat 8;have hT:QM W.groups (Zr W n.toNat).groups:=Kt W n.toNat 8 (by omega)
 have key:∀i:Int,(gi (Zr W n.toNat).groups i).shelves=(gi W.groups i).shelves/\(gi (Zr W n.toNat).groups i).cpus=(gi W.groups i).cpus:=fun i=>by
  have hu:=Mh W.now n.toNat (gi W.groups ((i.toNat:Nat):Int));have e:=OG W n.toNat 8 (by omega) ((i.toNat:Nat):Int) (by omega);rw [Fb (Zr W n.toNat).groups i,Fb W.groups i];unfold Zr;rw [e];split
  ·exact ⟨hu.2.2.2.1,hu.2.2.2.2.2.1⟩
  ·exact ⟨rfl,rfl⟩
 have p1:UE (Zr W n.toNat):=(YI wp).same sp.a l4 l3 hT fun k c=>by unfold Qc; rw [(key k).1]
 have q1:En (Zr W n.toNat):=(Jm wp).same l4 hT (fun i=>(key i).2) (by rw [show (Zr W n.toNat).cpus=W.cpus from l3])
 have all:∀k:Nat,k<=12->UE (VH (Zr W n.toNat) k)/\En (VH (Zr W n.toNat) k):=by
  intro k
  induction k with
  | zero=>exact fun _=>⟨p1,q1⟩
  | succ k ih=>
   intro hk;obtain ⟨a,b⟩:=ih (by omega);show UE (setTk (VH (Zr W n.toNat) k) (k:Int) (BP (Q8 (VH (Zr W n.toNat) k) (k:Int))))/\En (setTk (VH (Zr W n.toNat) k) (k:Int) (BP (Q8 (VH (Zr W n.toNat) k) (k:Int))));generalize VH (Zr W n.toNat) k=V at a b
   by_cases hs:(Q8 V (k:Int)).state=0
   ·have hz:Q8 V (k:Int)=TN:=by
     rcases a.t (k:Int) (by omega) (by omega) with h | h
     ·exact h.2
     ·exact absurd hs h.1
    rw [hz];have hd:BP TN=TN:=by decide
    rw [hd];exact ⟨a.setTk (by omega) (by omega) (.inl ⟨rfl,rfl⟩) fun c _ _ _ h _=>(by cases h),b.setTk a.a (by omega) (by omega) fun h=>absurd rfl h⟩
   ·have h:=Vn a (t:=(k:Int)) (by omega) (by omega) hs;have hlo:=a.l (k:Int) (by omega) (by omega) hs
    have hld:0<=(BP (Q8 V (k:Int))).load/\(BP (Q8 V (k:Int))).load<=8000000:=by
     have h1:=h.l1;have h2:=h.l2;have h3:=ZR.1 h.u
     have ht:0<=Int.tdiv (Q8 V (k:Int)).load 8/\Int.tdiv (Q8 V (k:Int)).load 8<=(Q8 V (k:Int)).load:=by
      rw [Int.tdiv_eq_ediv_of_nonneg h1];omega
     show 0<=ZL (L3 (Q8 V (k:Int)).load (ZL (Q8 V (k:Int)).used 1000000)) 8000000/\ZL (L3 (Q8 V (k:Int)).load (ZL (Q8 V (k:Int)).used 1000000)) 8000000<=8000000;have hm:0<=ZL (Q8 V (k:Int)).used 1000000:=by unfold ZL; split <;> omega
     have hbt:0<=L3 (Q8 V (k:Int)).load (ZL (Q8 V (k:Int)).used 1000000):=by unfold L3; split <;> omega
     generalize L3 (Q8 V (k:Int)).load (ZL (Q8 V (k:Int)).used 1000000)=y at hbt;unfold ZL
     split <;> omega
    refine ⟨a.setTk (by omega) (by omega) (.inr ⟨hs,⟨h.st,h.g,h.n,h.m,h.m0,h.s,by show XH 0=true; decide,hld.1,hld.2,h.f⟩,hlo⟩) fun c c0 c1 hcur h1 h2 => ?_,b.setTk a.a (by omega) (by omega) fun _=>b (k:Int) (by omega) (by omega) hs⟩;have hc:=(a.c c c0 c1).q (by rw [hcur]; omega);rw [hcur] at hc;exact hc h1 h2
 obtain ⟨p2,q2⟩:=all 12 (Nat.le_refl _);exact Ze sd (by decide) (by decide) p2 q2
theorem FW {W:Q7} (p:UE W) {t g c:Int} (t0:0<=t) (t1:t<12) (n:(Q8 W t).state≠0) (hg:Q6 W.groups g=true) (c0:0<=c) (c1:c<(W.cpus.length:Int)):UE (JZ W t g c):=by
 have h:=Vn p t0 t1 n
 have hT:KI W (Oh W t g c):=⟨h.st,hg,h.n,h.m,h.m0,h.s,h.u,h.l1,h.l2,fun _=>by
  have:=ZF ((Q8 W t).v - (Qc W (Q8 W t).group (Q8 W t).cpu).floor) (Qd (Q8 W t).nice);show (Qc W g c).floor<=(Qc W g c).floor+GF W t/\(Qc W g c).floor+GF W t - (Qc W g c).floor<=Zs (Qd (Q8 W t).nice);unfold GF;exact ⟨by omega,by omega⟩⟩
 unfold JZ;split
 ·exact Eg p t0 t1 n hT rfl c0 c1
 ·rename_i hs;exact p.setTk t0 t1 (.inr ⟨n,hT,c0,c1⟩) fun d _ _ _ h _=>absurd h hs
theorem Ek (W:Q7) (t g c:Int):UF W (JZ W t g c):=by
 unfold JZ;split
 ·exact (zc9 _ _ _).trans (Mm _ _)
 ·exact zc9 _ _ _
theorem zcw {W:Q7} (hl:W.tasks.length=12) {t g c:Int} (t0:0<=t) (t1:t<12) {i:Int} (i0:0<=i):Q8 (JZ W t g c) i=if t=i then Oh W t g c else Q8 W i:=by
 have e:Q8 (setTk W t (Oh W t g c)) i=if t=i then Oh W t g c else Q8 W i:=Qt _ _ t0 (by omega) i0;unfold JZ;split
 ·exact e
 ·exact e
theorem zeu {W:Q7} (p:UE W):∀k:Nat,k<=12->UE (J4 W k)/\UF W (J4 W k)/\(∀t:Int,0<=t->t<(k:Int)->(Q8 (J4 W k) t).state≠0->Z5 (Qq (J4 W k) (Q8 (J4 W k) t).group (Q8 (J4 W k) t).mask) (Q8 (J4 W k) t).cpu=true)
 | 0,_=>⟨p,UF.refl _,fun t a b=>by omega⟩
 | k+1,hk=>by
  obtain ⟨a,b,d⟩:=zeu p k (by omega);simp only [J4];generalize J4 W k=V at a b d;have hl:=a.a.t;split
  ·rename_i hm;unfold PI at hm;simp only [Bool.and_eq_true,bne_iff_ne,ne_eq] at hm;have h:=Vn a (t:=(k:Int)) (by omega) (by omega) hm.1;have hf:=Mq a.a (Q8 V (k:Int)).group (Q8 V (k:Int)).mask;have hw:=M3 a.a (Q8 V (k:Int)).group (Q8 V (k:Int)).mask;refine ⟨FW a (by omega) (by omega) hm.1 h.g hf.1 hf.2,b.trans (Ek _ _ _ _),fun t t0 t1 n => ?_⟩;rw [(Ek V _ _ _).wh];rw [zcw hl (by omega) (by omega) t0] at n ⊢
   split at n
   ·rename_i he;rw [if_pos he];exact Ly hw.1 hw.2
   ·rename_i he;rw [if_neg he];exact d t t0 (by omega) n
  ·rename_i hm;refine ⟨a,b,fun t t0 t1 n => ?_⟩
   by_cases he:t=(k:Int)
   ·subst he;have hm:PI V (k:Int)=false:=by simpa using hm
    unfold PI at hm;rw [show ((Q8 V (k:Int)).state != 0)=true by simpa using n,Bool.true_and] at hm
    simpa using hm
   ·exact d t t0 (by omega) n
theorem Ej {W:Q7} (sf:SF Ql (Ql+Qj) W) (p:UE W):Xn (Qg (MC W)):=by
 obtain ⟨a,b,d⟩:=zeu p 12 (Nat.le_refl _);exact Ze (Mk sf (Int.le_refl _)).1.w (by simp only [Qj]; decide) (by simp only [Qj,U1]; decide) a d
theorem zk9 {W:Q7} {t x:Int} (hW:QG W=true) (hb:LG W t x=0):Xn (zl3 W t x):=by
 have wp:=Qn.1 hW;obtain ⟨h1,_,sf⟩:=zjd hW hb;obtain ⟨t0,t1,tn⟩:=Yl h1;have hl:=wp.a.t;have p:=YI wp;have h:=Vn p t0 (by omega) tn
 have hx:TZ x=true/\x≠0:=by
  unfold LG at hb
  split at hb
  ·cases hb
  ·rename_i hn;exact ⟨by cases hm:TZ x with | true=>rfl | false=>exact absurd (.inl hm) hn,fun e=>hn (.inr e)⟩
 refine Ej sf (p.setTk t0 (by omega) (.inr ⟨tn,⟨h.st,h.g,h.n,hx.1,hx.2,h.s,h.u,h.l1,h.l2,h.f⟩,p.l t t0 (by omega) tn⟩) fun c c0 c1 hcur h1 h2 => ?_);have hc:=(p.c c c0 c1).q (by rw [hcur]; omega);rw [hcur] at hc;exact hc h1 h2
theorem zk4 {W:Q7} {g x:Int} (hW:QG W=true) (hb:zca W g x=0):Xn (zky W g x):=by
 have wp:=Qn.1 hW;obtain ⟨hu,_,_,sf,hT⟩:=zh5 hW hb;exact Ej sf ((YI wp).same sf.w.a rfl rfl hT (zc5 rfl))
theorem KI.gr {W W':Q7} {x:Oi} (h:KI W x) (e:W'.groups=W.groups):KI W' x:=
 ⟨h.st,by rw [e]; exact h.g,h.n,h.m,h.m0,h.s,h.u,h.l1,h.l2,fun hs=>by unfold Qc; rw [e]; exact h.f hs⟩
theorem znp {W:Q7} {c:Int} (hW:QG W=true) (hb:Ue W c false 0=0):Xn (zpk W c):=by
 have wp:=Qn.1 hW;obtain ⟨c0,c1,_,sf⟩:=zmx hW hb;have p:=YI wp;refine Ej sf ⟨⟨sf.w.a,fun t t0 t1=>(p.t t t0 t1).imp id fun h=>⟨h.1,h.2.gr rfl⟩,fun t t0 t1 n => ?_,fun k d hk d0 d1 => ?_⟩,fun d d0 d1 => ?_⟩
 ·have:=p.l t t0 t1 n;show _/\_<(((W.cpus.set c.toNat _).length:Nat):Int);rw [List.length_set]; exact this
 ·have d1:d<(((W.cpus.set c.toNat (Ph (gi W.cpus c) true)).length:Nat):Int):=d1;rw [List.length_set] at d1;exact (p.s k d hk d0 d1).cong rfl fun _=>rfl
 ·have d1:d<(((W.cpus.set c.toNat (Ph (gi W.cpus c) true)).length:Nat):Int):=d1;rw [List.length_set] at d1;have h:=p.c d d0 d1;have e:gi (setCp W c (Ph (gi W.cpus c) true)).cpus d=if c=d then Ph (gi W.cpus c) true else gi W.cpus d:=Qt _ _ c0 c1 d0
  have eb:(gi (setCp W c (Ph (gi W.cpus c) true)).cpus d).cur=(gi W.cpus d).cur/\(gi (setCp W c (Ph (gi W.cpus c) true)).cpus d).ran=(gi W.cpus d).ran/\(gi (setCp W c (Ph (gi W.cpus c) true)).cpus d).busy=(gi W.cpus d).busy/\(gi (setCp W c (Ph (gi W.cpus c) true)).cpus d).idle=(gi W.cpus d).idle/\((gi W.cpus d).up=true->(gi (setCp W c (Ph (gi W.cpus c) true)).cpus d).up=true):=by
   rw [e];split
   ·rename_i he; subst he; exact ⟨rfl,rfl,rfl,rfl,fun _=>rfl⟩
   ·exact ⟨rfl,rfl,rfl,rfl,id⟩
  obtain ⟨e1,e2,e3,e4,e5⟩:=eb;refine ⟨by rw [e3]; exact h.b,by rw [e4]; exact h.i,by rw [e1]; exact h.c1,by rw [e1]; exact h.c2,by rw [e1,e2]; exact h.no,fun h0 => ?_,?_⟩
  ·rw [e1] at h0;have:=h.yes h0;exact ⟨e5 this.1,by rw [e2]; exact this.2⟩
  ·rw [e1,e2]; exact h.q
theorem zk8 {W:Q7} {c:Int} (hW:QG W=true) (hb:Ue W c true (MA W)=0):Xn (zlw W c):=by
 have wp:=Qn.1 hW;obtain ⟨c0,c1,_,sf⟩:=zi5 hW hb;have p:=YI wp;have hl:(setCp W c (Ph (gi W.cpus c) false)).cpus.length=W.cpus.length:=List.length_set;have sfE:=sf.endW c0 (by rw [hl]; exact c1)
 have hcs:endW (setCp W c (Ph (gi W.cpus c) false)) c=setCp W c (X0 (Ph (gi W.cpus c) false)):=by
  have e:gi (setCp W c (Ph (gi W.cpus c) false)).cpus c=Ph (gi W.cpus c) false:=(Qt _ _ c0 c1 c0).trans (if_pos rfl);unfold endW;rw [e];simp [setCp,List.set_set]
 show Xn (Qg (MC (endW (setCp W c (Ph (gi W.cpus c) false)) c)));rw [hcs] at sfE ⊢;refine Ej sfE ⟨⟨sfE.w.a,fun t t0 t1=>(p.t t t0 t1).imp id fun h=>⟨h.1,h.2.gr rfl⟩,fun t t0 t1 n => ?_,fun k d hk d0 d1 => ?_⟩,fun d d0 d1 => ?_⟩
 ·have:=p.l t t0 t1 n;show _/\_<(((W.cpus.set c.toNat _).length:Nat):Int);rw [List.length_set]; exact this
 ·have d1:d<(((W.cpus.set c.toNat (X0 (Ph (gi W.cpus c) false))).length:Nat):Int):=d1;rw [List.length_set] at d1;exact (p.s k d hk d0 d1).cong rfl fun _=>rfl
 ·have d1:d<(((W.cpus.set c.toNat (X0 (Ph (gi W.cpus c) false))).length:Nat):Int):=d1;rw [List.length_set] at d1;have h:=p.c d d0 d1;have e:gi (setCp W c (X0 (Ph (gi W.cpus c) false))).cpus d=if c=d then X0 (Ph (gi W.cpus c) false) else gi W.cpus d:=Qt _ _ c0 c1 d0
  by_cases he:c=d
  ·subst he;have e:=e.trans (if_pos rfl);refine ⟨by rw [e]; exact h.b,by rw [e]; exact h.i,by rw [e]; show (-1:Int)<=-1; decide,by rw [e]; show (-1:Int)<12; decide,fun _=>by rw [e]; rfl,fun h0 => ?_,fun h0 => ?_⟩
   ·rw [e] at h0;have h0:(0:Int)<=-1:=h0;omega
   ·rw [e] at h0;have h0:(0:Int)<=-1:=h0;omega
  ·have e:=e.trans (if_neg he);exact ⟨by rw [e]; exact h.b,by rw [e]; exact h.i,by rw [e]; exact h.c1,by rw [e]; exact h.c2,by rw [e]; exact h.no,by rw [e]; exact h.yes,by rw [e]; exact h.q⟩
def Be (W:Q7) (g c x:Int):Pi:={ Qc W g c with v:=if (Qc W g c).on=true then (Qc W (gi W.groups g).parent c).floor+YH ((Qc W g c).v - (Qc W (gi W.groups g).parent c).floor) x else (Qc W g c).v,w:=x }
def CO (W:Q7) (g c:Int):Bool:=decide ((gi W.cpus c).cur>=0)&&YJ 3 W.groups g (Q8 W (gi W.cpus c).cur).group
def XQ (W:Q7) (g c x:Int):Q7:=setSh W g c (Be W g c x)
def P3 (W:Q7) (g c x:Int):Q7:=if (Qc W g c).w=x then W else if CO (XQ W g c x) g c=true then endW (XQ W g c x) c else XQ W g c x
def K0 (W:Q7):Prop:=∀c:Int,0<=c->c<(W.cpus.length:Int)->(gi W.cpus c).cur>=0->Q6 W.groups (Q8 W (gi W.cpus c).cur).group=true
theorem zdx {W:Q7} (wp:XG W):K0 W:=fun c c0 c1 h=>by
 have hc:=wp.c c c0 c1;have hy:=hc.yes h;have hl:=hy.2.2.2.2.1;have c2:=hc.c2;have ht:=wp.a.t;unfold ZH at hl;simp only [Bool.and_eq_true,beq_iff_eq] at hl;rcases wp.t (gi W.cpus c).cur h (by omega) with h1 | h1
 ·rw [h1.1] at hl; exact absurd hl.1 (by decide)
 ·exact h1.2.g
theorem K0.setSh {W:Q7} (h:K0 W) {g c:Int} {s:Pi} (u0:0<=g) (u1:g<(W.groups.length:Int)):K0 (setSh W g c s):=fun d d0 d1 hc=>by
 rw [(YX u0 u1).usd];exact h d d0 d1 hc
theorem K0.endW {W:Q7} (h:K0 W) {c:Int} (c0:0<=c) (c1:c<(W.cpus.length:Int)):K0 (endW W c):=fun d d0 d1 hc=>by
 have d1:d<(((W.cpus.set c.toNat (X0 (gi W.cpus c))).length:Nat):Int):=d1;rw [List.length_set] at d1;have hg:gi (Go.Proofs.YtclpmgfpjeaibaaGreat.endW W c).cpus d=if c=d then X0 (gi W.cpus c) else gi W.cpus d:=Qt _ _ c0 c1 d0;rw [hg] at hc ⊢
 split at hc
 ·exact absurd hc (by show ¬(-1:Int)>=0; decide)
 ·rename_i hn;rw [if_neg hn];exact h d d0 d1 hc
theorem zmi {F K:Int} {W:Q7} (h:SF F K W) (hk:F+Qj<=K) {g c x:Int} (hu:Q6 W.groups g=true) (hz:g≠0) (c0:0<=c) (c1:c<(W.cpus.length:Int)) (x1:1<=x) (x2:x<=20):SF F K (XQ W g c x):=by
 have hp:=h.w.a.up hu hz;have s1:=h.w.s g c hu c0 c1;have s2:=h.w.s _ c hp c0 c1;have f1:=h.f g c hu c0 c1;have f2:=h.f _ c hp c0 c1;have lc:=ZF ((Qc W g c).v - (Qc W (gi W.groups g).parent c).floor) x;have lm:=ZD x;refine h.setSh hu c0 c1 s1.1 f1 (by show (Qc W g c).floor<=K; omega) ?_ ?_ x1 x2
 ·simp only [Be]; split <;> omega
 ·simp only [Be]; simp only [Qj] at hk; split <;> omega
theorem zfa {F K:Int} {W:Q7} (h:SF F K W) (hk:F+Qj<=K) (hc:K0 W) {g c x:Int} (hu:Q6 W.groups g=true) (hz:g≠0) (c0:0<=c) (c1:c<(W.cpus.length:Int)) (x1:1<=x) (x2:x<=20):SF F K (P3 W g c x)/\Fr W (P3 W g c x)/\K0 (P3 W g c x):=by
 obtain ⟨u0,u1,_⟩:=Q4.1 hu;have hv:=zmi h hk hu hz c0 c1 x1 x2;have hf:Fr W (XQ W g c x):=(OF u0 u1).fr;have hc2:K0 (XQ W g c x):=hc.setSh u0 u1;unfold P3;split
 ·exact ⟨h,Fr.refl _,hc⟩
 ·split
  ·exact ⟨hv.endW c0 c1,hf.trans (Fa _ _),hc2.endW c0 c1⟩
  ·exact ⟨hv,hf,hc2⟩
def M2 (W:Q7) (g x:Int):Nat->Q7
 | 0=>W
 | c+1=>P3 (M2 W g x c) g (c:Int) x
theorem CP {F K:Int} {W:Q7} (h:SF F K W) (hk:F+Qj<=K) (hc:K0 W) {g x:Int} (hu:Q6 W.groups g=true) (hz:g≠0) (x1:1<=x) (x2:x<=20):∀c:Nat,c<=W.cpus.length->SF F K (M2 W g x c)/\Fr W (M2 W g x c)/\K0 (M2 W g x c)
 | 0,_=>⟨h,Fr.refl _,hc⟩
 | c+1,hn=>by
  obtain ⟨a,b,d⟩:=CP h hk hc hu hz x1 x2 c (by omega);obtain ⟨a2,b2,d2⟩:=zfa a hk d (g:=g) (c:=(c:Int)) (x:=x) (by rw [b.g.usd]; exact hu) hz (by omega) (by rw [b.c]; omega) x1 x2;exact ⟨a2,b.trans b2,d2⟩
def OO (W:Q7) (g x:Int):Z0:={ gi W.groups g with weight:=x }
noncomputable def zdg (W:Q7) (g x:Int):Int:=O9 W g (X3 x 1 20)
def zmj (W:Q7) (g x:Int):Q7:=Qg (M2 (setGr W g (OO W g x)) g x W.cpus.length)
theorem zj3 {W:Q7} {g x:Int} (hW:QG W=true) (hb:zdg W g x=0):X3 x 1 20=true/\g≠0/\Q6 W.groups g=true/\QB W=true/\SF Ql (Ql+Qj) W/\SF Ql (Ql+Qj) (setGr W g (OO W g x))/\K0 (setGr W g (OO W g x))/\QM W.groups (setGr W g (OO W g x)).groups:=by
 obtain ⟨h1,h2,h3,h4⟩:=C7 hb;have wp:=Qn.1 hW;have sw:=TI wp (Qn.1 h4);obtain ⟨u0,u1,hg⟩:=wp.a.u h3;have hx:=Qx.1 h1;have hl:=wp.a.gl;have s1:=sw.setGr (x:=OO W g x) h3 rfl rfl rfl rfl ⟨hx.1,hx.2,hg.m,hg.m0,hg.s,hg.len,fun h=>absurd h h2,hg.none,hg.band⟩;have hT:QM W.groups (setGr W g (OO W g x)).groups:=XF u0 (by omega) rfl rfl rfl;refine ⟨h1,h2,h3,h4,sw.sf.mono (Int.le_refl _) (by simp only [Qj]; decide),s1.sf.mono (Int.le_refl _) (by simp only [Qj]; decide),fun d d0 d1 hc => ?_,hT⟩;rw [hT.usd];exact zdx wp d d0 d1 hc
theorem zbk {gs:List Z0} (ht:Z6 gs) {g h:Int} (u1:Q6 gs g=true) (u2:Q6 gs h=true):UB gs g h=YJ 3 gs g h:=by
 unfold UB;rw [u1,u2,show Yu gs=true from @decide_eq_true _ (Classical.propDecidable _) ht];rfl
section
variable {base:Nat} {W W':Q7} {m:MW} {w:World} {bar:Int}
set_option maxHeartbeats 1000000 in
theorem Oy {F K:Int} (h:Y8 8 base w W m) (hsw:SF F K W) (hk:F+Qj<=K) (hK:K<=1000000000000000000) (hcu:K0 W) {g c x:Int} (hu:Q6 W.groups g=true) (hz:g≠0) (c0:0<=c) (c1:c<(W.cpus.length:Int)) :
  Cz XN #[.agg (Qa W m).toArray,.int .i64 g,.int .i64 c,.int .i64 x] w fun e w'=>e = .returned (.agg (Qa W m).toArray)/\Mv 8 base [] w m w' (P3 W g c x) m:=by
 refine (Gs W.now m.cO W.cpus.length m.cC m.tO W.tasks.length m.tC m.gO W.groups.length m.gC g c x (R:=fun v w'=>v = .agg (Qa W m).toArray/\Mv 8 base [] w m w' (P3 W g c x) m) ?_).mono fun e w' ⟨v,he,hv,h3⟩=>⟨by rw [he,hv],h3⟩
 intro y hy y1 hy1;obtain ⟨u0,u1,_⟩:=Q4.1 hu;have hgl:=hsw.w.a.gl;have htl:=hsw.w.a.t;have hsl:=hsw.w.a.sl hu;have hp:=hsw.w.a.up hu hz;obtain ⟨p0,p1,_⟩:=Q4.1 hp;have hpl:=hsw.w.a.sl hp;have s1:=hsw.w.s g c hu c0 c1;have s2:=hsw.w.s _ c hp c0 c1;have lc:=ZF ((Qc W g c).v - (Qc W (gi W.groups g).parent c).floor) x;have lm:=ZD x;have hM:=Mv.two h hy hy1;have hr:=(Mv.start h).rd;have hix:=hr.g.ix (i:=g) u0 u1;have hixS:=(hr.g.shelves g u0 u1).ix ZK c0 (by omega);have hcx:=hr.c.ix ZZ c0 c1;have hwr:=zm0 h (by simp) (i:=g) (bs:=[]) u0 (by omega) c0 (by omega) (j:=0) (k:=5) (by decide);have hcr:=hsw.w.cu c c0 c1;have cur1:decide ((gi W.cpus c).cur>=0)=true->(gi W.cpus c).cur<(W.tasks.length:Int):=fun _=>by omega
 have hT:QM W.groups (XQ W g c x).groups:=YX u0 u1
 have hE:(decide ((gi W.cpus c).cur>=0)&&UB (XQ W g c x).groups g (gi W.tasks (gi W.cpus c).cur).group)=CO (XQ W g c x) g c:=by
  unfold CO;show _=(decide ((gi W.cpus c).cur>=0)&&YJ 3 (XQ W g c x).groups g (Q8 W (gi W.cpus c).cur).group)
  by_cases hc:(gi W.cpus c).cur>=0
  ·rw [zbk (hT.tree hsw.w.a.tree) (by rw [hT.usd]; exact hu) (by rw [hT.usd]; exact hcu c c0 c1 hc)]; rfl
  ·rw [decide_eq_false hc]; rfl
 have hlen:(XQ W g c x).groups.length=W.groups.length:=hT.len;have hfr:Fr W (XQ W g c x):=(OF u0 u1).fr;have eW:Qa (XQ W g c x) m=Qa W m:=VV hfr;have eE:Qa (endW (XQ W g c x) c) m=Qa W m:=VV (hfr.trans (Fa _ _));refine ⟨hix,_,_,_,hr.g.shelf u0 u1,hixS,_,_,_,_,_,(hr.g.shelves g u0 u1) c c0 (by omega),fun b2 hb2=>⟨fun g1 wr hx=>⟨rfl,?_⟩,fun g1=>⟨fun g2 => ?_,fun g2 => ?_⟩⟩⟩
 ·have g1:(Qc W g c).w=x:=eq_of_beq g1;unfold P3;rw [if_pos g1];exact (Mv.start h).call0 hx
 ·have hss:Be W g c x=⟨(Qc W g c).floor,(Qc W g c).on,(Qc W (gi W.groups g).parent c).floor+YH ((Qc W g c).v - (Qc W (gi W.groups g).parent c).floor) x,x,(Qc W g c).sum⟩:=by
   unfold Be;rw [if_pos (show (Qc W g c).on=true from g2)]
  have hset:=Ft hsw h hk hu rfl c0 c1 (Be W g c x);rw [hss] at hset;have hM2:=((hM.add hb2).deed hset (E3 (by omega)));have hV:setSh W g c ⟨(Qc W g c).floor,(Qc W g c).on,(Qc W (gi W.groups g).parent c).floor+YH ((Qc W g c).v - (Qc W (gi W.groups g).parent c).floor) x,x,(Qc W g c).sum⟩=XQ W g c x:=by unfold XQ; rw [hss]
  rw [hV] at hM2;have hr2:=hM2.rd;have hM2':=hM2.close;have hr0:=hM2'.rd;refine ⟨hix,_,hr.g.parent u0 u1,hr.g.ix p0 p1,_,_,_,hr.g.shelf p0 p1,(hr.g.shelves _ p0 p1).ix ZK c0 (by omega),_,zbq.f (hr.g.shelves _ p0 p1) c0 (by omega) (j:=0) rfl,⟨by show _<=(Qc W g c).v - (Qc W (gi W.groups g).parent c).floor; omega,by show (Qc W g c).v - (Qc W (gi W.groups g).parent c).floor<=_; omega⟩,_,Od,⟨by show _<=(Qc W (gi W.groups g).parent c).floor+YH ((Qc W g c).v - (Qc W (gi W.groups g).parent c).floor) x; omega,by show (Qc W (gi W.groups g).parent c).floor+YH ((Qc W g c).v - (Qc W (gi W.groups g).parent c).floor) x<=_; omega⟩,hix,_,_,_,hr.g.shelf u0 u1,hixS,hwr,hcx,(gi W.cpus c).cur,?_⟩;refine ⟨zoq.f hr0.c c0 c1 (j:=1) rfl,fun gc=>hr0.t.ix QJ (of_decide_eq_true gc) (cur1 gc),_,fun gc=>zj6.f hr0.t (of_decide_eq_true gc) (cur1 gc) (j:=1) rfl,_,fun gc=>by rw [<-hlen]; exact V8 hr0.g (by have:=Zp; omega),fun gc wr1 hx3 hs3 => ?_,fun gc wr3 hx3 => ?_⟩
  ·have he:CO (XQ W g c x) g c=true:=by rw [<-hE]; exact gc
   have hM3:=hM2.step (hx3.of_nil);have hcall:=Zg hM3.own c0 c1;rw [eW,eE] at hcall;refine Calls.mono hcall ?_;rintro e wv ⟨he1,hy2⟩;refine ⟨_,_,_,_,_,_,_,_,_,_,he1,hM3.kept hy2 hs3,fun wr2 hx4=>⟨rfl,?_⟩⟩;unfold P3;rw [if_neg (show ¬(Qc W g c).w=x from ne_of_beq_false g1),if_pos he];exact ((hM3.call hy2 hs3).step hx4).close
  ·have he:CO (XQ W g c x) g c=false:=by rw [<-hE]; exact gc
   refine ⟨rfl,?_⟩;unfold P3;rw [if_neg (show ¬(Qc W g c).w=x from ne_of_beq_false g1),if_neg (by rw [he]; decide)];exact (hM2.step hx3.of_nil).close
 ·have hss:Be W g c x=⟨(Qc W g c).floor,(Qc W g c).on,(Qc W g c).v,x,(Qc W g c).sum⟩:=by
   unfold Be;rw [if_neg (by rw [show (Qc W g c).on=false from g2]; decide)]
  have hset:=Ft hsw h hk hu rfl c0 c1 (Be W g c x);rw [hss] at hset;have hM2:=((hM.add hb2).deed hset (E3 (by omega)));have hV:setSh W g c ⟨(Qc W g c).floor,(Qc W g c).on,(Qc W g c).v,x,(Qc W g c).sum⟩=XQ W g c x:=by unfold XQ; rw [hss]
  rw [hV] at hM2;have hr2:=hM2.rd;have hM2':=hM2.close;have hr0:=hM2'.rd;refine ⟨hix,_,_,_,hr.g.shelf u0 u1,hixS,hwr,hcx,(gi W.cpus c).cur,?_⟩;refine ⟨zoq.f hr0.c c0 c1 (j:=1) rfl,fun gc=>hr0.t.ix QJ (of_decide_eq_true gc) (cur1 gc),_,fun gc=>zj6.f hr0.t (of_decide_eq_true gc) (cur1 gc) (j:=1) rfl,_,fun gc=>by rw [<-hlen]; exact V8 hr0.g (by have:=Zp; omega),fun gc wr1 hx3 hs3 => ?_,fun gc wr3 hx3 => ?_⟩
  ·have he:CO (XQ W g c x) g c=true:=by rw [<-hE]; exact gc
   have hM3:=hM2.step (hx3.of_nil);have hcall:=Zg hM3.own c0 c1;rw [eW,eE] at hcall;refine Calls.mono hcall ?_;rintro e wv ⟨he1,hy2⟩;refine ⟨_,_,_,_,_,_,_,_,_,_,he1,hM3.kept hy2 hs3,fun wr2 hx4=>⟨rfl,?_⟩⟩;unfold P3;rw [if_neg (show ¬(Qc W g c).w=x from ne_of_beq_false g1),if_pos he];exact ((hM3.call hy2 hs3).step hx4).close
  ·have he:CO (XQ W g c x) g c=false:=by rw [<-hE]; exact gc
   refine ⟨rfl,?_⟩;unfold P3;rw [if_neg (show ¬(Qc W g c).w=x from ne_of_beq_false g1),if_neg (by rw [he]; decide)];exact (hM2.step hx3.of_nil).close
theorem Lp {g x:Int} (h:Xo [] w W m) (hl:X4 W) :
  Cz JT #[.agg (Qa W m).toArray,.int .i64 g,.int .i64 x] w fun e w'=>∃v,e = .returned v/\Qy (YZ W (zdg W g x) (zmj W g x)) w v w':=by
 refine L7 W.now m.cO W.cpus.length m.cC m.tO W.tasks.length m.tC m.gO W.groups.length m.gC g x (R:=fun v w'=>Qy (YZ W (zdg W g x) (zmj W g x)) w v w') ?_;intro y hy y1 hy1;refine ⟨_,Xz,fun wr hx2 hs2 => ?_⟩;refine Calls.mono (JI (g:=g) (ok:=X3 x 1 20) (h.ext hx2) hl) ?_;rintro e wv (⟨hW,he,hy2⟩ | ⟨hW,m',he,hM,hy2⟩)
 ·exact ⟨_,_,_,_,_,_,_,_,_,_,_,he,Qf hy2 hs2,fun _ wr1 hx3=>Qy.bad hW ((hx2.trans hy2).fresh hx3 fun z hm=>.inl (Yd hy hy1 z hm)),fun g=>by simp at g⟩
 have hK:=Wk.begin hy hy1 hx2 hs2 hM hy2;refine ⟨_,_,_,_,_,_,_,_,_,_,_,he,Qf hy2 hs2,fun g1 wr1 hx3=>Qy.no hW (by simpa [zdg] using g1) (hK.step hx3) rfl,fun g1 => ?_⟩;have hb:zdg W g x=0:=by simpa [zdg] using g1
 have hr:=hK.rd;obtain ⟨hix1,hz,hu,hroom,_,sf,hcu,hT⟩:=zj3 hW hb;have hxr:=Qx.1 hix1;obtain ⟨u0,u1,_⟩:=Q4.1 hu;have hgl:W.groups.length=8:=by have:=sf.w.a.gl; rwa [hT.len] at this
 have hix:=hr.g.ix (i:=g) u0 u1;have hset:Wk 8 [y,y1] w (sto wv m'.gO (Int.toNat g*14+3) [.int .i64 x]) (setGr W g (OO W g x)) m':=hK.sto (hK.own.stoG0 u0 (by omega) (g:=OO W g x) rfl rfl rfl (j:=3) (vs:=[.int .i64 x]) rfl (by simp)) Hd;have hwr:=NB hK.own hK.nb (i:=g) u0 (by omega) (j:=3) (k:=1) (by decide);have e0:Qa (setGr W g (OO W g x)) m'=Qa W m':=by simp [Qa,setGr]
 have huV:Q6 (setGr W g (OO W g x)).groups g=true:=by rw [hT.usd]; exact hu
 have hcl:(setGr W g (OO W g x)).cpus.length=W.cpus.length:=rfl;have hE:zmj W g x=Qg (M2 (setGr W g (OO W g x)) g x W.cpus.length):=rfl;rw [hE];have hc4:=sf.w.a.c2;generalize setGr W g (OO W g x)=V at hset sf hcu hT e0 huV hcl hc4;refine ⟨hix,hwr,fun vs w1=>∃(k:Nat),vs = .int .i64 (k:Int)::Qa W m'/\k<=W.cpus.length/\Wk 8 [y,y1] w w1 (M2 V g x k) m',Zm W.cpus.length 0,fun w1 hx0 _=>⟨0,rfl,Nat.zero_le _,hset.step hx0⟩,?_⟩;rintro c1 l l1O l1L l1C l2O l2L l2C l3O l3L l3C wv2 hs3 ⟨k,he2,hk,hK2⟩;obtain ⟨hS,hf,hc2⟩:=CP sf (Int.le_refl _) hcu huV hz hxr.1 hxr.2 k (by omega);have hdef:M2 V g x (k+1)=P3 (M2 V g x k) g (k:Int) x:=rfl;have hend:k=W.cpus.length->M2 V g x W.cpus.length=M2 V g x k:=fun e=>by rw [e]
 have eU:Qa (M2 V g x k) m'=Qa W m':=(VV hf).trans e0;have hcU:=hf.c;have huU:Q6 (M2 V g x k).groups g=true:=by rw [hf.g.usd]; exact huV
 simp only [Qa,List.cons.injEq,Value.int.injEq,Value.slice.injEq,true_and,and_true] at he2;obtain ⟨rfl,rfl,⟨rfl,rfl,rfl⟩,⟨rfl,rfl,rfl⟩,rfl,rfl,rfl⟩:=he2;generalize M2 V g x k=U at hK2 hS hf hc2 hdef hend eU hcU huU;refine ⟨fun hlt wr3 hx3 hs4 => ?_,fun hge wr5 hx5 hs5 => ?_⟩
 ·have hlt:=of_decide_eq_true hlt;have hK3:=hK2.step hx3;have hcall:=Oy hK3.own hS (Int.le_refl _) (by simp only [Qj]; decide) hc2 (g:=g) (c:=(k:Int)) (x:=x) huU hz (by omega) (by omega);rw [eU] at hcall;refine Calls.mono hcall ?_;rintro e wv3 ⟨he3,hy3⟩;refine ⟨_,_,_,_,_,_,_,_,_,_,he3,hK3.kept hy3 hs4,⟨by omega,by omega⟩,fun wr4 hx4 _=>⟨⟨k+1,rfl,by omega,?_⟩,?_⟩⟩
  ·rw [hdef];exact (hK3.deed hy3 hs4).step hx4
  ·simp only [Zm,Jq,Yf,List.getElem?_cons_zero]; omega
 ·have hge:=of_decide_eq_false hge;rw [hend (by omega)];have hK5:=hK2.step hx5;have hcall:=Qm hK5.own hS.w (by simp only [Qj]; decide) (by simp only [Qj]; decide) hK5.base;rw [eU] at hcall;refine Calls.mono hcall ?_;rintro e2 wv2 ⟨m2,he2,hy2⟩;exact ⟨_,_,_,_,_,_,_,_,_,_,he2,hK5.kept hy2 hs5,fun wr4 hx5=>Qy.ok hW hb ((hK5.deed hy2 hs5).step hx5)⟩
section
variable {pb:Nat}
end
end
end Go.Proofs.YtclpmgfpjeaibaaGreat
