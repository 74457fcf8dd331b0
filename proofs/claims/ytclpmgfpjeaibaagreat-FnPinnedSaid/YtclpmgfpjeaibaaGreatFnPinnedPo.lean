/- Part 15 of what the law FnPinned needs: the engine, the functions' propositions, the contracts. -/
import Derived.Test.YtclpmgfpjeaibaaGreatFnPinnedPn
import Derived.Shelf.Abstract
namespace Go.Proofs.YtclpmgfpjeaibaaGreat
open Go.RowKit
set_option linter.unusedVariables false
set_option linter.unusedSimpArgs false
set_option maxRecDepth 10000
def zrp (W:Q8) (a b:Int):Bool:=decide (GZ W a>GZ W b)
def OL (W:Q8) (c m:Int):Nat->Int
 | 0 => -1
 | k+1=>if ((Z4 m (k:Int)&&zim W (k:Int) c)&&(decide (OL W c m k<0)||zrp W (k:Int) (OL W c m k)))=true then (k:Int) else OL W c m k
theorem zku {W:Q8} {c m:Int} {k:Nat} (h:((Z4 m (k:Int)&&zim W (k:Int) c)&&(decide (OL W c m k<0)||zrp W (k:Int) (OL W c m k)))=true):OL W c m (k+1)=(k:Int):=if_pos h
theorem zg4 {W:Q8} {c m:Int} {k:Nat} (h:¬((Z4 m (k:Int)&&zim W (k:Int) c)&&(decide (OL W c m k<0)||zrp W (k:Int) (OL W c m k)))=true):OL W c m (k+1)=OL W c m k:=if_neg h
theorem znq {p:Nat->Bool} {n:Nat} (h:p n=false):Vg p (n+1)=Vg p n:=by simp [Vg,h]
theorem Bv (W:Q8) (c m:Int):∀k:Nat,-1<=OL W c m k/\OL W c m k<k
 | 0=>by simp [OL]
 | k+1=>by
  have:=Bv W c m k;simp only [OL]
  split <;> omega
noncomputable def T1 (W:Q8) (c lv:Int):Int:=OL W c (zsi (W.cpus.length:Int) c lv) W.cpus.length
theorem zqb {W:Q8} (wp:Xn W) {b c:Int} (h:zim W b c=true):0<=b/\b<(W.cpus.length:Int)/\b≠c:=by
 obtain ⟨t,ht,hp⟩:=Ll.1 h;simp only [Bool.and_eq_true,beq_iff_eq] at hp;obtain ⟨h1,h2⟩:=E5 hp.2;have:=wp.li (t:=(t:Int)) (by omega) (by have:=wp.a.t; omega) h1;rw [hp.1] at this h2;exact ⟨this.2.1,this.2.2,h2⟩
section
variable {W:Q8} {m:MW} {w:World} {bs:List Nat} {p:OA}
theorem GT {s c:Int} (h:Xf bs w W m) (wp:Xn W) (c0:0<=c) (c1:c<(W.cpus.length:Int)):PX bs Um #[.agg (Qa W m).toArray,.int .i64 s,.int .i64 c] w (.int .i64 (OL W c s W.cpus.length)):=
 Ha W.now m.cO W.cpus.length m.cC m.tO W.tasks.length m.tC m.gO W.groups.length m.gC s c fun wr hx=>by
  have h:=(h.ext hx).less (cs:=[]) (by simp);have h4:=wp.a.c2;have htl:=wp.a.t;intro _ _;refine T6 W.cpus.length 0 rfl (fun x k=>k<=W.cpus.length/\x=OL W c s k) ⟨Nat.zero_le _,rfl⟩ fun x k ⟨hk,hx2⟩=>⟨fun hlt => ?_,fun hge => ?_⟩
  ·subst hx2;have hlt:=of_decide_eq_true hlt;have hr:=Bv W c s k;refine ⟨_,fun _=>ZI,_,fun _ _=>V2 h wp,_,fun _ _=>V2 h wp,fun g => ?_,fun g => ?_⟩
   ·refine ⟨⟨by omega,by omega⟩,Qx (by omega) ⟨by omega,?_⟩⟩;rw [zg4];intro hc;simp only [Bool.and_eq_true] at hc;have hne:=(zqb wp hc.1.2).2.2;rw [beq_eq_false_iff_ne.2 hne,hc.1.1] at g;simp only [Bool.not_true,Bool.or_self,Bool.false_or,Bool.and_eq_true,decide_eq_true_eq] at g;unfold zrp at hc;simp only [Bool.or_eq_true,decide_eq_true_eq] at hc;omega
   ·simp only [Bool.or_eq_false_iff,Bool.not_eq_false'] at g;obtain ⟨⟨g1,g2⟩,g3⟩:=g
    have hb:(decide (OL W c s k<0)||zrp W (k:Int) (OL W c s k))=true:=by
     unfold zrp;simp only [Bool.or_eq_true,decide_eq_true_eq];simp only [Bool.and_eq_false_iff,decide_eq_false_iff_not] at g3;omega
    refine T6 12 0 rfl (fun y j=>j<=12/\y=if Vg (fun t=>((Q7 W (t:Int)).cpu==(k:Int))&&JH W (t:Int) c) j=true then (k:Int) else OL W c s k) ⟨Nat.zero_le _,rfl⟩ fun y j ⟨hj,hy⟩=>⟨fun hlt2 => ?_,fun hge2 => ?_⟩
    ·have hlt2:=of_decide_eq_true hlt2;have hj12:j<12:=by omega
     refine ⟨h.t.ix Qz (by omega) hlt2,_,h.t.f (by omega) hlt2 (j:=2) rfl,_,fun _=>M3 h wp (by omega) hlt2 c0 c1,fun g4 => ?_,fun g4 => ?_⟩
     ·have g4:(((Q7 W (j:Int)).cpu==(k:Int))&&JH W (j:Int) c)=true:=g4;refine ⟨⟨by omega,by omega⟩,Qx hj12 ⟨by omega,?_⟩⟩;rw [if_pos];simp only [Vg,Bool.or_eq_true];exact .inr g4
     ·have g4:(((Q7 W (j:Int)).cpu==(k:Int))&&JH W (j:Int) c)=false:=g4;refine ⟨⟨by omega,by omega⟩,Qx hj12 ⟨by omega,?_⟩⟩;rw [hy,znq (p:=fun t=>((Q7 W (t:Int)).cpu==(k:Int))&&JH W (t:Int) c) g4]
    ·have hge2:=of_decide_eq_false hge2;have:j=12:=by omega
     subst this;refine ⟨⟨by omega,by omega⟩,Qx (by omega) ⟨by omega,?_⟩⟩;rw [hy];show (if zim W (k:Int) c=true then (k:Int) else OL W c s k)=_
     cases ha:zim W (k:Int) c with
     | true=>rw [zku (by rw [g2,ha,hb]; rfl),if_pos rfl]
     | false=>rw [zg4 (by rw [ha]; simp),if_neg (by decide)]
  ·have hge:=of_decide_eq_false hge;have:k=W.cpus.length:=by omega
   subst this;rw [hx2]
end
theorem zcu (cs:List Ow) {c:Int} (c0:0<=c):∀k:Nat,k<=4->c<(k:Int)->(gi cs c).up=true->Z4 (Jc cs k) c=true
 | 0,_,h,_=>by omega
 | k+1,hk,h,hu=>by
  have hl:=PR cs k (by omega)
  have hb:XX k<=8:=by
   have:k=0\/k=1\/k=2\/k=3:=by omega
   rcases this with rfl | rfl | rfl | rfl <;> decide
  have key:=zdm ⟨k,by omega⟩ ⟨(Jc cs k).toNat,by omega⟩ ⟨c.toNat,by omega⟩;rw [show ((⟨(Jc cs k).toNat,by omega⟩:Fin 8).val:Int)=Jc cs k by show (((Jc cs k).toNat:Nat):Int)=Jc cs k; omega,show ((⟨c.toNat,by omega⟩:Fin 4).val:Int)=c by show ((c.toNat:Nat):Int)=c; omega] at key;simp only [Jc]
  by_cases e:c=(k:Int)
  ·subst e;rw [if_pos hu,key hl.2];simp
  ·have ih:=zcu cs c0 k (by omega) (by omega) hu;split
   ·rw [key hl.2,ih]; simp
   ·exact ih
theorem DZ {cs:List Ow} (h4:cs.length<=4) {c:Int} (c0:0<=c) (c1:c<(cs.length:Int)) (hu:(gi cs c).up=true):Xm cs≠0:=fun e=>by
 have h:=zcu cs c0 cs.length h4 c1 hu;rw [show Jc cs cs.length=0 from e] at h;have hr:=Og h;have:c=0\/c=1\/c=2\/c=3:=by omega
 rcases this with rfl | rfl | rfl | rfl <;> exact absurd h (by decide)
theorem zly {m c:Int} (c0:0<=c) (c4:c<4) (h:Z4 m c=true) (hn:∀j:Int,0<=j->j<4->j≠c->Z4 m j=false):LG m 4=1:=by
 have h0:=hn 0 (by decide) (by decide);have h1:=hn 1 (by decide) (by decide);have h2:=hn 2 (by decide) (by decide);have h3:=hn 3 (by decide) (by decide);have i0:((0:Nat):Int)=0:=rfl;have i1:((1:Nat):Int)=1:=rfl;have i2:((2:Nat):Int)=2:=rfl;have i3:((3:Nat):Int)=3:=rfl;have:c=0\/c=1\/c=2\/c=3:=by omega
 simp only [LG,i0,i1,i2,i3];rcases this with rfl | rfl | rfl | rfl
 ·have e1:=h1 (by decide); have e2:=h2 (by decide); have e3:=h3 (by decide); simp [h,e1,e2,e3]
 ·have e1:=h0 (by decide); have e2:=h2 (by decide); have e3:=h3 (by decide); simp [h,e1,e2,e3]
 ·have e1:=h0 (by decide); have e2:=h1 (by decide); have e3:=h3 (by decide); simp [h,e1,e2,e3]
 ·have e1:=h0 (by decide); have e2:=h1 (by decide); have e3:=h2 (by decide); simp [h,e1,e2,e3]
theorem zj6 {cs:List Ow} (h4:cs.length<=4) {c:Int} (c0:0<=c) (c1:c<(cs.length:Int)) (hu:(gi cs c).up=true) (hn:LG (Xm cs) 4≠1):∃j:Int,0<=j/\j<(cs.length:Int)/\j≠c/\(gi cs j).up=true:=by
 refine Classical.byContradiction fun hne=>hn (zly c0 (by omega) (zcu cs c0 cs.length h4 c1 hu) fun j j0 j4 hj => ?_)
 cases h:Z4 (Xm cs) j with
 | false=>rfl
 | true=>
  obtain ⟨a,b⟩:=zct cs (c:=j) cs.length h4 h;exact absurd ⟨j,j0,a,hj,b⟩ hne
theorem SW.setCp {K:Int} {W:Q8} (h:SW K W) {c:Int} (c0:0<=c) (c1:c<(W.cpus.length:Int)) {x:Ow} (hu:Xm (W.cpus.set c.toNat x)≠0) (h1 : -1<=x.cur) (h2:x.cur<12):SW K (setCp W c x):=by
 have hl:(W.cpus.set c.toNat x).length=W.cpus.length:=List.length_set;have hg:∀d:Int,0<=d->gi (W.cpus.set c.toNat x) d=if c=d then x else gi W.cpus d:=fun d d0=>Qw _ _ c0 c1 d0
 refine ⟨h.a.cp hl hu,fun t a b n => ?_,h.tv,fun k d u a b => ?_,fun d a b => ?_⟩
 ·show _/\_/\_<(((W.cpus.set c.toNat x).length:Nat):Int);rw [hl];exact h.t t a b n
 ·have b:d<(((W.cpus.set c.toNat x).length:Nat):Int):=b;rw [hl] at b;exact h.s k d u a b
 ·have b:d<(((W.cpus.set c.toNat x).length:Nat):Int):=b;rw [hl] at b;show _<=(gi (W.cpus.set c.toNat x) d).cur/\(gi (W.cpus.set c.toNat x) d).cur<12;rw [hg _ a];split
  ·exact ⟨h1,h2⟩
  ·exact h.cu d a b
noncomputable def UJ (W:Q8) (c:Int) (up:Bool) (last:Int):Int:=if X2 W c=false then 1 else if (gi W.cpus c).up≠up then 6 else if last≠0 then last else if QF W=false then 10 else 0
theorem zba {W:Q8} {c:Int} {up:Bool} {last:Int} (h:UJ W c up last=0):X2 W c=true/\(gi W.cpus c).up=up/\last=0/\QF W=true:=by
 unfold UJ at h
 split at h
 ·cases h
 ·rename_i h1
  split at h
  ·cases h
  ·rename_i h2
   split at h
   ·rename_i h3; exact absurd h h3
   ·rename_i h3
    split at h
    ·cases h
    ·rename_i h4;exact ⟨by simpa using h1,by simpa using h2,by omega,by simpa using h4⟩
theorem Ke {W:Q8} {c:Int} {up:Bool} {last:Int} (h1:X2 W c=true) (h2:(gi W.cpus c).up=up) (h3:last=0):UJ W c up last=if QF W=false then 10 else 0:=by
 unfold UJ;rw [if_neg (by rw [h1]; decide),if_neg (by simpa using h2),if_neg (by simpa using h3)]
def M8 (x:Ow) (b:Bool):Ow:={ x with up:=b }
def zsr (W:Q8) (c:Int):Q8:=Qg (KN (setCp W c (M8 (gi W.cpus c) true)))
def KJ (W:Q8):Int:=if LG (Xm W.cpus) 4=1 then 5 else 0
def zo5 (W:Q8) (c:Int):Q8:=Qg (KN (endW (setCp W c (M8 (gi W.cpus c) false)) c))
theorem zp2 {W:Q8} {c:Int} (hW:QA W=true) (hb:UJ W c false 0=0):0<=c/\c<(W.cpus.length:Int)/\SF Qp (Qp+Qk) W/\SF Qp (Qp+Qk) (setCp W c (M8 (gi W.cpus c) true)):=by
 obtain ⟨h1,h2,_,h4⟩:=zba hb;have wp:=Qi.1 hW;have sw:=Oo wp (Qi.1 h4);obtain ⟨c0,c1⟩:=VT h1;have hcu:=sw.cu c c0 c1;have hl:(W.cpus.set c.toNat (M8 (gi W.cpus c) true)).length=W.cpus.length:=List.length_set;have hc2:=wp.a.c2;exact ⟨c0,c1,Pp sw,Pp (sw.setCp c0 c1 (x:=M8 (gi W.cpus c) true) (DZ (by omega) c0 (by omega) (by rw [Qw _ _ c0 c1 c0,if_pos rfl]; rfl)) hcu.1 hcu.2)⟩
theorem zmb {W:Q8} {c:Int} (hW:QA W=true) (hb:UJ W c true (KJ W)=0):0<=c/\c<(W.cpus.length:Int)/\SF Qp (Qp+Qk) W/\SF Qp (Qp+Qk) (setCp W c (M8 (gi W.cpus c) false)):=by
 obtain ⟨h1,h2,h3,h4⟩:=zba hb;have wp:=Qi.1 hW;have sw:=Oo wp (Qi.1 h4);obtain ⟨c0,c1⟩:=VT h1;have hcu:=sw.cu c c0 c1;have hl:(W.cpus.set c.toNat (M8 (gi W.cpus c) false)).length=W.cpus.length:=List.length_set;have hc2:=wp.a.c2;have hn:LG (Xm W.cpus) 4≠1:=fun e=>by unfold KJ at h3; rw [if_pos e] at h3; cases h3
 obtain ⟨j,j0,j1,jc,hj⟩:=zj6 hc2 c0 c1 h2 hn;exact ⟨c0,c1,Pp sw,Pp (sw.setCp c0 c1 (x:=M8 (gi W.cpus c) false) (DZ (by omega) j0 (by omega) (by rw [Qw _ _ c0 c1 j0,if_neg fun e=>jc e.symm]; exact hj)) hcu.1 hcu.2)⟩
theorem FR (W:Q8) (c:Int) (x:Ow) (m:MW):Qa (setCp W c x) m=Qa W m:=by simp [Qa,setCp]
section
variable {W W':Q8} {m:MW} {w:World}
theorem zbw {c:Int} (h:Xf [] w W m) (hl:Xe W) :
  Cz ON #[.agg (Qa W m).toArray,.int .i64 c] w fun e w'=>∃v,e = .returned v/\QD (Xh W (UJ W c false 0) (zsr W c)) w v w':=by
 refine zbh W.now m.cO W.cpus.length m.cC m.tO W.tasks.length m.tC m.gO W.groups.length m.gC c (R:=fun v w'=>QD (Xh W (UJ W c false 0) (zsr W c)) w v w') ?_;intro y hy y1 hy1 wr hx2 hs2;have hm9:=Zg;have hlc:=hl.c;refine Calls.mono (Z1 (h.ext hx2) hl) ?_;rintro e wv (⟨hW,he,hy2⟩ | ⟨hW,m',he,hM,hy2⟩)
 ·exact ⟨_,_,_,_,_,_,_,_,_,_,_,he,Qe hy2 hs2,fun g=>by simp at g,true,fun g=>by simp at g,fun _ wr1 hx3=>QD.bad hW ((hx2.trans hy2).fresh hx3 fun z hm=>.inl (Yl hy hy1 z hm)),fun g=>by simp at g⟩
 have hK:=Wk.begin hy hy1 hx2 hs2 hM hy2;have hr:=hK.rd;have wp:=Qi.1 hW;have hm0:=Xt;refine ⟨_,_,_,_,_,_,_,_,_,_,_,he,Qe hy2 hs2,fun _=>⟨by omega,by omega⟩,X2 W c,fun _=>Qj,fun g wr1 hx3 => ?_,fun g => ?_⟩
 ·have g:X2 W c=false:=by
   cases hc:X2 W c with
   | false=>rfl
   | true=>rw [hc] at g; split at g <;> simp at g
  have hb:UJ W c false 0=1:=by unfold UJ; rw [if_pos g]
  exact QD.no hW (by rw [hb]; decide) (hK.step hx3) hb
 have g:X2 W c=true:=by
  cases hc:X2 W c with
  | true=>rfl
  | false=>rw [hc] at g; simp at g
 obtain ⟨c0,c1⟩:=VT g;refine ⟨hr.c.ix ZS c0 c1,_,hr.c.f c0 c1 (j:=0) rfl,fun g2 wr2 hx3 => ?_,fun g2=>⟨fun g3 wr3 hx3 => ?_,fun g3 => ?_⟩⟩
 ·have hb:UJ W c false 0=6:=by unfold UJ; rw [if_neg (by rw [g]; decide),if_pos (by rw [g2]; decide)]
  exact QD.no hW (by rw [hb]; decide) (hK.step hx3) hb
 ·have hr0:¬QF W=true:=fun hr=>by rw [if_pos hr] at g3; simp at g3
  have hb:UJ W c false 0=10:=by rw [Ke g g2 rfl,if_pos (by simpa using hr0)]
  rw [if_neg hr0];exact QD.no hW (by rw [hb]; decide) (hK.step hx3) hb
 have hr0:QF W=true:=Decidable.byContradiction fun hr=>by rw [if_neg hr] at g3; simp at g3
 have hb:UJ W c false 0=0:=by rw [Ke g g2 rfl,if_neg (by rw [hr0]; decide)]
 obtain ⟨_,_,_,sf⟩:=zp2 hW hb;have hset:Wk 8 [y,y1] w (sto wv m'.cO (Int.toNat c*5+0) [.bool true]) (setCp W c (M8 (gi W.cpus c) true)) m':=hK.sto (hK.own.stoC c0 c1 (j:=0) (vs:=[.bool true]) (x:=M8 (gi W.cpus c) true) rfl (by simp)) CE;refine ⟨hr.c.ix ZS c0 c1,zkd hK.own hK.nb c0 c1 (by decide),fun wr4 hx4 hs4 => ?_⟩;have e5:Qa (setCp W c (M8 (gi W.cpus c) true)) m'=Qa W m':=FR _ _ _ _;have hE:zsr W c=Qg (KN (setCp W c (M8 (gi W.cpus c) true))):=rfl;rw [hE];generalize setCp W c (M8 (gi W.cpus c) true)=V at hset sf e5;have hK4:=hset.step hx4;have hcall:=XG hK4.own sf (Int.le_refl _) (by simp only [Qk]; decide);rw [e5] at hcall;refine Calls.mono hcall ?_;rintro e1 wv1 ⟨he1,hy3⟩;refine ⟨_,_,_,_,_,_,_,_,_,_,he1,hK4.kept hy3 hs4,fun wr5 hx5 hs5 => ?_⟩;have hK5:=(hK4.deed hy3 hs4).step hx5;have hcall2:=Qq hK5.own (Ks sf (Int.le_refl _)).1.w (by simp only [Qk]; decide) (by simp only [Qk]; decide) hK5.base;rw [GI sf (Int.le_refl _),e5] at hcall2;refine Calls.mono hcall2 ?_;rintro e2 wv2 ⟨m2,he2,hy4⟩;exact ⟨_,_,_,_,_,_,_,_,_,_,he2,hK5.kept hy4 hs5,fun wr6 hx6=>QD.ok hW hb ((hK5.deed hy4 hs5).step hx6)⟩
theorem C2 {c:Int} (h:Xf [] w W m) (hl:Xe W) :
  Cz TX #[.agg (Qa W m).toArray,.int .i64 c] w fun e w'=>∃v,e = .returned v/\QD (Xh W (UJ W c true (KJ W)) (zo5 W c)) w v w':=by
 refine AM W.now m.cO W.cpus.length m.cC m.tO W.tasks.length m.tC m.gO W.groups.length m.gC c (R:=fun v w'=>QD (Xh W (UJ W c true (KJ W)) (zo5 W c)) w v w') ?_;intro y hy y1 hy1 wr hx2 hs2;have hm0:=Xt;have hlc:=hl.c;refine Calls.mono (Z1 (h.ext hx2) hl) ?_;rintro e wv (⟨hW,he,hy2⟩ | ⟨hW,m',he,hM,hy2⟩)
 ·exact ⟨_,_,_,_,_,_,_,_,_,_,_,he,Qe hy2 hs2,fun g=>by simp at g,true,fun g=>by simp at g,fun _ wr1 hx3=>QD.bad hW ((hx2.trans hy2).fresh hx3 fun z hm=>.inl (Yl hy hy1 z hm)),fun g=>by simp at g⟩
 have hK:=Wk.begin hy hy1 hx2 hs2 hM hy2;have hr:=hK.rd;have wp:=Qi.1 hW;refine ⟨_,_,_,_,_,_,_,_,_,_,_,he,Qe hy2 hs2,fun _=>⟨by omega,by omega⟩,X2 W c,fun _=>Qj,fun g wr1 hx3 => ?_,fun g => ?_⟩
 ·have g:X2 W c=false:=by
   cases hc:X2 W c with
   | false=>rfl
   | true=>rw [hc] at g; split at g <;> simp at g
  have hb:UJ W c true (KJ W)=1:=by unfold UJ; rw [if_pos g]
  exact QD.no hW (by rw [hb]; decide) (hK.step hx3) hb
 have g:X2 W c=true:=by
  cases hc:X2 W c with
  | true=>rfl
  | false=>rw [hc] at g; simp at g
 obtain ⟨c0,c1⟩:=VT g;refine ⟨hr.c.ix ZS c0 c1,_,hr.c.f c0 c1 (j:=0) rfl,fun g2 wr2 hx3 => ?_,fun g2=>⟨_,PH hr wp.a.c2,_,D9,fun g3 wr3 hx3 => ?_,fun g3=>⟨fun g4 wr4 hx3 => ?_,fun g4 => ?_⟩⟩⟩
 ·have g2:(gi W.cpus c).up=false:=by simpa using g2
  have hb:UJ W c true (KJ W)=6:=by unfold UJ; rw [if_neg (by rw [g]; decide),if_pos (by rw [g2]; decide)]
  exact QD.no hW (by rw [hb]; decide) (hK.step hx3) hb
 ·have g2:(gi W.cpus c).up=true:=by simpa using g2
  have hL:KJ W=5:=by unfold KJ; rw [if_pos (by simpa using g3)]
  have hb:UJ W c true (KJ W)=5:=by unfold UJ; rw [if_neg (by rw [g]; decide),if_neg (by rw [g2]; decide),hL,if_pos (by decide)]
  exact QD.no hW (by rw [hb]; decide) (hK.step hx3) hb
 ·have g2:(gi W.cpus c).up=true:=by simpa using g2
  have hL:KJ W=0:=by unfold KJ; rw [if_neg (by simpa using g3)]
  have hr0:¬QF W=true:=fun hr=>by rw [if_pos hr] at g4; simp at g4
  have hb:UJ W c true (KJ W)=10:=by rw [Ke g g2 hL,if_pos (by simpa using hr0)]
  rw [if_neg hr0];exact QD.no hW (by rw [hb]; decide) (hK.step hx3) hb
 have g2:(gi W.cpus c).up=true:=by simpa using g2
 have hL:KJ W=0:=by unfold KJ; rw [if_neg (by simpa using g3)]
 have hr0:QF W=true:=Decidable.byContradiction fun hr=>by rw [if_neg hr] at g4; simp at g4
 have hb:UJ W c true (KJ W)=0:=by rw [Ke g g2 hL,if_neg (by rw [hr0]; decide)]
 obtain ⟨_,_,_,sf⟩:=zmb hW hb;have hset:Wk 8 [y,y1] w (sto wv m'.cO (Int.toNat c*5+0) [.bool false]) (setCp W c (M8 (gi W.cpus c) false)) m':=hK.sto (hK.own.stoC c0 c1 (j:=0) (vs:=[.bool false]) (x:=M8 (gi W.cpus c) false) rfl (by simp)) CE;refine ⟨hr.c.ix ZS c0 c1,zkd hK.own hK.nb c0 c1 (by decide),fun wr5 hx5 hs5 => ?_⟩;have e5:Qa (setCp W c (M8 (gi W.cpus c) false)) m'=Qa W m':=FR _ _ _ _;have hlV:(setCp W c (M8 (gi W.cpus c) false)).cpus.length=W.cpus.length:=by simp [setCp]
 have hE:zo5 W c=Qg (KN (endW (setCp W c (M8 (gi W.cpus c) false)) c)):=rfl;rw [hE];generalize setCp W c (M8 (gi W.cpus c) false)=V at hset sf e5 hlV;have c1V:c<(V.cpus.length:Int):=by rw [hlV]; exact c1
 have hK4:=hset.step hx5;have hcall0:=Zj hK4.own c0 c1V;rw [e5] at hcall0;refine Calls.mono hcall0 ?_;rintro e0 wv0 ⟨he0,hy0⟩;refine ⟨_,_,_,_,_,_,_,_,_,_,he0,hK4.kept hy0 hs5,fun wr6 hx6 hs6 => ?_⟩;have sfE:=sf.endW c0 c1V;have hK6:=(hK4.deed hy0 hs5).step hx6;generalize endW V c=U at hK6 sfE;have hcall:=XG hK6.own sfE (Int.le_refl _) (by simp only [Qk]; decide);refine Calls.mono hcall ?_;rintro e1 wv1 ⟨he1,hy3⟩;refine ⟨_,_,_,_,_,_,_,_,_,_,he1,hK6.kept hy3 hs6,fun wr7 hx7 hs7 => ?_⟩;have hK7:=(hK6.deed hy3 hs6).step hx7;have hcall2:=Qq hK7.own (Ks sfE (Int.le_refl _)).1.w (by simp only [Qk]; decide) (by simp only [Qk]; decide) hK7.base;rw [GI sfE (Int.le_refl _)] at hcall2;refine Calls.mono hcall2 ?_;rintro e2 wv2 ⟨m2,he2,hy4⟩;exact ⟨_,_,_,_,_,_,_,_,_,_,he2,hK7.kept hy4 hs7,fun wr8 hx8=>QD.ok hW hb ((hK7.deed hy4 hs7).step hx8)⟩
end
noncomputable def Ps (W:Q8) (t:Int):Int:=if Zh W t=false then 2 else if (Q7 W t).state≠2 then 6 else if QF W=false then 10 else 0
def Ot (W:Q8) (t:Int):Int:=if zeb W (Q7 W t).cpu>0 then Ov W (Qo W (Q7 W t).group (Q7 W t).mask) else (Q7 W t).cpu
def Vb (W:Q8) (t c:Int):OY:={ OV W t (Q7 W t).group c with state:=1 }
def A7 (W:Q8) (t:Int):Q8:=Qg (endW (setTk W t (Vb W t (Ot W t))) (Ot W t))
theorem UA (W:Q8) (t:Int) (x:OY):(setTk W t x).tasks.length=W.tasks.length:=by simp [setTk]
theorem zh1 {W:Q8} {t:Int} (h:(Q7 W t).state=2) (c:Int):Us W t (Q7 W t).group c=setTk W t (OV W t (Q7 W t).group c):=by
 unfold Us;rw [if_neg (by rw [h]; decide)]
theorem zcw {W:Q8} {t c:Int} (sf:SF Qp (Qp+Qk) W) (t0:0<=t) (t1:t<(W.tasks.length:Int)) (n:(Q7 W t).state≠0) (c0:0<=c) (c1:c<(W.cpus.length:Int)):SF Qp (Qp+Qk) (setTk W t (Vb W t c)):=by
 have hl:=sf.w.a.t;have hu:=(sf.w.t t t0 (by omega) n).1;have hv:=zh0 sf (Int.le_refl _) (t:=t) hu c0 c1;exact sf.setTk t0 (by omega) (x:=Vb W t c) (fun _=>⟨hu,c0,c1⟩) hv.1 hv.2
theorem zii {W:Q8} {t:Int} (hW:QA W=true) (hb:Ps W t=0):Zh W t=true/\(Q7 W t).state=2/\QF W=true/\SF Qp (Qp+Qk) W/\0<=Ot W t/\Ot W t<(W.cpus.length:Int):=by
 have wp:=Qi.1 hW;unfold Ps at hb
 split at hb
 ·cases hb
 ·rename_i h1
  split at hb
  ·cases hb
  ·rename_i h2
   split at hb
   ·cases hb
   ·rename_i h3;have h1:Zh W t=true:=by simpa using h1
    have h2:(Q7 W t).state=2:=by simpa using h2
    have h3:QF W=true:=by simpa using h3
    have sw:=Oo wp (Qi.1 h3);obtain ⟨t0,t1,n⟩:=ZL h1;have hl:=wp.a.t;have hc:=sw.t t t0 (by omega) n;refine ⟨h1,h2,h3,Pp sw,?_⟩;unfold Ot;split
    ·have:=Kr wp.a (Q7 W t).group (Q7 W t).mask;exact ⟨this.1,this.2.1⟩
    ·exact hc.2
section
variable {base pb:Nat} {W W':Q8} {m:MW} {w:World}
set_option maxHeartbeats 1000000 in
theorem Fe {t:Int} (h:Xf [] w W m) (hl:Xe W) :
  Cz Vy #[.agg (Qa W m).toArray,.int .i64 t] w fun e w'=>∃v,e = .returned v/\QD (Xh W (Ps W t) (A7 W t)) w v w':=by
 refine EX W.now m.cO W.cpus.length m.cC m.tO W.tasks.length m.tC m.gO W.groups.length m.gC t (R:=fun v w'=>QD (Xh W (Ps W t) (A7 W t)) w v w') ?_;intro y hy y1 hy1 wr hx2 hs2;refine Calls.mono (Z1 (h.ext hx2) hl) ?_;rintro e wv (⟨hW,he,hy2⟩ | ⟨hW,m',he,hM,hy2⟩)
 ·exact ⟨_,_,_,_,_,_,_,_,_,_,_,he,Qe hy2 hs2,fun _ wr1 hx3=>QD.bad hW ((hx2.trans hy2).fresh hx3 fun z hm=>.inl (Yl hy hy1 z hm)),fun g=>by simp at g⟩
 have hK:=Wk.begin hy hy1 hx2 hs2 hM hy2;have hr:=hK.rd;have wp:=Qi.1 hW;refine ⟨_,_,_,_,_,_,_,_,_,_,_,he,Qe hy2 hs2,fun g=>by split at g <;> simp at g,fun _=>⟨_,Xj hr hl.t,fun g wr2 hx3 => ?_,fun g => ?_⟩⟩
 ·have g:Zh W t=false:=by simpa using g
  have hb:Ps W t=2:=by unfold Ps; rw [if_pos g]
  exact QD.no hW (by rw [hb]; decide) (hK.step hx3) hb
 have g:Zh W t=true:=by simpa using g
 obtain ⟨t0,t1,tn⟩:=ZL g;have htl:=wp.a.t;have hix:=hr.t.ix Qz t0 t1;refine ⟨hix,_,hr.t.f t0 t1 (j:=0) rfl,fun g2 wr3 hx3 => ?_,fun g2=>⟨fun g3 wr4 hx3 => ?_,fun g3 => ?_⟩⟩
 ·have g2:(Q7 W t).state≠2:=by simpa [Q7] using g2
  have hb:Ps W t=6:=by unfold Ps; rw [if_neg (by rw [g]; decide),if_pos g2]
  exact QD.no hW (by rw [hb]; decide) (hK.step hx3) hb
 ·have g2:¬(Q7 W t).state≠2:=by simpa [Q7] using g2
  have hr0:¬QF W=true:=fun hr=>by rw [if_pos hr] at g3; simp at g3
  have hb:Ps W t=10:=by unfold Ps; rw [if_neg (by rw [g]; decide),if_neg g2,if_pos (by simpa using hr0)]
  rw [if_neg hr0];exact QD.no hW (by rw [hb]; decide) (hK.step hx3) hb
 have g2:¬(Q7 W t).state≠2:=by simpa [Q7] using g2
 have hr0:QF W=true:=Decidable.byContradiction fun hr=>by rw [if_neg hr] at g3; simp at g3
 have hb:Ps W t=0:=by unfold Ps; rw [if_neg (by rw [g]; decide),if_neg g2,if_neg (by rw [hr0]; decide)]
 have hs2':(Q7 W t).state=2:=by simpa using g2
 obtain ⟨_,_,_,sf,_,_⟩:=zii hW hb;obtain ⟨hu,c0,c1⟩:=sf.w.t t t0 (by omega) tn;refine ⟨hix,_,hr.t.f t0 t1 (j:=2) rfl,_,Tr hr htl,fun g4 => ?_,fun g4 => ?_⟩
 ·have g4:zeb W (Q7 W t).cpu>0:=of_decide_eq_true g4;have hC:Ot W t=Ov W (Qo W (Q7 W t).group (Q7 W t).mask):=if_pos g4;obtain ⟨d0,d1,_⟩:=Kr wp.a (Q7 W t).group (Q7 W t).mask;refine ⟨hix,_,hr.t.f t0 t1 (j:=1) rfl,hix,_,hr.t.f t0 t1 (j:=4) rfl,_,YU hr wp.a.c2 wp.a.tree hu,_,M2 hr wp.a (zlt wp),hix,_,hr.t.f t0 t1 (j:=1) rfl,fun wr5 hx5 hs5 => ?_⟩;have hM4:=hK.step hx5;have hcall:=JS hM4.own sf (Int.le_refl _) (by simp only [Qk]; decide) (t:=t) (g:=(Q7 W t).group) (c:=Ov W (Qo W (Q7 W t).group (Q7 W t).mask)) t0 (by omega) tn hu d0 d1;refine Calls.mono hcall ?_;rintro e1 wv1 ⟨he1,hy3⟩;rw [zh1 hs2' (Ov W (Qo W (Q7 W t).group (Q7 W t).mask))] at hy3;have hK5:=hM4.deed hy3 hs5
  have hset:Wk 8 [y,y1] w (sto wv1 m'.tO (Int.toNat t*9+0) [.int .i64 1]) (setTk W t (Vb W t (Ov W (Qo W (Q7 W t).group (Q7 W t).mask)))) m':=by
   have:Wk 8 [y,y1] w (sto wv1 m'.tO (Int.toNat t*9+0) [.int .i64 1]) (setTk (setTk W t (OV W t (Q7 W t).group (Ov W (Qo W (Q7 W t).group (Q7 W t).mask)))) t (Vb W t (Ov W (Qo W (Q7 W t).group (Q7 W t).mask)))) m':=hK5.sto (hK5.own.stoT t0 (by rw [UA]; exact t1) (j:=0) (vs:=[.int .i64 1]) (x:=Vb W t (Ov W (Qo W (Q7 W t).group (Q7 W t).mask))) (by rw [show gi (setTk W t (OV W t (Q7 W t).group (Ov W (Qo W (Q7 W t).group (Q7 W t).mask)))).tasks t=_ from DW t0 t1]; rfl) (by simp)) KO
   rwa [set_set] at this
  have hixT:Ix m'.tO W.tasks.length t:=by
   have:=hK5.rd.t.ix Qz t0 (by rw [UA]; exact t1)
   rwa [UA] at this
  refine ⟨_,_,_,_,_,_,_,_,_,_,he1,hM4.kept hy3 hs5,hixT,zc1 hK5.own hK5.nb t0 (by rw [UA]; exact t1) (j:=0) (by decide),fun wr6 hx6 hs6 => ?_⟩;have e5:Qa (setTk W t (Vb W t (Ov W (Qo W (Q7 W t).group (Q7 W t).mask)))) m'=Qa W m':=GJ _ _ _ _;have hE:A7 W t=Qg (endW (setTk W t (Vb W t (Ov W (Qo W (Q7 W t).group (Q7 W t).mask)))) (Ov W (Qo W (Q7 W t).group (Q7 W t).mask))):=by unfold A7; rw [hC]
  have sfV:=zcw sf t0 t1 tn d0 d1;rw [hE];have hlV:(setTk W t (Vb W t (Ov W (Qo W (Q7 W t).group (Q7 W t).mask)))).cpus.length=W.cpus.length:=rfl;generalize setTk W t (Vb W t (Ov W (Qo W (Q7 W t).group (Q7 W t).mask)))=V at hset e5 sfV hlV;have hK6:=hset.step hx6;have hcall2:=Zj hK6.own d0 (by rw [hlV]; exact d1);rw [e5] at hcall2;refine Calls.mono hcall2 ?_;rintro e2 wv2 ⟨he2,hy4⟩;refine ⟨_,_,_,_,_,_,_,_,_,_,he2,hK6.kept hy4 hs6,fun wr7 hx7 hs7 => ?_⟩;have hK7:=(hK6.deed hy4 hs6).step hx7;have hcall3:=Qq hK7.own (sfV.endW d0 (by rw [hlV]; exact d1)).w (by simp only [Qk]; decide) (by simp only [Qk]; decide) hK7.base;refine Calls.mono hcall3 ?_;rintro e3 wv3 ⟨m2,he3,hy5⟩;exact ⟨_,_,_,_,_,_,_,_,_,_,he3,hK7.kept hy5 hs7,fun wr8 hx8=>QD.ok hW hb ((hK7.deed hy5 hs7).step hx8)⟩
 ·have g4:¬zeb W (Q7 W t).cpu>0:=of_decide_eq_false g4;have hC:Ot W t=(Q7 W t).cpu:=if_neg g4;have d0:=c0;have d1:=c1;refine ⟨hix,_,hr.t.f t0 t1 (j:=1) rfl,fun wr5 hx5 hs5 => ?_⟩;have hM4:=hK.step hx5;have hcall:=JS hM4.own sf (Int.le_refl _) (by simp only [Qk]; decide) (t:=t) (g:=(Q7 W t).group) (c:=(Q7 W t).cpu) t0 (by omega) tn hu d0 d1;refine Calls.mono hcall ?_;rintro e1 wv1 ⟨he1,hy3⟩;rw [zh1 hs2' ((Q7 W t).cpu)] at hy3;have hK5:=hM4.deed hy3 hs5
  have hset:Wk 8 [y,y1] w (sto wv1 m'.tO (Int.toNat t*9+0) [.int .i64 1]) (setTk W t (Vb W t ((Q7 W t).cpu))) m':=by
   have:Wk 8 [y,y1] w (sto wv1 m'.tO (Int.toNat t*9+0) [.int .i64 1]) (setTk (setTk W t (OV W t (Q7 W t).group ((Q7 W t).cpu))) t (Vb W t ((Q7 W t).cpu))) m':=hK5.sto (hK5.own.stoT t0 (by rw [UA]; exact t1) (j:=0) (vs:=[.int .i64 1]) (x:=Vb W t ((Q7 W t).cpu)) (by rw [show gi (setTk W t (OV W t (Q7 W t).group ((Q7 W t).cpu))).tasks t=_ from DW t0 t1]; rfl) (by simp)) KO
   rwa [set_set] at this
  have hixT:Ix m'.tO W.tasks.length t:=by
   have:=hK5.rd.t.ix Qz t0 (by rw [UA]; exact t1)
   rwa [UA] at this
  refine ⟨_,_,_,_,_,_,_,_,_,_,he1,hM4.kept hy3 hs5,hixT,zc1 hK5.own hK5.nb t0 (by rw [UA]; exact t1) (j:=0) (by decide),fun wr6 hx6 hs6 => ?_⟩;have e5:Qa (setTk W t (Vb W t ((Q7 W t).cpu))) m'=Qa W m':=GJ _ _ _ _;have hE:A7 W t=Qg (endW (setTk W t (Vb W t ((Q7 W t).cpu))) ((Q7 W t).cpu)):=by unfold A7; rw [hC]
  have sfV:=zcw sf t0 t1 tn d0 d1;rw [hE];have hlV:(setTk W t (Vb W t ((Q7 W t).cpu))).cpus.length=W.cpus.length:=rfl;generalize setTk W t (Vb W t ((Q7 W t).cpu))=V at hset e5 sfV hlV;have hK6:=hset.step hx6;have hcall2:=Zj hK6.own d0 (by rw [hlV]; exact d1);rw [e5] at hcall2;refine Calls.mono hcall2 ?_;rintro e2 wv2 ⟨he2,hy4⟩;refine ⟨_,_,_,_,_,_,_,_,_,_,he2,hK6.kept hy4 hs6,fun wr7 hx7 hs7 => ?_⟩;have hK7:=(hK6.deed hy4 hs6).step hx7;have hcall3:=Qq hK7.own (sfV.endW d0 (by rw [hlV]; exact d1)).w (by simp only [Qk]; decide) (by simp only [Qk]; decide) hK7.base;refine Calls.mono hcall3 ?_;rintro e3 wv3 ⟨m2,he3,hy5⟩;exact ⟨_,_,_,_,_,_,_,_,_,_,he3,hK7.kept hy5 hs7,fun wr8 hx8=>QD.ok hW hb ((hK7.deed hy5 hs7).step hx8)⟩
end
theorem zal {a b w:Int} (ha:0<=a) (hb:0<=b) (h:a+b<=100000000) (w1:1<=w) (w2:w<=20):QZ (a+b) w=QZ a w+QZ b w:=by
 rw [Ta (by omega) h w1 w2,Ta ha (by omega) w1 w2,Ta hb (by omega) w1 w2,Int.add_mul]
theorem zjb {l w:Int} (h0:0<=l) (h1:l<=Zk w):YV l w=l:=by
 unfold YV;rw [if_neg (show ¬Zk w<l by omega)]
 split <;> omega
theorem OZ {p q:Nat->Bool}:∀{n:Nat},(∀j,j<n->p j=q j)->Vg p n=Vg q n
 | 0,_=>rfl
 | n+1,h=>by simp only [Vg]; rw [OZ fun j hj=>h j (by omega),h n (by omega)]
theorem OC {p q:Nat->Bool} {v u:Nat->Int}:∀{n:Nat},(∀j,j<n->p j=q j)->(∀j,j<n->p j=true->v j=u j)->QI p v n=QI q u n
 | 0,_,_=>rfl
 | n+1,h,hv=>by
  have ih:=OC (p:=p) (q:=q) (v:=v) (u:=u) (n:=n) (fun j hj=>h j (by omega)) fun j hj=>hv j (by omega)
  simp only [QI];rw [ih,<-h n (by omega)]
  cases hp:p n with
  | false=>simp
  | true=>
   rw [hv n (by omega) hp];rcases Z8 q u n with ⟨e,_⟩ | ⟨e0,e1,e2,_⟩
   ·rw [e]; simp
   ·rw [hv _ (by omega) (by rw [h _ (by omega)]; exact e2)]
theorem Yk {gs:List Zv} (ht:ZP gs):∀g:Int,Q6 gs g=true->∀x∈QQ gs g,Q6 gs x=true/\x≠0:=
 Oi ht (fun x hx=>by rw [show QQ gs 0=[] from Z2 _ _] at hx; cases hx) fun h hu hz ih x hx=>by
  rw [Y2 ht hu hz] at hx;rcases List.mem_cons.1 hx with e | e
  ·subst e; exact ⟨hu,hz⟩
  ·exact ih x e
def Uv (W:Q8) (k c:Int):Prop:=(Qb W (gi W.groups k).parent c).floor<=(Qb W k c).v/\(Qb W k c).v - (Qb W (gi W.groups k).parent c).floor<=Zk (Qb W k c).w
structure G7 (W:Q8) (x:OY):Prop where
 st:x.state=1\/x.state=2
 g:Q6 W.groups x.group=true
 n:Qd x.nice≠0
 m:Tt x.mask=true
 m0:x.mask≠0
 s:Zs x.sum=true
 u:Zs x.used=true
 l1:0<=x.load
 l2:x.load<=8000000
 f:x.state=1->(Qb W x.group x.cpu).floor<=x.v/\x.v - (Qb W x.group x.cpu).floor<=Zk (Qd x.nice)
structure ze5 (W:Q8) (k c:Int):Prop where
 s:Zs (Qb W k c).sum=true
 root:k=0->(Qb W k c).on=false/\(Qb W k c).v=0/\(Qb W k c).w=10
 st:k≠0->(Qb W k c).on=true->Uv W k c
structure zp9 (W:Q8) (c:Int):Prop where
 b:Zs (gi W.cpus c).busy=true
 i:Zs (gi W.cpus c).idle=true
 c1 : -1<=(gi W.cpus c).cur
 c2:(gi W.cpus c).cur<12
 no:(gi W.cpus c).cur<0->(gi W.cpus c).ran=0
 yes:0<=(gi W.cpus c).cur->(gi W.cpus c).up=true/\1<=(gi W.cpus c).ran/\(gi W.cpus c).ran<=149
 q:0<=(gi W.cpus c).cur->(Q7 W (gi W.cpus c).cur).state=1->(Q7 W (gi W.cpus c).cur).cpu=c->
  (Q7 W (gi W.cpus c).cur).v - (Qb W (Q7 W (gi W.cpus c).cur).group c).floor<=QZ (gi W.cpus c).ran (Qd (Q7 W (gi W.cpus c).cur).nice)/\
  ∀x∈QQ W.groups (Q7 W (gi W.cpus c).cur).group,Uv W x c/\(Qb W x c).v - (Qb W (gi W.groups x).parent c).floor<=QZ (gi W.cpus c).ran (Qb W x c).w
structure PreA (W:Q8):Prop where
 a:WA W
 t:∀t:Int,0<=t->t<12->(Q7 W t).state=0/\Q7 W t=Vl\/(Q7 W t).state≠0/\G7 W (Q7 W t)
 l:∀t:Int,0<=t->t<12->(Q7 W t).state≠0->0<=(Q7 W t).cpu/\(Q7 W t).cpu<(W.cpus.length:Int)
 s:∀k c:Int,Q6 W.groups k=true->0<=c->c<(W.cpus.length:Int)->ze5 W k c
structure Vc (W:Q8):Prop extends PreA W where
 c:∀c:Int,0<=c->c<(W.cpus.length:Int)->zp9 W c
def B4 (W:Q8):Prop:=∀t:Int,0<=t->t<12->(Q7 W t).state≠0->Z4 (Qo W (Q7 W t).group (Q7 W t).mask) (Q7 W t).cpu=true
def zso (W:Q8):Prop:=∀k c:Int,Q6 W.groups k=true->0<=c->c<(W.cpus.length:Int)->ZC W k c 20=true->Z5 W k c 20<=(Qb W k c).floor
theorem Hi {v f k:Int} (hv:Zs v=true) (hf:Zs f=true):OX v f k=true↔f<=v/\v - f<=Zk k:=by
 have h1:=ZU.1 hv;have h2:=ZU.1 hf;have hw:IntKind.i64.wrap (v - f)=v - f:=Qn.wrap (k:=.i64) ⟨by show _<=v - f; omega,by show v - f<=_; omega⟩;unfold OX;rw [hw];simp
theorem JN {W:Q8} (wp:Xn W):B4 W:=fun t t0 t1 n=>by
 rcases wp.t t t0 t1 with h | h
 ·exact absurd h.1 n
 ·exact h.2.c
theorem LV {W:Q8} (wp:Xn W) {k c:Int} (hu:Q6 W.groups k=true) (c0:0<=c) (c1:c<(W.cpus.length:Int)):OJ W k c:=by
 obtain ⟨u0,u1,_⟩:=wp.a.u hu;have hl:=wp.a.sl hu;exact wp.s k c u0 u1 c0 (by omega)
theorem YX {W:Q8} (wp:Xn W):Vc W:=by
 have hst:∀k c:Int,Q6 W.groups k=true->k≠0->0<=c->c<(W.cpus.length:Int)->(Qb W k c).on=true->Uv W k c:=fun k c hu hz c0 c1 ho=>by
  have h1:=LV wp hu c0 c1;have h2:=LV wp (wp.a.up hu hz) c0 c1;exact (Hi h1.v h2.f).1 (h1.st hz ho)
 refine ⟨⟨wp.a,fun t t0 t1 => ?_,fun t t0 t1 n => ?_,fun k c hu c0 c1 => ?_⟩,fun c c0 c1 => ?_⟩
 ·rcases wp.t t t0 t1 with h | ⟨n,h⟩
  ·exact .inl h
  ·refine .inr ⟨n,h.st,h.g,h.n,h.m,h.m0,h.s,h.u,h.l1,h.l2,fun h1 => ?_⟩;obtain ⟨d0,d1⟩:=Ms wp.a h.c;exact (Hi h.v (LV wp h.g d0 d1).f).1 (h.f h1)
 ·rcases wp.t t t0 t1 with h | ⟨_,h⟩
  ·exact absurd h.1 n
  ·exact Ms wp.a h.c
 ·have h:=LV wp hu c0 c1;exact ⟨h.s,h.root,fun hz ho=>hst k c hu hz c0 c1 ho⟩
 ·have h:=wp.c c c0 c1;have hl:=wp.a.t;refine ⟨h.b,h.i,h.c1,by have:=h.c2; omega,h.no,fun h0=>⟨(h.yes h0).1,(h.yes h0).2.1,(h.yes h0).2.2.1⟩,fun h0 h1 h2 => ?_⟩;obtain ⟨_,_,_,_,hline,hstay⟩:=h.yes h0;unfold On at hstay;rw [Bool.and_eq_true,decide_eq_true_eq] at hstay;refine ⟨hstay.1,fun x hx => ?_⟩
  have hu:Q6 W.groups (Q7 W (gi W.cpus c).cur).group=true:=by
   rcases wp.t _ h0 (by have:=h.c2; omega) with hz | ⟨_,hz⟩
   ·rw [hz.1] at h1; cases h1
   ·exact hz.g
  obtain ⟨xu,xz⟩:=Yk wp.a.tree _ hu x hx;unfold Zr JT at hline;rw [Bool.and_eq_true,h2,List.all_eq_true] at hline;have hs:=hstay.2;unfold Vk at hs;rw [List.all_eq_true] at hs;exact ⟨hst x c xu xz c0 c1 (hline.2 x hx),of_decide_eq_true (hs x hx)⟩
structure Hu (c:Int) (W W':Q8):Prop where
 n:W'.now=W.now
 t:W'.tasks=W.tasks
 g:QP W.groups W'.groups
 len:W'.cpus.length=W.cpus.length
 b:∀i:Int,0<=i->(gi W'.groups i).band=(gi W.groups i).band
 e:∀k d:Int,0<=k->0<=d->d≠c->Qb W' k d=Qb W k d
 cp:∀d:Int,0<=d->d≠c->gi W'.cpus d=gi W.cpus d
theorem Hu.refl (c:Int) (W:Q8):Hu c W W:=⟨rfl,rfl,QP.refl _,rfl,fun _ _=>rfl,fun _ _ _ _ _=>rfl,fun _ _ _=>rfl⟩
theorem Hu.trans {c:Int} {A B C:Q8} (h:Hu c A B) (k:Hu c B C):Hu c A C:=⟨k.n.trans h.n,k.t.trans h.t,h.g.trans k.g,k.len.trans h.len,fun i hi=>(k.b i hi).trans (h.b i hi),fun i d hi hd hn=>(k.e i d hi hd hn).trans (h.e i d hi hd hn),fun d hd hn=>(k.cp d hd hn).trans (h.cp d hd hn)⟩
theorem Dv {W:Q8} {g c:Int} {s:Ma} (h0:0<=g) (h1:g<(W.groups.length:Int)) (c0:0<=c) (c1:c<((gi W.groups g).shelves.length:Int)):Hu c W (setSh W g c s):=
 ⟨rfl,rfl,Xd h0 h1,rfl,fun i hi=>CJ h0 h1 hi,fun k d hk hd hn=>by
  rw [XV h0 h1 c0 c1 hk hd,if_neg fun h=>hn h.2.symm],fun _ _ _=>rfl⟩
theorem zd2 {W:Q8} {c:Int} (c0:0<=c) (c1:c<(W.cpus.length:Int)):Hu c W (endW W c):=
 ⟨rfl,rfl,QP.refl _,List.length_set,fun _ _=>rfl,fun _ _ _ _ _=>rfl,fun d d0 hn=>by
  show gi (W.cpus.set c.toNat (Xi (gi W.cpus c))) d=_;rw [Qw _ _ c0 c1 d0,if_neg fun h=>hn h.symm]⟩
section
variable {c d:Int} {W W':Q8}
theorem T0 (ht:W'.tasks=W.tasks) (hT:QP W.groups W'.groups) {g:Int} (h:∀j:Nat,j<W.groups.length->1<=j->(gi W.groups (j:Int)).used=true->(gi W.groups (j:Int)).parent=g->(Qb W' (j:Int) d).on=(Qb W (j:Int) d).on):QN W' g d=QN W g d:=by
 unfold QN;rw [ht,hT.len]
 congr 1
 ·refine OZ fun j _ => ?_
  unfold Te;rw [ht]
 ·refine OZ fun j hj => ?_
  unfold XL;rw [hT.u,hT.p]
  by_cases h1:1<=j
  ·cases hu:(gi W.groups (j:Int)).used with
   | false=>simp
   | true=>
    by_cases hp:(gi W.groups (j:Int)).parent=g
    ·rw [h j hj h1 hu hp]
    ·rw [show ((gi W.groups (j:Int)).parent==g)=false from beq_false_of_ne hp]; simp
  ·simp [h1]
theorem zjh (ht:W'.tasks=W.tasks) (hT:QP W.groups W'.groups) (hl:W.groups.length=8) (h:∀k:Int,0<=k->(Qb W' k d).on=(Qb W k d).on) (g:Int) {j:Nat} (hj:j<20):Za W' g d j=Za W g d j:=by
 unfold Za;split
 ·unfold Te; rw [ht]
 ·unfold XL;rw [hT.u,hT.p,h _ (by omega)]
theorem CZ (ht:W'.tasks=W.tasks) (h:∀k:Int,0<=k->(Qb W' k d).v=(Qb W k d).v) (j:Nat):Zb W' d j=Zb W d j:=by
 unfold Zb;split
 ·unfold Q7; rw [ht]
 ·rw [h _ (by omega)]
theorem HP (ht:W'.tasks=W.tasks) (hT:QP W.groups W'.groups) (hl:W.groups.length=8) (h:∀k:Int,0<=k->(Qb W' k d).on=(Qb W k d).on) (hv:∀k:Int,0<=k->(Qb W' k d).v=(Qb W k d).v) (g:Int):ZC W' g d 20=ZC W g d 20/\Z5 W' g d 20=Z5 W g d 20:=by
 have e:QI (Za W' g d) (Zb W' d) 20=QI (Za W g d) (Zb W d) 20:=OC (fun j hj=>zjh ht hT hl h g hj) fun j _ _=>CZ ht hv j
 unfold ZC Z5;rw [e];refine ⟨rfl,?_⟩;split
 ·rfl
 ·exact CZ ht hv _
theorem Xx (ht:W'.tasks=W.tasks) (t:Int):Q7 W' t=Q7 W t:=by unfold Q7; rw [ht]
theorem V7 (hT:QP W.groups W'.groups) (g:Int):QQ W'.groups g=QQ W.groups g:=hT.path 3 g
theorem zbe {g:Int} (hb:(gi W'.groups g).band=(gi W.groups g).band):UE W' g d=UE W g d:=by unfold UE; rw [hb]
end
theorem zg3 {W:Q8} {g c:Int} {j:Nat} (hj:j<20) (h:Za W g c j=true):ZC W g c 20=true/\Z5 W g c 20<=Zb W c j:=by
 unfold ZC Z5;rcases Z8 (Za W g c) (Zb W c) 20 with ⟨_,h2⟩ | ⟨h1,_,_,h4,_⟩
 ·rw [h2 j hj] at h; cases h
 ·rw [if_neg (by omega)];exact ⟨decide_eq_true h1,h4 j hj h⟩
theorem zio {W:Q8} (ha:WA W) {t:Int} (t0:0<=t) (t1:t<12) (hs:(Q7 W t).state=1):ZC W (Q7 W t).group (Q7 W t).cpu 20=true/\Z5 W (Q7 W t).group (Q7 W t).cpu 20<=(Q7 W t).v:=by
 have e:((t.toNat:Nat):Int)=t:=by omega
 have h:Za W (Q7 W t).group (Q7 W t).cpu t.toNat=true:=by
  rw [V4 (by omega)];unfold Te;rw [e];show (((Q7 W t).state==1)&&((Q7 W t).group==_)&&((Q7 W t).cpu==_))=true;rw [hs]; simp
 have:=zg3 (by omega) h
 rwa [Dl (by omega),e] at this
theorem ze7 {W:Q8} (ha:WA W) {k c:Int} (hu:Q6 W.groups k=true) (hz:k≠0) (ho:(Qb W k c).on=true):ZC W (gi W.groups k).parent c 20=true/\Z5 W (gi W.groups k).parent c 20<=(Qb W k c).v:=by
 obtain ⟨k0,k1,ku⟩:=Q5.1 hu;have hl:=ha.gl;have e:((k.toNat:Nat):Int)=k:=by omega
 have h:Za W (gi W.groups k).parent c (12+k.toNat)=true:=by
  rw [Jk];unfold XL;rw [e,ku,ho];simp;omega
 have:=zg3 (by omega) h
 rwa [Dk,e] at this
structure LC (c:Int) (W W':Q8):Prop where
 o:Hu c W W'
 cs:W'.cpus=W.cpus
 f:∀k d:Int,0<=k->0<=d->(Qb W' k d).floor=(Qb W k d).floor
 w:∀k d:Int,0<=k->0<=d->(Qb W' k d).w=(Qb W k d).w
 s:∀k d:Int,0<=k->0<=d->(Qb W' k d).sum=(Qb W k d).sum
 r:∀d:Int,0<=d->Qb W' 0 d=Qb W 0 d
 v:∀k d:Int,Q6 W.groups k=true->k≠0->0<=d->Uv W k d->(Qb W' k d).v=(Qb W k d).v
theorem LC.refl (c:Int) (W:Q8):LC c W W:=⟨Hu.refl _ _,rfl,fun _ _ _ _=>rfl,fun _ _ _ _=>rfl,fun _ _ _ _=>rfl,fun _ _=>rfl,fun _ _ _ _ _ _=>rfl⟩
theorem LC.st {c:Int} {W W':Q8} (ht:ZP W.groups) (h:LC c W W') {k d:Int} (hu:Q6 W.groups k=true) (hz:k≠0) (d0:0<=d) (hs:Uv W k d):Uv W' k d:=by
 have hp:=(Q5.1 (ZQ ht hu hz).1).1;have k0:=(Q5.1 hu).1;unfold Uv;rw [h.o.g.p,h.f _ d hp d0,h.v k d hu hz d0 hs,h.w k d k0 d0];exact hs
theorem LC.trans {c:Int} {A B C:Q8} (ht:ZP A.groups) (h:LC c A B) (k:LC c B C):LC c A C:=
 ⟨h.o.trans k.o,k.cs.trans h.cs,fun i d a b=>(k.f i d a b).trans (h.f i d a b),fun i d a b=>(k.w i d a b).trans (h.w i d a b),fun i d a b=>(k.s i d a b).trans (h.s i d a b),fun d a=>(k.r d a).trans (h.r d a),fun i d hu hz d0 hs=>by
  rw [k.v i d (by rw [h.o.g.usd]; exact hu) hz d0 (h.st ht hu hz d0 hs),h.v i d hu hz d0 hs]⟩
theorem Vc.lc {c:Int} {W W':Q8} (p:Vc W) (h:LC c W W') (ha:WA W') (hon:∀k d:Int,Q6 W.groups k=true->k≠0->0<=d->d<(W.cpus.length:Int)->(Qb W' k d).on=true->Uv W' k d):Vc W':=by
 have et:∀t,Q7 W' t=Q7 W t:=Xx h.o.t;refine ⟨⟨ha,fun t t0 t1 => ?_,fun t t0 t1 n => ?_,fun k d hu d0 d1 => ?_⟩,fun d d0 d1 => ?_⟩
 ·rw [et];rcases p.t t t0 t1 with hz | ⟨n,hx⟩
  ·exact .inl hz
  ·refine .inr ⟨n,hx.st,by rw [h.o.g.usd]; exact hx.g,hx.n,hx.m,hx.m0,hx.s,hx.u,hx.l1,hx.l2,fun h1 => ?_⟩;rw [h.f _ _ (Q5.1 hx.g).1 (p.l t t0 t1 n).1];exact hx.f h1
 ·rw [et] at n ⊢;rw [h.o.len];exact p.l t t0 t1 n
 ·rw [h.o.g.usd] at hu;rw [h.cs] at d1;have hs:=p.s k d hu d0 d1;have k0:=(Q5.1 hu).1;refine ⟨by rw [h.s k d k0 d0]; exact hs.s,fun hz => ?_,fun hz ho=>hon k d hu hz d0 d1 ho⟩;subst hz;rw [h.r d d0];exact hs.root rfl
 ·rw [h.cs] at d1;have hc:=p.c d d0 d1;refine ⟨by rw [h.cs]; exact hc.b,by rw [h.cs]; exact hc.i,by rw [h.cs]; exact hc.c1,by rw [h.cs]; exact hc.c2,by rw [h.cs]; exact hc.no,by rw [h.cs]; exact hc.yes,?_⟩;rw [h.cs];simp only [et];intro h0 h1 h2;obtain ⟨q1,q2⟩:=hc.q h0 h1 h2
  have hu:Q6 W.groups (Q7 W (gi W.cpus d).cur).group=true:=by
   rcases p.t _ h0 hc.c2 with hz | ⟨_,hx⟩
   ·rw [hz.1] at h1; cases h1
   ·exact hx.g
  refine ⟨by rw [h.f _ d (Q5.1 hu).1 d0]; exact q1,fun x hx => ?_⟩;rw [V7 h.o.g] at hx;obtain ⟨xu,xz⟩:=Yk p.a.tree _ hu x hx;obtain ⟨s1,s2⟩:=q2 x hx;refine ⟨h.st p.a.tree xu xz d0 s1,?_⟩;rw [h.o.g.p,h.v x d xu xz d0 s1,h.f _ d (Q5.1 (p.a.up xu xz)).1 d0,h.w x d (Q5.1 xu).1 d0];exact s2
def UF (W:Q8) (c k:Int):Prop:=(Qb W k c).on=(QN W k c && !UE W k c)
theorem zlv {W:Q8} (p:Vc W) {k c d:Int} (hu:Q6 W.groups k=true) (hd:dep 3 W.groups k=d) (d1:1<=d) (c0:0<=c) (c1:c<(W.cpus.length:Int)) :
  LC c W (setSh W k c (Ye W k c))/\Vc (setSh W k c (Ye W k c))/\UF (setSh W k c (Ye W k c)) c k/\∀g:Int,Q6 W.groups g=true->g≠k->(gi W.groups k).parent≠g->UF W c g->UF (setSh W k c (Ye W k c)) c g:=by
 have hz:k≠0:=fun e=>by subst e; rw [Y4] at hd; omega
 obtain ⟨u0,u1,_⟩:=Q5.1 hu;have hl:=p.a.gl;have hsl:=p.a.sl hu;have c1':c<((gi W.groups k).shelves.length:Int):=by omega
 have hpu:=p.a.up hu hz
 have hpk:(gi W.groups k).parent≠k:=fun e=>by
  obtain ⟨_,_,_,n,e1,e2,_⟩:=ZQ p.a.tree hu hz;rw [e] at e2; omega
 have e:∀{i j:Int},0<=i->0<=j->Qb (setSh W k c (Ye W k c)) i j=if k=i/\c=j then Ye W k c else Qb W i j:=fun hi hj=>XV u0 u1 c0 c1' hi hj
 have ev:Uv W k c->(Ye W k c).v=(Qb W k c).v:=fun hs=>by
  simp only [Ye];split
  ·rw [zjb (by have:=hs.1; omega) hs.2]; omega
  ·rfl
 have eq0:∀{i j:Int},k=i/\c=j->(Ye W k c).floor=(Qb W i j).floor/\(Ye W k c).w=(Qb W i j).w/\(Ye W k c).sum=(Qb W i j).sum:=fun h=>by
  obtain ⟨rfl,rfl⟩:=h; exact ⟨rfl,rfl,rfl⟩
 have hT:=Xd (W:=W) (g:=k) (c:=c) (s:=Ye W k c) u0 u1
 have lc:LC c W (setSh W k c (Ye W k c)):=by
  refine ⟨Dv u0 u1 c0 c1',rfl,fun i j hi hj => ?_,fun i j hi hj => ?_,fun i j hi hj => ?_,fun j hj => ?_,fun i j iu iz hj hs => ?_⟩
  ·rw [e hi hj]; split
   ·rename_i h; exact (eq0 h).1
   ·rfl
  ·rw [e hi hj]; split
   ·rename_i h; exact (eq0 h).2.1
   ·rfl
  ·rw [e hi hj]; split
   ·rename_i h; exact (eq0 h).2.2
   ·rfl
  ·rw [e (Int.le_refl 0) hj,if_neg fun h=>hz h.1]
  ·rw [e (Q5.1 iu).1 hj]; split
   ·rename_i h;obtain ⟨rfl,rfl⟩:=h;exact ev hs
   ·rfl
 have act:∀g:Int,(gi W.groups k).parent≠g->QN (setSh W k c (Ye W k c)) g c=QN W g c:=fun g hg=>by
  refine T0 (W:=W) (W':=setSh W k c (Ye W k c)) rfl hT fun j hj _ _ hp => ?_
  rw [e (by omega) c0,if_neg];rintro ⟨h,_⟩;exact hg (by rw [h]; exact hp)
 have hoe:UF (setSh W k c (Ye W k c)) c k:=by
  unfold UF;rw [e u0 c0,if_pos ⟨rfl,rfl⟩,act k hpk,Kf u0 u1 u0];rfl
 refine ⟨lc,p.lc lc (p.a.setSh u0 (by omega)) fun i j iu iz j0 j1 ho => ?_,hoe,fun g gu gk hg h => ?_⟩
 ·by_cases h:k=i/\c=j
  ·obtain ⟨rfl,rfl⟩:=h
   by_cases hs:Uv W k c
   ·exact lc.st p.a.tree hu hz c0 hs
   ·have hoff:(Qb W k c).on=false:=by
     cases hb:(Qb W k c).on with
     | false=>rfl
     | true=>exact absurd ((p.s k c hu c0 c1).st hz hb) hs
    rw [e u0 c0,if_pos ⟨rfl,rfl⟩] at ho;have ho:(QN W k c && !UE W k c)=true:=ho;unfold Uv;rw [hT.p,e u0 c0,if_pos ⟨rfl,rfl⟩,lc.f _ c (Q5.1 hpu).1 c0];simp only [Ye];rw [if_pos ⟨ho,hoff⟩];have:=ZO ((Qb W k c).v - (Qb W (gi W.groups k).parent c).floor) (Qb W k c).w;omega
  ·rw [e (Q5.1 iu).1 j0,if_neg h] at ho;exact lc.st p.a.tree iu iz j0 ((p.s i j iu j0 j1).st iz ho)
 ·unfold UF;have g0:=(Q5.1 gu).1;rw [e g0 c0,if_neg fun h=>gk h.1.symm,act g hg,Kf u0 u1 g0];exact h
theorem zdw {W:Q8} (p:Vc W) {c d:Int} (d1:1<=d) (c0:0<=c) (c1:c<(W.cpus.length:Int)) (hI:∀g:Int,Q6 W.groups g=true->d<dep 3 W.groups g->UF W c g):∀k:Nat,k<=8->
  LC c W (ZK W c d k)/\Vc (ZK W c d k)/\∀g:Int,Q6 W.groups g=true->d<dep 3 W.groups g\/dep 3 W.groups g=d/\g<(k:Int)->UF (ZK W c d k) c g
 | 0,_=>⟨LC.refl _ _,p,fun g gu h=>hI g gu (by
   rcases h with h | h
   ·exact h
   ·have:=(Q5.1 gu).1;have:=h.2;omega)⟩
 | k+1,hk=>by
  obtain ⟨a,b,ih⟩:=zdw p d1 c0 c1 hI k (by omega);have hl:=b.a.gl;have hT:=a.o.g;simp only [ZK];split
  ·rename_i hc;have hu:Q6 (ZK W c d k).groups (k:Int)=true:=Q5.2 ⟨by omega,by omega,hc.1⟩;obtain ⟨l1,l2,l3,l4⟩:=zlv b hu hc.2 d1 c0 (c:=c) (by rw [a.cs]; exact c1);refine ⟨a.trans p.a.tree l1,l2,fun g gu h => ?_⟩
   by_cases e:g=(k:Int)
   ·subst e; exact l3
   ·have hkz:(k:Int)≠0:=fun e=>by have:=hc.2; rw [e,Y4] at this; omega
    obtain ⟨_,_,_,n,e1,e2,_⟩:=ZQ b.a.tree hu hkz;refine l4 g (by rw [hT.usd]; exact gu) e (fun hp => ?_) (ih g gu ?_)
    ·rw [hp,hT.dep] at e2;have:=hc.2;omega
    ·rcases h with h | h
     ·exact .inl h
     ·exact .inr ⟨h.1,by have:=h.2; omega⟩
  ·rename_i hc;refine ⟨a,b,fun g gu h=>ih g gu ?_⟩;rcases h with h | h
   ·exact .inl h
   ·refine .inr ⟨h.1,?_⟩
    by_cases e:g=(k:Int)
    ·subst e;exact absurd ⟨by rw [hT.u]; exact (Q5.1 gu).2.2,by rw [hT.dep]; exact h.1⟩ hc
    ·have:=h.2;omega
theorem CX {W:Q8} (p:Vc W) {c:Int} (c0:0<=c) (c1:c<(W.cpus.length:Int)):LC c W (QJ W c)/\Vc (QJ W c)/\∀g:Int,Q6 W.groups g=true->g≠0->UF (QJ W c) c g:=by
 have key:∀j:Nat,j<=3->LC c W (Xs W c j)/\Vc (Xs W c j)/\∀g:Int,Q6 W.groups g=true->3 - (j:Int)<dep 3 W.groups g->UF (Xs W c j) c g:=by
  intro j
  induction j with
  | zero=>exact fun _=>⟨LC.refl _ _,p,fun g gu h=>by have:=(Mt p.a gu).2; omega⟩
  | succ j ih=>
   intro hj;obtain ⟨a,b,h⟩:=ih (by omega);have hT:=a.o.g;obtain ⟨a2,b2,h2⟩:=zdw b (c:=c) (d:=3 - (j:Int)) (by omega) c0 (by rw [a.cs]; exact c1) (fun g gu hd=>h g (by rwa [hT.usd] at gu) (by rwa [hT.dep] at hd)) 8 (Nat.le_refl _);refine ⟨a.trans p.a.tree a2,b2,fun g gu hd=>h2 g (by rw [hT.usd]; exact gu) ?_⟩;rw [hT.dep];have:=(Q5.1 gu).2.1;have:=p.a.gl
   by_cases e:dep 3 W.groups g=3 - (j:Int)
   ·exact .inr ⟨e,by omega⟩
   ·exact .inl (by omega)
 obtain ⟨a,b,h⟩:=key 3 (Nat.le_refl _);refine ⟨a,b,fun g gu gz=>h g gu ?_⟩;obtain ⟨_,_,_,n,e1,_⟩:=ZQ p.a.tree gu gz;omega
theorem Nk {W:Q8} (p:Vc W):∀c:Nat,c<=W.cpus.length->Vc (Yz W c)/\(Yz W c).cpus=W.cpus
 | 0,_=>⟨p,rfl⟩
 | c+1,hc=>by
  obtain ⟨a,e⟩:=Nk p c (by omega);obtain ⟨l,b,_⟩:=CX a (c:=(c:Int)) (by omega) (by rw [e]; omega);exact ⟨b,l.cs.trans e⟩
theorem Vc.onlyB {W W':Q8} (p:Vc W) (ho:UH W W') (ha:WA W'):Vc W':=by
 have et:∀t,Q7 W' t=Q7 W t:=Xx ho.t;have es:∀k d:Int,0<=k->Qb W' k d=Qb W k d:=fun k d hk=>by unfold Qb; rw [ho.s k hk]
 have est:∀k d:Int,Q6 W.groups k=true->k≠0->(Uv W' k d↔Uv W k d):=fun k d hu hz=>by
  unfold Uv;rw [ho.g.p,es _ _ (Q5.1 (p.a.up hu hz)).1,es _ _ (Q5.1 hu).1]
 refine ⟨⟨ha,fun t t0 t1 => ?_,fun t t0 t1 n => ?_,fun k d hu d0 d1 => ?_⟩,fun d d0 d1 => ?_⟩
 ·rw [et];rcases p.t t t0 t1 with hz | ⟨n,hx⟩
  ·exact .inl hz
  ·refine .inr ⟨n,hx.st,by rw [ho.g.usd]; exact hx.g,hx.n,hx.m,hx.m0,hx.s,hx.u,hx.l1,hx.l2,fun h1 => ?_⟩;rw [es _ _ (Q5.1 hx.g).1];exact hx.f h1
 ·rw [et] at n ⊢;rw [ho.c];exact p.l t t0 t1 n
 ·rw [ho.g.usd] at hu;rw [ho.c] at d1;have hs:=p.s k d hu d0 d1;have k0:=(Q5.1 hu).1;exact ⟨by rw [es k d k0]; exact hs.s,by rw [es k d k0]; exact hs.root,fun hz h=>(est k d hu hz).2 (hs.st hz (by rwa [es k d k0] at h))⟩
 ·rw [ho.c] at d1;have hc:=p.c d d0 d1;refine ⟨by rw [ho.c]; exact hc.b,by rw [ho.c]; exact hc.i,by rw [ho.c]; exact hc.c1,by rw [ho.c]; exact hc.c2,by rw [ho.c]; exact hc.no,by rw [ho.c]; exact hc.yes,?_⟩;rw [ho.c];simp only [et];intro h0 h1 h2;obtain ⟨q1,q2⟩:=hc.q h0 h1 h2
  have hu:Q6 W.groups (Q7 W (gi W.cpus d).cur).group=true:=by
   rcases p.t _ h0 hc.c2 with hz | ⟨_,hx⟩
   ·rw [hz.1] at h1; cases h1
   ·exact hx.g
  refine ⟨by rw [es _ d (Q5.1 hu).1]; exact q1,fun x hx => ?_⟩;rw [V7 ho.g] at hx;obtain ⟨xu,xz⟩:=Yk p.a.tree _ hu x hx;obtain ⟨s1,s2⟩:=q2 x hx;refine ⟨(est x d xu xz).2 s1,?_⟩;rw [ho.g.p,es x d (Q5.1 xu).1,es _ d (Q5.1 (p.a.up xu xz)).1];exact s2
structure FC (c:Int) (W W':Q8):Prop where
 o:Hu c W W'
 cs:W'.cpus=W.cpus
 on:∀k d:Int,0<=k->0<=d->(Qb W' k d).on=(Qb W k d).on
 v:∀k d:Int,0<=k->0<=d->(Qb W' k d).v=(Qb W k d).v
 w:∀k d:Int,0<=k->0<=d->(Qb W' k d).w=(Qb W k d).w
 s:∀k d:Int,0<=k->0<=d->(Qb W' k d).sum=(Qb W k d).sum
 up:∀k d:Int,0<=k->0<=d->(Qb W k d).floor<=(Qb W' k d).floor
 fl:∀k:Int,0<=k->(Qb W' k c).floor=(Qb W k c).floor\/ZC W k c 20=true/\(Qb W' k c).floor=Z5 W k c 20
theorem HZ {W:Q8} (ha:WA W) {c:Int} (c0:0<=c) (c1:c<(W.cpus.length:Int)):∀k:Nat,k<=8->FC c W (QV W c k)/\WA (QV W c k)/\∀g:Int,Q6 W.groups g=true->g<(k:Int)->ZC W g c 20=true->Z5 W g c 20<=(Qb (QV W c k) g c).floor
 | 0,_=>⟨⟨Hu.refl _ _,rfl,fun _ _ _ _=>rfl,fun _ _ _ _=>rfl,fun _ _ _ _=>rfl,fun _ _ _ _=>rfl,fun _ _ _ _=>Int.le_refl _,fun _ _=>.inl rfl⟩,ha,fun g gu h=>by have:=(Q5.1 gu).1; omega⟩
 | k+1,hk=>by
  obtain ⟨f,hA,ih⟩:=HZ ha c0 c1 k (by omega);have hl:=hA.gl;have hT:=f.o.g;have hb:=HP f.o.t hT ha.gl (fun i hi=>f.on i c hi c0) (fun i hi=>f.v i c hi c0);simp only [QV];split
  ·rename_i hc;have hu:Q6 (QV W c k).groups (k:Int)=true:=Q5.2 ⟨by omega,by omega,hc.1⟩;have hsl:=hA.sl hu;have c1':c<((gi (QV W c k).groups (k:Int)).shelves.length:Int):=by rw [hsl,f.cs]; exact c1
   have e:∀{i j:Int},0<=i->0<=j->Qb (setSh (QV W c k) (k:Int) c (D0 (QV W c k) (k:Int) c)) i j=if (k:Int)=i/\c=j then D0 (QV W c k) (k:Int) c else Qb (QV W c k) i j:=fun hi hj=>XV (by omega) (by omega) c0 c1' hi hj
   refine ⟨⟨f.o.trans (Dv (by omega) (by omega) c0 c1'),f.cs,fun i j hi hj => ?_,fun i j hi hj => ?_,fun i j hi hj => ?_,fun i j hi hj => ?_,fun i j hi hj => ?_,fun i hi => ?_⟩,hA.setSh (by omega) (by omega),fun g gu hg hB => ?_⟩
   ·rw [e hi hj]; split
    ·rename_i h; obtain ⟨rfl,rfl⟩:=h; exact f.on _ _ hi hj
    ·exact f.on i j hi hj
   ·rw [e hi hj]; split
    ·rename_i h; obtain ⟨rfl,rfl⟩:=h; exact f.v _ _ hi hj
    ·exact f.v i j hi hj
   ·rw [e hi hj]; split
    ·rename_i h; obtain ⟨rfl,rfl⟩:=h; exact f.w _ _ hi hj
    ·exact f.w i j hi hj
   ·rw [e hi hj]; split
    ·rename_i h; obtain ⟨rfl,rfl⟩:=h; exact f.s _ _ hi hj
    ·exact f.s i j hi hj
   ·rw [e hi hj]; split
    ·rename_i h; obtain ⟨rfl,rfl⟩:=h;have h1:=f.up (k:Int) c hi hj;have h2:=hc.2.2;show _<=Z5 (QV W c k) (k:Int) c 20;omega
    ·exact f.up i j hi hj
   ·rw [e hi c0]; split
    ·rename_i h; obtain ⟨rfl,_⟩:=h;refine .inr ⟨(hb _).1▸hc.2.1,?_⟩;show Z5 (QV W c k) (k:Int) c 20=_;exact (hb _).2
    ·exact f.fl i hi
   ·have g0:=(Q5.1 gu).1;rw [e g0 c0];split
    ·rename_i h; obtain ⟨rfl,_⟩:=h;show _<=Z5 (QV W c k) (k:Int) c 20;rw [(hb _).2]; exact Int.le_refl _
    ·rename_i h;exact ih g gu (by have:g≠(k:Int):=fun e=>h ⟨e.symm,rfl⟩; omega) hB
  ·rename_i hc;refine ⟨f,hA,fun g gu hg hB => ?_⟩
   by_cases e:g=(k:Int)
   ·subst e;rw [hT.u,(hb _).1,(hb _).2] at hc
    by_cases h:Z5 W (k:Int) c 20>(Qb (QV W c k) (k:Int) c).floor
    ·exact absurd ⟨(Q5.1 gu).2.2,hB,h⟩ hc
    ·omega
   ·exact ih g gu (by omega) hB
theorem Hu.active {c d:Int} {W W':Q8} (h:Hu c W W') (d0:0<=d) (hd:d≠c) (g:Int):QN W' g d=QN W g d:=
 T0 h.t h.g fun j _ _ _ _=>by rw [h.e _ d (by omega) d0 hd]
theorem Hu.line {c:Int} {W W':Q8} (h:Hu c W W') (ht:ZP W.groups) {t:Int} (hu:Q6 W.groups (Q7 W t).group=true) (d0:0<=(Q7 W t).cpu) (hd:(Q7 W t).cpu≠c):Zr W' t=Zr W t:=by
 unfold Zr JT;rw [Xx h.t,V7 h.g]
 congr 1
 rw [Bool.eq_iff_iff,List.all_eq_true,List.all_eq_true];refine forall_congr' fun x=>forall_congr' fun hx => ?_
 rw [h.e x _ (Q5.1 (Yk ht _ hu x hx).1).1 d0 hd]
structure Dn (W:Q8) (c:Int):Prop where
 on:∀k:Int,Q6 W.groups k=true->k≠0->UF W c k
 cu:0<=(gi W.cpus c).cur->(Q7 W (gi W.cpus c).cur).cpu=c/\Zr W (gi W.cpus c).cur=true
 fl:∀k:Int,Q6 W.groups k=true->ZC W k c 20=true->Z5 W k c 20<=(Qb W k c).floor
theorem Dn.oth {c d:Int} {W W':Q8} (h:Dn W d) (p:Vc W) (o:Hu c W W') (d0:0<=d) (d1:d<(W.cpus.length:Int)) (hd:d≠c):Dn W' d:=by
 refine ⟨fun k hu hz => ?_,fun h0 => ?_,fun k hu hB => ?_⟩
 ·rw [o.g.usd] at hu;have k0:=(Q5.1 hu).1;have:=h.on k hu hz;unfold UF at this ⊢;rw [o.e k d k0 d0 hd,o.active d0 hd,zbe (o.b k k0)];exact this
 ·rw [o.cp d d0 hd] at h0 ⊢;rw [Xx o.t];obtain ⟨h1,h2⟩:=h.cu h0;refine ⟨h1,?_⟩
  have hs:(Q7 W (gi W.cpus d).cur).state=1:=by
   unfold Zr at h2;rw [Bool.and_eq_true] at h2;exact eq_of_beq h2.1
  have hu:Q6 W.groups (Q7 W (gi W.cpus d).cur).group=true:=by
   rcases p.t _ h0 (p.c d d0 d1).c2 with hz | ⟨_,hx⟩
   ·rw [hz.1] at hs; cases hs
   ·exact hx.g
  rw [o.line p.a.tree hu (by rw [h1]; exact d0) (by rw [h1]; exact hd)];exact h2
 ·rw [o.g.usd] at hu;have hb:=HP (d:=d) o.t o.g p.a.gl (fun i hi=>by rw [o.e i d hi d0 hd]) (fun i hi=>by rw [o.e i d hi d0 hd]) k;rw [hb.1] at hB;rw [hb.2,o.e k d (Q5.1 hu).1 d0 hd];exact h.fl k hu hB
theorem G7.cp {W:Q8} {x:OY} (h:G7 W x) (cs:List Ow):G7 { W with cpus:=cs } x:=⟨h.st,h.g,h.n,h.m,h.m0,h.s,h.u,h.l1,h.l2,h.f⟩
theorem ze5.cp {W:Q8} {k c:Int} (h:ze5 W k c) (cs:List Ow):ze5 { W with cpus:=cs } k c:=⟨h.s,h.root,h.st⟩
theorem PreA.endW {W:Q8} (p:PreA W) {c:Int} (c0:0<=c) (c1:c<(W.cpus.length:Int)):PreA (endW W c):=by
 have hlen:(Go.Proofs.YtclpmgfpjeaibaaGreat.endW W c).cpus.length=W.cpus.length:=List.length_set;refine ⟨?_,fun t t0 t1 => ?_,fun t t0 t1 n => ?_,fun k d hu d0 d1 => ?_⟩
 ·refine p.a.cp List.length_set ?_;rw [zcs List.length_set fun j hj => ?_]
  ·exact p.a.ups
  ·rw [Qw _ _ c0 c1 (by omega)];split
   ·rename_i e; rw [<-e]; rfl
   ·rfl
 ·rcases p.t t t0 t1 with h | h
  ·exact .inl h
  ·exact .inr ⟨h.1,h.2.cp _⟩
 ·rw [hlen]; exact p.l t t0 t1 n
 ·rw [hlen] at d1; exact (p.s k d hu d0 d1).cp _
theorem Vc.endW {W:Q8} (p:Vc W) {c:Int} (c0:0<=c) (c1:c<(W.cpus.length:Int)):Vc (endW W c):=by
 refine ⟨p.toPreA.endW c0 c1,fun d d0 d1 => ?_⟩;have hlen:(Go.Proofs.YtclpmgfpjeaibaaGreat.endW W c).cpus.length=W.cpus.length:=List.length_set;have hcp:gi (Go.Proofs.YtclpmgfpjeaibaaGreat.endW W c).cpus d=if c=d then Xi (gi W.cpus c) else gi W.cpus d:=Qw _ _ c0 c1 d0;rw [hlen] at d1;have hc:=p.c d d0 d1
 by_cases e:c=d
 ·subst e;rw [if_pos rfl] at hcp;have n1:(Xi (gi W.cpus c)).cur = -1:=rfl;exact ⟨by rw [hcp]; exact hc.b,by rw [hcp]; exact hc.i,by rw [hcp,n1]; exact Int.le_refl _,by rw [hcp,n1]; decide,fun _=>by rw [hcp]; rfl,fun h=>by rw [hcp,n1] at h; omega,fun h=>by rw [hcp,n1] at h; omega⟩
 ·rw [if_neg e] at hcp;exact ⟨by rw [hcp]; exact hc.b,by rw [hcp]; exact hc.i,by rw [hcp]; exact hc.c1,by rw [hcp]; exact hc.c2,by rw [hcp]; exact hc.no,by rw [hcp]; exact hc.yes,by rw [hcp]; exact hc.q⟩
theorem zm0 {W:Q8} (p:Vc W) {c:Int} (c0:0<=c) (c1:c<(W.cpus.length:Int)):Vc (Va W c)/\Hu c W (Va W c)/\Dn (Va W c) c:=by
 obtain ⟨l,p1,hon⟩:=CX p c0 c1;obtain ⟨f,hA,hfl⟩:=HZ p1.a c0 (c:=c) (by rw [l.cs]; exact c1) 8 (Nat.le_refl _);have f:FC c (QJ W c) (Zi (QJ W c) c):=f;have hA:WA (Zi (QJ W c) c):=hA;have hfl:∀g:Int,Q6 (QJ W c).groups g=true->g<((8:Nat):Int)->ZC (QJ W c) g c 20=true->Z5 (QJ W c) g c 20<=(Qb (Zi (QJ W c) c) g c).floor:=hfl;have hon:∀g:Int,Q6 (QJ W c).groups g=true->g≠0->UF (QJ W c) c g:=fun g gu gz=>hon g (by rwa [l.o.g.usd] at gu) gz
 have hgl:=p1.a.gl;have hlc:(QJ W c).cpus.length=W.cpus.length:=by rw [l.cs]
 have hdef:Va W c=if PW (Zi (QJ W c) c) c=true then endW (Zi (QJ W c) c) c else Zi (QJ W c) c:=rfl;have hO:Hu c W (Zi (QJ W c) c):=l.o.trans f.o;rw [hdef];clear hdef;have c1':c<((QJ W c).cpus.length:Int):=by rw [hlc]; exact c1
 generalize QJ W c=V at p1 hon f hA hfl hgl hlc hO c1';generalize Zi V c=F at f hA hfl hO;have et:∀t,Q7 F t=Q7 V t:=Xx f.o.t;have hT:=f.o.g;have best:=HP (d:=c) f.o.t hT hgl (fun i hi=>f.on i c hi c0) (fun i hi=>f.v i c hi c0)
 have low:∀k:Int,Q6 V.groups k=true->∀v:Int,(ZC V k c 20=true/\Z5 V k c 20<=v)->(Qb V k c).floor<=v->(Qb F k c).floor<=v:=fun k hu v hv hf=>by
  rcases f.fl k (Q5.1 hu).1 with e | ⟨_,e⟩
  ·rw [e]; exact hf
  ·rw [e]; exact hv.2
 have st:∀k d:Int,Q6 V.groups k=true->k≠0->0<=d->(Qb V k d).on=true->Uv V k d->Uv F k d:=fun k d hu hz d0 ho hs=>by
  have pu:=p1.a.up hu hz;have k0:=(Q5.1 hu).1;have q0:=(Q5.1 pu).1;unfold Uv;rw [hT.p,f.v k d k0 d0,f.w k d k0 d0];have hup:=f.up _ d q0 d0;refine ⟨?_,by have:=hs.2; omega⟩
  by_cases hd:d=c
  ·subst hd;exact low _ pu _ (ze7 p1.a hu hz ho) hs.1
  ·rw [f.o.e _ d q0 d0 hd]; exact hs.1
 have pa:PreA F:=by
  refine ⟨hA,fun t t0 t1 => ?_,fun t t0 t1 n => ?_,fun k d hu d0 d1 => ?_⟩
  ·rw [et];rcases p1.t t t0 t1 with hz | ⟨n,hx⟩
   ·exact .inl hz
   ·refine .inr ⟨n,hx.st,by rw [hT.usd]; exact hx.g,hx.n,hx.m,hx.m0,hx.s,hx.u,hx.l1,hx.l2,fun h1 => ?_⟩;obtain ⟨d0,d1⟩:=p1.l t t0 t1 n;have g0:=(Q5.1 hx.g).1;have hup:=f.up _ _ g0 d0;have hs:=hx.f h1;refine ⟨?_,by omega⟩
    by_cases hd:(Q7 V t).cpu=c
    ·have hb:=zio p1.a t0 t1 h1;rw [hd] at hb hs ⊢;exact low _ hx.g _ hb hs.1
    ·rw [f.o.e _ _ g0 d0 hd]; exact hs.1
  ·rw [et] at n ⊢;rw [f.cs];exact p1.l t t0 t1 n
  ·rw [hT.usd] at hu;rw [f.cs] at d1;have hs:=p1.s k d hu d0 d1;have k0:=(Q5.1 hu).1;refine ⟨by rw [f.s k d k0 d0]; exact hs.s,fun hz => ?_,fun hz h => ?_⟩
   ·rw [f.on k d k0 d0,f.v k d k0 d0,f.w k d k0 d0]; exact hs.root hz
   ·rw [f.on k d k0 d0] at h;exact st k d hu hz d0 h (hs.st hz h)
 have ptu:∀t:Int,0<=t->t<12->(Q7 V t).state=1->Q6 V.groups (Q7 V t).group=true:=fun t t0 t1 h=>by
  rcases p1.t t t0 t1 with hz | ⟨_,hx⟩
  ·rw [hz.1] at h; cases h
  ·exact hx.g
 have pc:∀d:Int,0<=d->d<(V.cpus.length:Int)->(d=c->PW F c=false)->zp9 F d:=fun d d0 d1 hg=>by
  have hc:=p1.c d d0 d1;refine ⟨by rw [f.cs]; exact hc.b,by rw [f.cs]; exact hc.i,by rw [f.cs]; exact hc.c1,by rw [f.cs]; exact hc.c2,by rw [f.cs]; exact hc.no,by rw [f.cs]; exact hc.yes,?_⟩;rw [f.cs];simp only [et];intro h0 h1 h2;obtain ⟨q1,q2⟩:=hc.q h0 h1 h2;have hu:=ptu _ h0 hc.c2 h1;have hup:=f.up _ d (Q5.1 hu).1 d0;refine ⟨by omega,fun x hx => ?_⟩;rw [V7 hT] at hx;obtain ⟨xu,xz⟩:=Yk p1.a.tree _ hu x hx;obtain ⟨s1,s2⟩:=q2 x hx;have x0:=(Q5.1 xu).1;have q0:=(Q5.1 (p1.a.up xu xz)).1;have hup2:=f.up _ d q0 d0;refine ⟨?_,by rw [hT.p,f.v x d x0 d0,f.w x d x0 d0]; omega⟩
  by_cases hd:d=c
  ·subst hd
   have hl:Zr F (gi V.cpus d).cur=true:=by
    have:=hg rfl;unfold PW at this;rw [f.cs,et,decide_eq_true h0,h2] at this
    simpa using this
   unfold Zr JT at hl;rw [et,h2,V7 hT,Bool.and_eq_true,List.all_eq_true] at hl;have ho:=hl.2 x hx;rw [f.on x d x0 d0] at ho;exact st x d xu xz d0 ho s1
  ·unfold Uv;rw [hT.p,f.o.e x d x0 d0 hd,f.o.e _ d q0 d0 hd];exact s1
 have honF:∀k:Int,Q6 F.groups k=true->k≠0->UF F c k:=fun k hu hz=>by
  rw [hT.usd] at hu;have k0:=(Q5.1 hu).1;have:=hon k hu hz;unfold UF at this ⊢;rw [f.on k c k0 c0,T0 f.o.t hT fun j _ _ _ _=>f.on _ c (by omega) c0,zbe (f.o.b k k0)];exact this
 have hflF:∀k:Int,Q6 F.groups k=true->ZC F k c 20=true->Z5 F k c 20<=(Qb F k c).floor:=fun k hu hB=>by
  rw [hT.usd] at hu;rw [(best k).1] at hB;rw [(best k).2];exact hfl k hu (by have:=(Q5.1 hu).2.1; omega) hB
 split
 ·rename_i hg;have cF:c<(F.cpus.length:Int):=by rw [f.cs]; exact c1'
  have hcp:∀d:Int,0<=d->gi (endW F c).cpus d=if c=d then Xi (gi F.cpus c) else gi F.cpus d:=fun d d0=>Qw _ _ c0 cF d0
  have hlen:(endW F c).cpus.length=F.cpus.length:=List.length_set;refine ⟨⟨pa.endW c0 cF,fun d d0 d1 => ?_⟩,hO.trans (zd2 c0 cF),honF,fun h0 => ?_,hflF⟩
  ·rw [hlen] at d1
   by_cases e:c=d
   ·subst e;have hc:=p1.c c c0 c1';have e1:gi (endW F c).cpus c=Xi (gi V.cpus c):=by rw [hcp c c0,if_pos rfl,f.cs]
    have n1:(Xi (gi V.cpus c)).cur = -1:=rfl;exact ⟨by rw [e1]; exact hc.b,by rw [e1]; exact hc.i,by rw [e1,n1]; exact Int.le_refl _,by rw [e1,n1]; decide,fun _=>by rw [e1]; rfl,fun h=>by rw [e1,n1] at h; omega,fun h=>by rw [e1,n1] at h; omega⟩
   ·have hc:=pc d d0 (by rw [<-f.cs]; exact d1) fun h=>absurd h.symm e
    have e1:gi (endW F c).cpus d=gi F.cpus d:=by rw [hcp d d0,if_neg e]
    exact ⟨by rw [e1]; exact hc.b,by rw [e1]; exact hc.i,by rw [e1]; exact hc.c1,by rw [e1]; exact hc.c2,by rw [e1]; exact hc.no,by rw [e1]; exact hc.yes,by rw [e1]; exact hc.q⟩
  ·rw [hcp c c0,if_pos rfl] at h0;have h0:(0:Int)<=-1:=h0;omega
 ·rename_i hg;have hg:PW F c=false:=by simpa using hg
  refine ⟨⟨pa,fun d d0 d1=>pc d d0 (by rw [<-f.cs]; exact d1) fun _=>hg⟩,hO,honF,fun h0 => ?_,hflF⟩;unfold PW at hg;rw [decide_eq_true h0,Bool.true_and,Bool.or_eq_false_iff] at hg;exact ⟨by simpa using hg.1,by simpa using hg.2⟩
theorem zeq {W:Q8} (p:Vc W):∀c:Nat,c<=W.cpus.length->Vc (Jp W c)/\(Jp W c).cpus.length=W.cpus.length/\(Jp W c).tasks=W.tasks/\QP W.groups (Jp W c).groups/\∀d:Int,0<=d->d<(c:Int)->Dn (Jp W c) d
 | 0,_=>⟨p,rfl,rfl,QP.refl _,fun d a b=>by omega⟩
 | c+1,hc=>by
  obtain ⟨a,e,et,eg,ih⟩:=zeq p c (by omega);obtain ⟨p1,o,dn⟩:=zm0 a (c:=(c:Int)) (by omega) (by rw [e]; omega);refine ⟨p1,o.len.trans e,o.t.trans et,eg.trans o.g,fun d d0 d1 => ?_⟩
  by_cases h:d=(c:Int)
  ·subst h; exact dn
  ·exact (ih d d0 (by omega)).oth a o d0 (by rw [e]; omega) h
theorem zjy {K:Int} {W:Q8} (sw:SW K W) (p:Vc W) (hK:0<=K):Vc (Qg W)/\Fr W (Qg W)/\∀d:Int,0<=d->d<(W.cpus.length:Int)->Dn (Qg W) d:=by
 obtain ⟨a,e⟩:=Nk p W.cpus.length (Nat.le_refl _);obtain ⟨s1,_⟩:=TI (F:=K) (K:=K+Qk) (sw.sf.mono (Int.le_refl _) (by simp only [Qk]; omega)) (Int.le_refl _) W.cpus.length (Nat.le_refl _);obtain ⟨s2,b2⟩:=T4 s1 8 (Nat.le_refl _);have p2:=a.onlyB b2 s2.w.a;have e2:(YF (Yz W W.cpus.length) 8).cpus.length=W.cpus.length:=by rw [b2.c,e]
 obtain ⟨p3,e3,_,_,dn⟩:=zeq p2 W.cpus.length (by rw [e2]; exact Nat.le_refl _);exact ⟨p3,(VP sw hK).2,dn⟩
theorem zrh {K:Int} {W:Q8} (sw:SW K W) (hK:K<=100000000000000000) (p:Vc W) (hl:B4 W) (dn:∀d:Int,0<=d->d<(W.cpus.length:Int)->Dn W d):Xn W/\zso W:=by
 have tm:∀k c:Int,Q6 W.groups k=true->0<=c->c<(W.cpus.length:Int)->Zs (Qb W k c).floor=true/\Zs (Qb W k c).v=true:=fun k c hu c0 c1=>by
  have:=sw.s k c hu c0 c1;exact ⟨ZU.2 (by omega),ZU.2 (by omega)⟩
 have tv:∀t:Int,0<=t->t<12->Zs (Q7 W t).v=true:=fun t t0 t1=>by
  have:=sw.tv t t0 t1;exact ZU.2 (by omega)
 refine ⟨⟨p.a,fun t t0 t1 => ?_,fun k c k0 k1 c0 c1 => ?_,fun c c0 c1 => ?_⟩,fun k c hu c0 c1 hB=>(dn c c0 c1).fl k hu hB⟩
 ·rcases p.t t t0 t1 with hz | ⟨n,hx⟩
  ·exact .inl hz
  ·obtain ⟨d0,d1⟩:=p.l t t0 t1 n;exact .inr ⟨n,hx.st,hx.g,hx.n,hx.m,hx.m0,tv t t0 t1,hx.s,hx.u,hx.l1,hx.l2,hl t t0 t1 n,fun h1=>(Hi (tv t t0 t1) (tm _ _ hx.g d0 d1).1).2 (hx.f h1)⟩
 ·have hgl:=p.a.gl
  have hu:Q6 W.groups k=true:=by
   cases hb:(gi W.groups k).used with
   | true=>exact Q5.2 ⟨k0,by omega,hb⟩
   | false=>
    have:=((p.a.grp k k0 k1).1 hb).l;omega
  have hsl:=p.a.sl hu;have c1:c<(W.cpus.length:Int):=by omega
  have hs:=p.s k c hu c0 c1;have ht:=tm k c hu c0 c1;have hw:=sw.s k c hu c0 c1;exact ⟨ht.1,ht.2,hs.s,hw.2.2.2.2.1,hw.2.2.2.2.2,hs.root,fun hz=>(dn c c0 c1).on k hu hz,fun hz ho=>(Hi ht.2 (tm _ c (p.a.up hu hz) c0 c1).1).2 (hs.st hz ho)⟩
 ·have hc:=p.c c c0 c1;have htl:=p.a.t;refine ⟨hc.b,hc.i,hc.c1,by have:=hc.c2; omega,hc.no,fun h0 => ?_⟩;obtain ⟨y1,y2,y3⟩:=hc.yes h0;obtain ⟨z1,z2⟩:=(dn c c0 c1).cu h0
  have hs:(Q7 W (gi W.cpus c).cur).state=1:=by
   unfold Zr at z2;rw [Bool.and_eq_true] at z2;exact eq_of_beq z2.1
  obtain ⟨q1,q2⟩:=hc.q h0 hs z1;refine ⟨y1,y2,y3,z1,z2,?_⟩;unfold On Vk;rw [Bool.and_eq_true,List.all_eq_true];exact ⟨decide_eq_true q1,fun x hx=>decide_eq_true (q2 x hx).2⟩
theorem Yq {α β:Type} [Inhabited α] {f:α->β} (l:List α) (k:Int) {x:α} (h:f x=f (gi l k)) (i:Int):f (gi (l.set k.toNat x) i)=f (gi l i):=by
 unfold gi at *;simp only [List.getD_eq_getElem?_getD,List.getElem?_set] at *
 by_cases e:k.toNat=i.toNat
 ·rw [if_pos e];split
  ·rw [<-e]; simpa using h
  ·rename_i hl;have:l[i.toNat]? = none:=List.getElem?_eq_none_iff.2 (by omega);rw [this]
 ·rw [if_neg e]
structure Ve (W W':Q8):Prop where
 g:QP W.groups W'.groups
 m:∀i:Int,(gi W'.groups i).cpus=(gi W.groups i).cpus
 w:∀i:Int,(gi W'.groups i).weight=(gi W.groups i).weight
 len:W'.cpus.length=W.cpus.length
 u:∀i:Int,(gi W'.cpus i).up=(gi W.cpus i).up
theorem Ve.refl (W:Q8):Ve W W:=⟨QP.refl _,fun _=>rfl,fun _=>rfl,rfl,fun _=>rfl⟩
theorem Ve.trans {A B C:Q8} (h:Ve A B) (k:Ve B C):Ve A C:=⟨h.g.trans k.g,fun i=>(k.m i).trans (h.m i),fun i=>(k.w i).trans (h.w i),k.len.trans h.len,fun i=>(k.u i).trans (h.u i)⟩
theorem zgk {W:Q8} {g:Int} {x:Zv} (u:x.used=(gi W.groups g).used) (p:x.parent=(gi W.groups g).parent) (n:x.name=(gi W.groups g).name) (m:x.cpus=(gi W.groups g).cpus) (w:x.weight=(gi W.groups g).weight):Ve W (setGr W g x):=
 ⟨⟨List.length_set,fun i=>Yq (f:=Zv.used) _ _ u i,fun i=>Yq (f:=Zv.parent) _ _ p i,fun i=>Yq (f:=Zv.name) _ _ n i⟩,fun i=>Yq (f:=Zv.cpus) _ _ m i,fun i=>Yq (f:=Zv.weight) _ _ w i,rfl,fun _=>rfl⟩
theorem A1 (W:Q8) (g c:Int) (s:Ma):Ve W (setSh W g c s):=zgk rfl rfl rfl rfl rfl
theorem zgj (W:Q8) (g:Int) (b:Ja):Ve W (setBd W g b):=zgk rfl rfl rfl rfl rfl
theorem zgm (W:Q8) (t:Int) (x:OY):Ve W (setTk W t x):=⟨QP.refl _,fun _=>rfl,fun _=>rfl,rfl,fun _=>rfl⟩
theorem zco {W:Q8} {c:Int} {x:Ow} (u:x.up=(gi W.cpus c).up):Ve W (setCp W c x):=⟨QP.refl _,fun _=>rfl,fun _=>rfl,List.length_set,fun i=>Yq (f:=Ow.up) _ _ u i⟩
theorem Ku (W:Q8) (c:Int):Ve W (endW W c):=zco rfl
theorem DQ (W:Q8) (c d:Int):∀k:Nat,Ve W (ZK W c d k)
 | 0=>Ve.refl _
 | k+1=>by
  simp only [ZK];split
  ·exact (DQ W c d k).trans (A1 _ _ _ _)
  ·exact DQ W c d k
theorem LX (W:Q8) (c:Int):∀j:Nat,Ve W (Xs W c j)
 | 0=>Ve.refl _
 | j+1=>(LX W c j).trans (DQ _ _ _ _)
theorem A0 (W:Q8):∀c:Nat,Ve W (Yz W c)
 | 0=>Ve.refl _
 | c+1=>(A0 W c).trans (LX (Yz W c) (c:Int) 3)
theorem DO (W:Q8) (k:Int):∀c:Nat,Ve W (Yr W k c)
 | 0=>Ve.refl _
 | c+1=>by
  simp only [Yr];split
  ·exact (DO W k c).trans (zgj _ _ _)
  ·exact DO W k c
theorem DP (W:Q8):∀k:Nat,Ve W (YF W k)
 | 0=>Ve.refl _
 | k+1=>by
  simp only [YF];split
  ·exact (DP W k).trans (DO _ _ _)
  ·exact DP W k
theorem LW (W:Q8) (c:Int):∀k:Nat,Ve W (QV W c k)
 | 0=>Ve.refl _
 | k+1=>by
  simp only [QV];split
  ·exact (LW W c k).trans (A1 _ _ _ _)
  ·exact LW W c k
theorem zj1 (W:Q8) (c:Int):Ve W (Va W c):=by
 have h:=(LX W c 3).trans (LW (QJ W c) c 8);unfold Va;split
 ·exact h.trans (Ku _ _)
 ·exact h
theorem zad (W:Q8):∀c:Nat,Ve W (Jp W c)
 | 0=>Ve.refl _
 | c+1=>(zad W c).trans (zj1 (Jp W c) (c:Int))
theorem zgl (W:Q8):Ve W (Qg W):=((A0 W W.cpus.length).trans (DP (Yz W W.cpus.length) 8)).trans (zad (KV (Yz W W.cpus.length)) W.cpus.length)
theorem Ve.ups {W W':Q8} (h:Ve W W'):Xm W'.cpus=Xm W.cpus:=zcs h.len fun j _=>h.u j
theorem Ve.pin {W W':Q8} (h:Ve W W') (g u:Int):XI W'.groups g u=XI W.groups g u:=by
 unfold XI;rw [show QQ W'.groups g=QQ W.groups g from h.g.path 3 g]
 congr 1
 funext s x
 rw [h.m]
theorem Ve.wh {W W':Q8} (h:Ve W W') (g m:Int):Qo W' g m=Qo W g m:=by
 unfold Qo;rw [h.ups,h.pin]
theorem Ve.loc {W W':Q8} (h:Ve W W') (ht:W'.tasks=W.tasks) (hl:B4 W):B4 W':=fun t t0 t1 n=>by
 rw [Xx ht] at n ⊢;rw [h.wh];exact hl t t0 t1 n
theorem NY {K:Int} {W:Q8} (sw:SW K W) (hK:0<=K) (hK2:K+Uu<=100000000000000000) (p:Vc W) (hl:B4 W):Xn (Qg W)/\zso (Qg W):=by
 obtain ⟨p1,hf,dn⟩:=zjy sw p hK;exact zrh (VP sw hK).1 hK2 p1 ((zgl W).loc hf.t hl) fun d d0 d1=>dn d d0 (by rw [<-hf.c]; exact d1)
theorem ze5.cong {W W':Q8} {k c:Int} (h:ze5 W k c) (e:Qb W' k c=Qb W k c) (ep:k≠0->(Qb W' (gi W'.groups k).parent c).floor=(Qb W (gi W.groups k).parent c).floor):ze5 W' k c:=
 ⟨by rw [e]; exact h.s,by rw [e]; exact h.root,fun hz ho=>by
  rw [e] at ho;have:=h.st hz ho;unfold Uv at this ⊢;rw [e,ep hz]; exact this⟩
theorem Vc.setTk {W:Q8} (p:Vc W) {t:Int} (t0:0<=t) (t1:t<12) {x:OY} (hx:x.state=0/\x=Vl\/x.state≠0/\G7 W x/\0<=x.cpu/\x.cpu<(W.cpus.length:Int))
  (hc:∀c:Int,0<=c->c<(W.cpus.length:Int)->(gi W.cpus c).cur=t->x.state=1->x.cpu=c->x.v - (Qb W x.group c).floor<=QZ (gi W.cpus c).ran (Qd x.nice)/\∀y∈QQ W.groups x.group,Uv W y c/\(Qb W y c).v - (Qb W (gi W.groups y).parent c).floor<=QZ (gi W.cpus c).ran (Qb W y c).w):Vc (setTk W t x):=by
 have hl:=p.a.t;have e:∀i:Int,0<=i->Q7 (Go.Proofs.YtclpmgfpjeaibaaGreat.setTk W t x) i=if t=i then x else Q7 W i:=fun i i0=>Qw _ _ t0 (by omega) i0
 refine ⟨⟨p.a.tk List.length_set,fun i a b => ?_,fun i a b n => ?_,fun k c hu c0 c1 => ?_⟩,fun c c0 c1 => ?_⟩
 ·rw [e i a];split
  ·rcases hx with h | ⟨h1,h2,_⟩
   ·exact .inl h
   ·exact .inr ⟨h1,h2.st,h2.g,h2.n,h2.m,h2.m0,h2.s,h2.u,h2.l1,h2.l2,h2.f⟩
  ·rcases p.t i a b with h | ⟨h1,h2⟩
   ·exact .inl h
   ·exact .inr ⟨h1,h2.st,h2.g,h2.n,h2.m,h2.m0,h2.s,h2.u,h2.l1,h2.l2,h2.f⟩
 ·rw [e i a] at n ⊢;split
  ·rename_i h;rw [if_pos h] at n;rcases hx with h | ⟨_,_,h2⟩
   ·exact absurd h.1 n
   ·exact h2
  ·rename_i h;rw [if_neg h] at n;exact p.l i a b n
 ·exact (p.s k c hu c0 c1).cong rfl fun _=>rfl
 ·have h:=p.c c c0 c1;refine ⟨h.b,h.i,h.c1,h.c2,h.no,h.yes,fun h0 => ?_⟩;rw [e _ h0];split
  ·rename_i he;exact fun h1 h2=>hc c c0 c1 he.symm h1 h2
  ·exact h.q h0
def LA (p:Nat->Bool):Nat->Int
 | 0 => -1
 | k+1=>if (decide (LA p k<0)&&p k)=true then (k:Int) else LA p k
theorem P7 (p:Nat->Bool):∀k:Nat,(LA p k = -1/\∀j,j<k->p j=false)\/(0<=LA p k/\LA p k<(k:Int)/\p (LA p k).toNat=true/\∀j:Nat,(j:Int)<LA p k->p j=false)
 | 0=>.inl ⟨rfl,fun j hj=>absurd hj (Nat.not_lt_zero j)⟩
 | k+1=>by
  simp only [LA];rcases P7 p k with ⟨h1,h2⟩ | ⟨h1,h2,h3,h4⟩
  ·cases hp:p k with
   | true=>
    rw [h1,if_pos (by rfl)];exact .inr ⟨by omega,by omega,by simpa using hp,fun j hj=>h2 j (by omega)⟩
   | false=>
    rw [if_neg (by simp),h1];refine .inl ⟨rfl,fun j hj => ?_⟩
    by_cases e:j=k
    ·rw [e]; exact hp
    ·exact h2 j (by omega)
  ·rw [if_neg (by rw [decide_eq_false (by omega:¬LA p k<0)]; simp)];exact .inr ⟨h1,by omega,h3,h4⟩
theorem zhf {p:Nat->Bool} {n:Nat} (h:∀j,j<n->p j=false):LA p n = -1:=by
 rcases P7 p n with ⟨h1,_⟩ | ⟨h1,h2,h3,_⟩
 ·exact h1
 ·rw [h _ (by omega)] at h3; cases h3
theorem zhe {p:Nat->Bool} {n:Nat} {a:Int} (a0:0<=a) (a1:a<(n:Int)) (hp:p a.toNat=true) (hn:∀j:Nat,(j:Int)<a->p j=false):LA p n=a:=by
 rcases P7 p n with ⟨_,h2⟩ | ⟨h1,h2,h3,h4⟩
 ·rw [h2 _ (by omega)] at hp; cases hp
 ·by_cases l:LA p n<a
  ·rw [hn _ (by omega)] at h3; cases h3
  ·by_cases g:a<LA p n
   ·rw [h4 _ (by omega)] at hp; cases hp
   ·omega
def O6 (W:Q8) (j:Nat):Bool:=(Q7 W (j:Int)).state==0
def V0 (W:Q8):Int:=LA (O6 W) 12
noncomputable def O4 (W:Q8) (g n x:Int):Int:=if Qd n=0\/Tt x=false\/x=0 then 1 else if Q6 W.groups g=false then 2 else if V0 W<0 then 3 else if QF W=false then 10 else 0
def PV (W:Q8) (g x:Int):Int:=Ov W (Qo W g x)
def MA (W:Q8) (g n x:Int):OY:=⟨1,g,PV W g x,n,x,(Qb W g (PV W g x)).floor,0,0,0⟩
def zk9 (W:Q8) (g n x:Int):Q8:=Qg (endW (setTk W (V0 W) (MA W g n x)) (PV W g x))
noncomputable def TL (W:Q8) (bar:Int) (W':Q8) (a:Int):Q8×Int×Int:=if QA W=false then (Pv,-1,1) else if bar≠0 then (W,-1,bar) else (W',a,0)
def Tc (r:Q8×Int×Int) (w:World) (v:Value) (w':World):Prop:=∃n m',v = .tuple #[.agg (Qa r.1 m').toArray,.int .i64 r.2.1,.int .i64 r.2.2]/\Yf n w.heap.size w' r.1 m'/\Q0 [] w w'
structure zrt (W:Q8) (g n x:Int):Prop where
 w:Qd n≠0
 m:Tt x=true
 m0:x≠0
 u:Q6 W.groups g=true
 f0:0<=V0 W
 f1:V0 W<12
 f2:(Q7 W (V0 W)).state=0
 r:QF W=true
 sw:SW Qp W
 c0:0<=PV W g x
 c1:PV W g x<(W.cpus.length:Int)
 ch:Z4 (Qo W g x) (PV W g x)=true
 sw2:SW Qp (setTk W (V0 W) (MA W g n x))
theorem zhd {W:Q8} {g n x:Int} (hW:QA W=true) (hb:O4 W g n x=0):zrt W g n x:=by
 have wp:=Qi.1 hW;unfold O4 at hb
 split at hb
 ·cases hb
 ·rename_i h1
  split at hb
  ·cases hb
  ·rename_i h2
   split at hb
   ·cases hb
   ·rename_i h3
    split at hb
    ·cases hb
    ·rename_i h4;have h4:QF W=true:=by simpa using h4
     have h2:Q6 W.groups g=true:=by simpa using h2
     have sw:=Oo wp (Qi.1 h4)
     have hf:0<=V0 W/\V0 W<12/\O6 W (V0 W).toNat=true:=by
      rcases P7 (O6 W) 12 with ⟨a,_⟩ | ⟨a,b,c,_⟩
      ·unfold V0 at h3; omega
      ·exact ⟨a,b,c⟩
     obtain ⟨c0,c1,ch⟩:=Kr wp.a g x;have hs:=sw.s g _ h2 c0 c1;have e:(((V0 W).toNat:Nat):Int)=V0 W:=by omega
     refine ⟨fun h=>h1 (.inl h),?_,fun h=>h1 (.inr (.inr h)),h2,hf.1,hf.2.1,?_,h4,sw,c0,c1,ch,sw.setTk hf.1 hf.2.1 (x:=MA W g n x) (fun _=>⟨h2,c0,c1⟩) hs.1 hs.2.1⟩
     ·cases hm:Tt x with
      | true=>rfl
      | false=>exact absurd (.inr (.inl hm)) h1
     ·have:=hf.2.2;unfold O6 at this;rw [e] at this;exact eq_of_beq this
section
variable {W W':Q8} {m:MW} {w:World} {bar a:Int}
theorem Tc.bad {w':World} (hW:QA W=false) (hx:Q0 [] w w'):Tc (TL W bar W' a) w (.tuple #[.agg (Qa Pv zo4).toArray,.int .i64 (-1),.int .i64 1]) w':=by
 rw [show TL W bar W' a=(Pv,-1,1) from if_pos hW];exact ⟨0,zo4,rfl,Yf.zero _ _,hx⟩
theorem Tc.no {n:Nat} {bs:List Nat} {w':World} {m':MW} (hW:QA W=true) (hb:bar≠0) (hk:Wk n bs w w' W m') {c:Int} (hc:bar=c):Tc (TL W bar W' a) w (.tuple #[.agg (Qa W m').toArray,.int .i64 (-1),.int .i64 c]) w':=by
 rw [show TL W bar W' a=(W,-1,c) by unfold TL; rw [if_neg (by rw [hW]; decide),if_pos hb,hc]];exact ⟨n,m',rfl,hk.fin⟩
theorem Tc.ok {n:Nat} {bs:List Nat} {w':World} {m':MW} (hW:QA W=true) (hb:bar=0) (hk:Wk n bs w w' W' m'):Tc (TL W bar W' a) w (.tuple #[.agg (Qa W' m').toArray,.int .i64 a,.int .i64 0]) w':=by
 rw [show TL W bar W' a=(W',a,0) by unfold TL; rw [if_neg (by rw [hW]; decide),if_neg (by simpa using hb)]];exact ⟨n,m',rfl,hk.fin⟩
set_option maxHeartbeats 1000000 in
theorem M1 {g n x:Int} (h:Xf [] w W m) (hl:Xe W) :
  Cz YK #[.agg (Qa W m).toArray,.int .i64 g,.int .i64 n,.int .i64 x] w fun e w'=>∃v,e = .returned v/\Tc (TL W (O4 W g n x) (zk9 W g n x) (V0 W)) w v w':=by
 refine ET W.now m.cO W.cpus.length m.cC m.tO W.tasks.length m.tC m.gO W.groups.length m.gC g n x (R:=fun v w'=>Tc (TL W (O4 W g n x) (zk9 W g n x) (V0 W)) w v w') ?_;intro y hy y1 hy1 wr hx2 hs2;refine Calls.mono (Z1 (h.ext hx2) hl) ?_;rintro e wv (⟨hW,he,hy2⟩ | ⟨hW,m',he,hM,hy2⟩)
 ·exact ⟨_,_,_,_,_,_,_,_,_,_,_,he,Qe hy2 hs2,fun _ wr1 hx3=>Tc.bad hW ((hx2.trans hy2).fresh hx3 fun z hm=>.inl (Yl hy hy1 z hm)),fun g=>by simp at g⟩
 have hK:=Wk.begin hy hy1 hx2 hs2 hM hy2;have hr:=hK.rd;have wp:=Qi.1 hW;have htl:=wp.a.t;refine ⟨_,_,_,_,_,_,_,_,_,_,_,he,Qe hy2 hs2,fun g=>by split at g <;> simp at g,fun _=>⟨_,Zu,_,fun _=>YG,fun g1 wr2 hx3 => ?_,fun g1=>⟨_,YH hr.g,fun g2 wr3 hx3 => ?_,fun g2=>⟨⟨by omega,by omega⟩,?_⟩⟩⟩⟩
 ·have hb:O4 W g n x=1:=by
   unfold O4;rw [if_pos];simp only [Bool.or_eq_true,beq_iff_eq,Bool.not_eq_true'] at g1;rcases g1 with (g1 | g1) | g1
   ·exact .inl g1
   ·exact .inr (.inl g1)
   ·exact .inr (.inr g1)
  exact Tc.no hW (by rw [hb]; decide) (hK.step hx3) hb
 ·have n1:¬(Qd n=0\/Tt x=false\/x=0):=by
   simp only [Bool.or_eq_false_iff,beq_eq_false_iff_ne,Bool.not_eq_false',ne_eq] at g1;rintro (h | h | h)
   ·exact g1.1.1 h
   ·rw [g1.1.2] at h; cases h
   ·exact g1.2 h
  have hb:O4 W g n x=2:=by unfold O4; rw [if_neg n1,if_pos (by simpa using g2)]
  exact Tc.no hW (by rw [hb]; decide) (hK.step hx3) hb
 have n1:¬(Qd n=0\/Tt x=false\/x=0):=by
  simp only [Bool.or_eq_false_iff,beq_eq_false_iff_ne,Bool.not_eq_false',ne_eq] at g1;rintro (h | h | h)
  ·exact g1.1.1 h
  ·rw [g1.1.2] at h; cases h
  ·exact g1.2 h
 have hu:Q6 W.groups g=true:=by simpa using g2
 have n2:¬Q6 W.groups g=false:=by rw [hu]; decide
 refine ⟨fun vs w1=>∃a t:Int,vs=[.int .i64 a,.int .i64 t]/\-1<=t/\t<12/\(a = -1/\(∀j:Nat,t<(j:Int)->j<12->O6 W j=false)\/t<a/\a<12/\O6 W a.toNat=true/\∀j:Nat,t<(j:Int)->(j:Int)<a->O6 W j=false)/\Q0 [y,y1] wv w1,
  fun vs _=>(ZW 1 vs+1).toNat,fun w1 hx0 _=>⟨-1,_,rfl,by omega,by omega,.inl ⟨rfl,fun j h1 h2=>by omega⟩,hx0⟩,?_⟩
 rintro av tv wv1 hs3 ⟨a,t,he2,ht0,ht1,hcond,hxw⟩;simp only [List.cons.injEq,Value.int.injEq,true_and,and_true] at he2;obtain ⟨rfl,rfl⟩:=he2;have hK1:=hK.step hxw;have hr1:=hK1.rd;refine ⟨fun hlt => ?_,fun hge => ?_⟩
 ·have hlt:=of_decide_eq_true hlt;have e:((tv.toNat:Nat):Int)=tv:=by omega
  have hst:O6 W tv.toNat=((Q7 W tv).state==0):=by unfold O6; rw [e]
  refine ⟨hr1.t.ix Qz hlt (by omega),_,hr1.t.f hlt (by omega) (j:=0) rfl,fun g3=>⟨⟨by omega,by omega⟩,fun wr5 hx5 _=>⟨⟨tv,tv - 1,rfl,by omega,by omega,.inr ⟨by omega,ht1,by rw [hst]; exact g3,fun j h1 h2=>by omega⟩,hxw.trans hx5⟩,?_⟩⟩,fun g3=>⟨⟨by omega,by omega⟩,fun wr6 hx6 _=>⟨⟨av,tv - 1,rfl,by omega,by omega,?_,hxw.trans hx6⟩,?_⟩⟩⟩
  ·simp only [ZW,List.getElem?_cons_zero,List.getElem?_cons_succ]; omega
  ·have g3:O6 W tv.toNat=false:=by rw [hst]; exact g3
   have one:∀j:Nat,tv - 1<(j:Int)->¬tv<(j:Int)->O6 W j=false:=fun j h1 h2=>by
    have:j=tv.toNat:=by omega
    rw [this]; exact g3
   rcases hcond with ⟨h1,h2⟩ | ⟨h1,h2,h3,h4⟩
   ·exact .inl ⟨h1,fun j j1 j2=>if h:tv<(j:Int) then h2 j h j2 else one j j1 h⟩
   ·exact .inr ⟨by omega,h2,h3,fun j j1 j2=>if h:tv<(j:Int) then h4 j h j2 else one j j1 h⟩
  ·simp only [ZW,List.getElem?_cons_zero,List.getElem?_cons_succ]; omega
 ·have hge:=of_decide_eq_false hge;have ht:tv = -1:=by omega
  subst ht
  have hfree:av=V0 W:=by
   rcases hcond with ⟨h1,h2⟩ | ⟨h1,h2,h3,h4⟩
   ·rw [h1]; exact (zhf fun j hj=>h2 j (by omega) hj).symm
   ·exact (zhe (by omega) h2 h3 fun j hj=>h4 j (by omega) hj).symm
  subst hfree;refine ⟨fun g4 wr7 hx7 => ?_,fun g4=>⟨fun g5 wr8 hx8 => ?_,fun g5 => ?_⟩⟩
  ·have g4:=of_decide_eq_true g4;have hb:O4 W g n x=3:=by unfold O4; rw [if_neg n1,if_neg n2,if_pos g4]
   exact Tc.no hW (by rw [hb]; decide) (hK1.step hx7) hb
  ·have g4:=of_decide_eq_false g4;have hr0:¬QF W=true:=fun hr=>by rw [if_pos hr] at g5; simp at g5
   have hb:O4 W g n x=10:=by unfold O4; rw [if_neg n1,if_neg n2,if_neg g4,if_pos (by simpa using hr0)]
   rw [if_neg hr0];exact Tc.no hW (by rw [hb]; decide) (hK1.step hx8) hb
  have g4:=of_decide_eq_false g4;have hr0:QF W=true:=Decidable.byContradiction fun hr=>by rw [if_neg hr] at g5; simp at g5
  have hb:O4 W g n x=0:=by unfold O4; rw [if_neg n1,if_neg n2,if_neg g4,if_neg (by rw [hr0]; decide)]
  have hf:=zhd hW hb;obtain ⟨u0,u1,_⟩:=Q5.1 hu;have hsl:=wp.a.sl hu;have c0:=hf.c0;have c1:=hf.c1;have f0:=hf.f0;have f1:=hf.f1;have hset:Wk 8 [y,y1] w (sto wv1 m'.tO (Int.toNat (V0 W)*9) (YJ (MA W g n x))) (setTk W (V0 W) (MA W g n x)) m':=hK1.sto (hK1.own.stoT f0 (by rw [htl]; exact f1) (j:=0) (vs:=YJ (MA W g n x)) (x:=MA W g n x) (by simp [YJ]) (by simp [YJ])) KO;refine ⟨_,YU hr1 wp.a.c2 wp.a.tree hu,_,M2 hr1 wp.a (zlt wp),hr1.g.ix u0 u1,_,_,_,hr1.g.shelf u0 u1,(hr1.g.shelves g u0 u1).ix ZF c0 (by rw [hsl]; exact c1),(Qb W g (PV W g x)).floor,ze3.f (hr1.g.shelves g u0 u1) c0 (by rw [hsl]; exact c1) (j:=0) rfl,hr1.t.ix Qz f0 (by rw [htl]; exact f1),zc1 hK1.own hK1.nb f0 (by rw [htl]; exact f1) (j:=0) (k:=9) (by decide),fun wr9 hx9 hs9 => ?_⟩;have e5:Qa (setTk W (V0 W) (MA W g n x)) m'=Qa W m':=GJ _ _ _ _;have hK4:=hset.step hx9;have hcall2:=Zj hK4.own c0 (show PV W g x<((setTk W (V0 W) (MA W g n x)).cpus.length:Int) from c1);rw [e5] at hcall2;refine Calls.mono hcall2 ?_;rintro e2 wv2 ⟨he2,hy4⟩;refine ⟨_,_,_,_,_,_,_,_,_,_,he2,hK4.kept hy4 hs9,fun wr10 hx10 hs10 => ?_⟩;have hK7:=(hK4.deed hy4 hs9).step hx10;have hcall3:=Qq hK7.own (hf.sw2.endW c0 c1) (by decide) (by decide) hK7.base;refine Calls.mono hcall3 ?_;rintro e3 wv3 ⟨m2,he3,hy5⟩;exact ⟨_,_,_,_,_,_,_,_,_,_,he3,hK7.kept hy5 hs10,fun wr8 hx8=>Tc.ok hW hb ((hK7.deed hy5 hs10).step hx8)⟩
end
section
variable {base pb:Nat} {W W':Q8} {m:MW} {w:World}
end
structure XC (W:Q8):Prop where
 wp:Xn W
 fl:zso W
theorem Zf {K:Int} {W:Q8} (sw:SW K W) (hK:0<=K) (hK2:K+Uu<=100000000000000000) (p:Vc W) (hl:B4 W):XC (Qg W):=by
 obtain ⟨a,b⟩:=NY sw hK hK2 p hl;exact ⟨a,b⟩
theorem B4.endW {W:Q8} (h:B4 W) (c:Int):B4 (endW W c):=(Ku W c).loc rfl h
theorem B4.setTk {W:Q8} (h:B4 W) (ha:WA W) {t:Int} (t0:0<=t) (t1:t<12) {x:OY} (hx:x.state≠0->Z4 (Qo W x.group x.mask) x.cpu=true):B4 (setTk W t x):=fun i i0 i1 n=>by
 have hl:=ha.t;have e:Q7 (Go.Proofs.YtclpmgfpjeaibaaGreat.setTk W t x) i=if t=i then x else Q7 W i:=Qw _ _ t0 (by omega) i0;rw [e] at n ⊢;rw [(zgm W t x).wh]
 split at n
 ·rename_i he;rw [if_pos he]; exact hx n
 ·rename_i he;rw [if_neg he]; exact h i i0 i1 n
theorem zn0 (W:Q8) (t c:Int) (x:OY):endW (setTk W t x) c=setTk (endW W c) t x:=rfl
theorem VW {W:Q8} (p:Vc W) {t:Int} (t0:0<=t) (t1:t<12) (n:(Q7 W t).state≠0):G7 W (Q7 W t):=by
 rcases p.t t t0 t1 with h | h
 ·exact absurd h.1 n
 ·exact h.2
theorem zi6 {W:Q8} {t:Int} (hW:QA W=true) (hb:Vo W t=0):XC (ze9 W t):=by
 have wp:=Qi.1 hW;obtain ⟨h1,h2,sw,sw2⟩:=zc5 hW hb;obtain ⟨t0,t1,n⟩:=ZL h1;have hl:=wp.a.t;have p:=YX wp;have h:=VW p t0 (by omega) n;have hloc:=JN wp;refine Zf sw2 (by decide) (by decide) (p.setTk t0 (by omega) (.inr ⟨by show (2:Int)≠0; decide,⟨.inr rfl,h.g,h.n,h.m,h.m0,h.s,h.u,h.l1,h.l2,fun h=>by cases h⟩,p.l t t0 (by omega) n⟩) fun c c0 c1 _ hs _=>by cases hs) (hloc.setTk wp.a t0 (by omega) fun _=>hloc t t0 (by omega) n)
theorem zli {W:Q8} {t:Int} (hW:QA W=true) (hb:Tw W t=0):XC (BP W t):=by
 have wp:=Qi.1 hW;obtain ⟨h1,_,sw,_,sw2⟩:=zbn hW hb;obtain ⟨t0,t1,n⟩:=ZL h1;have hl:=wp.a.t;have p:=YX wp;obtain ⟨c0,c1⟩:=p.l t t0 (by omega) n
 have key:Vc (QO W t)/\B4 (QO W t):=by
  unfold QO;split
  ·exact ⟨p.endW c0 c1,(JN wp).endW _⟩
  ·exact ⟨p,JN wp⟩
 exact Zf sw2 (by decide) (by decide) (key.1.setTk t0 (by omega) (.inl ⟨rfl,rfl⟩) fun c c0 c1 _ hs _=>by cases hs) (key.2.setTk key.1.a t0 (by omega) fun h=>absurd rfl h)
theorem FW {W:Q8} (p:Vc W) {t c:Int} (t0:0<=t) (t1:t<12) {x:OY} (n:x.state≠0) (hx:G7 W x) (hc:x.cpu=c) (c0:0<=c) (c1:c<(W.cpus.length:Int)):Vc (endW (setTk W t x) c):=by
 rw [zn0];have hl:(endW W c).cpus.length=W.cpus.length:=List.length_set;refine (p.endW c0 c1).setTk t0 t1 (.inr ⟨n,⟨hx.st,hx.g,hx.n,hx.m,hx.m0,hx.s,hx.u,hx.l1,hx.l2,hx.f⟩,by rw [hl,hc]; exact ⟨c0,c1⟩⟩) fun d d0 d1 hcur _ hd => ?_
 rw [hc] at hd;subst hd;have e1:gi (endW W c).cpus c=Xi (gi W.cpus c):=(Qw _ _ c0 c1 c0).trans (if_pos rfl);rw [e1] at hcur;have hcur:(-1:Int)=t:=hcur;omega
theorem zq0 (f v w:Int):f<=f+YV (v - f) w/\f+YV (v - f) w - f<=Zk w:=by
 have:=ZO (v - f) w;omega
theorem zlk {W:Q8} {t n:Int} (hW:QA W=true) (hb:Oh W t n=0):XC (L4 W t n):=by
 have wp:=Qi.1 hW;have hq:=zhv hW hb;obtain ⟨t0,t1,tn⟩:=ZL hq.th;have hl:=wp.a.t;have p:=YX wp;have hw:Qd n≠0:=fun h=>by unfold Oh at hb; rw [if_pos h] at hb; cases hb
 have h:=VW p t0 (by omega) tn;obtain ⟨c0,c1⟩:=p.l t t0 (by omega) tn;have hloc:=JN wp;have hL:B4 (setTk W t (Xv W t n)):=hloc.setTk wp.a t0 (by omega) fun _=>hloc t t0 (by omega) tn
 have hT:G7 W (Xv W t n):=⟨h.st,h.g,hw,h.m,h.m0,h.s,h.u,h.l1,h.l2,fun hs=>by
  have hs:(Q7 W t).state=1:=hs;rw [zhu hs];exact zq0 _ _ _⟩
 have hK:K1+Uu<=100000000000000000:=by simp only [K1,Qk,Uu]; decide
 have hK0:0<=K1:=by simp only [K1,Qk]; decide
 unfold L4;split
 ·rename_i hs
  have hlv:QO (setTk W t (Xv W t n)) t=if (gi W.cpus (Q7 W t).cpu).cur=t then endW (setTk W t (Xv W t n)) (Q7 W t).cpu else setTk W t (Xv W t n):=by
   unfold QO;rw [DW t0 t1]; rfl
  have s2:=hq.s2;rw [hlv] at s2 ⊢;split
  ·rename_i hcur;rw [if_pos hcur] at s2;exact Zf s2 hK0 hK (FW p t0 (by omega) tn hT rfl c0 c1) (hL.endW _)
  ·rename_i hcur;rw [if_neg hcur] at s2;refine Zf s2 hK0 hK (p.setTk t0 (by omega) (.inr ⟨tn,hT,c0,c1⟩) fun d d0 d1 hd _ hx => ?_) hL;have hx:(Q7 W t).cpu=d:=hx;rw [hx] at hcur;exact absurd hd hcur
 ·rename_i hs;exact Zf hq.s1 hK0 hK (p.setTk t0 (by omega) (.inr ⟨tn,hT,c0,c1⟩) fun d d0 d1 hd hx _=>absurd hx hs) hL
theorem zlm {W:Q8} {t:Int} (hW:QA W=true) (hb:Ps W t=0):XC (A7 W t):=by
 have wp:=Qi.1 hW;obtain ⟨h1,h2,_,sf,c0,c1⟩:=zii hW hb;obtain ⟨t0,t1,tn⟩:=ZL h1;have hl:=wp.a.t;have p:=YX wp;have h:=VW p t0 (by omega) tn;have hloc:=JN wp
 have hT:G7 W (Vb W t (Ot W t)):=⟨.inl rfl,h.g,h.n,h.m,h.m0,h.s,h.u,h.l1,h.l2,fun _=>by
  have:=ZO ((Q7 W t).v - (Qb W (Q7 W t).group (Q7 W t).cpu).floor) (Qd (Q7 W t).nice);show (Qb W (Q7 W t).group (Ot W t)).floor<=(Qb W (Q7 W t).group (Ot W t)).floor+Dg W t/\(Qb W (Q7 W t).group (Ot W t)).floor+Dg W t - (Qb W (Q7 W t).group (Ot W t)).floor<=Zk (Qd (Q7 W t).nice);unfold Dg;exact ⟨by omega,by omega⟩⟩
 have hwh:Z4 (Qo W (Q7 W t).group (Q7 W t).mask) (Ot W t)=true:=by
  unfold Ot;split
  ·exact (Kr wp.a _ _).2.2
  ·exact hloc t t0 (by omega) tn
 exact Zf ((zcw sf t0 t1 tn c0 c1).endW c0 c1).w (by simp only [Qk]; decide) (by simp only [Qk,Uu]; decide) (FW p t0 (by omega) (show (1:Int)≠0 by decide) hT rfl c0 c1) ((hloc.setTk wp.a t0 (by omega) (x:=Vb W t (Ot W t)) fun _=>hwh).endW _)
def Gw (l u:Int):Int:=if Yn l 0 8000000=true/\Yn u 0 1000000=true then l - Int.tdiv l 8+u else 0
def AI (x:OY):OY:={ x with used:=0,load:=ZT (Gw x.load (ZT x.used 1000000)) 8000000 }
def Tf (W:Q8):Nat->Q8
 | 0=>W
 | t+1=>setTk (Tf W t) (t:Int) (AI (Q7 (Tf W t) (t:Int)))
def MQ (next p now:Int):Nat->Int
 | 0=>next
 | i+1=>if MQ next p now i<=now+((i:Int)+1) then MQ next p now i+p else MQ next p now i
structure zkj (next p now v:Int):Prop where
 gt:now<v
 at':∃j:Nat,v=next+p*(j:Int)/\(j=0\/v - p<=now)
theorem LJ {next p now:Int} (hp:1<=p) (hn:now<next):∀i:Nat,zkj next p (now+(i:Int)) (MQ next p now i)
 | 0=>⟨by simp only [MQ]; omega,0,by simp only [MQ]; omega,.inl rfl⟩
 | i+1=>by
  obtain ⟨h1,j,h2,h3⟩:=LJ hp hn i;simp only [MQ]
  push_cast
  split
  ·refine ⟨by omega,j+1,?_,.inr (by omega)⟩;rw [h2]; push_cast; rw [Int.mul_add,Int.mul_one,Int.add_assoc]
  ·exact ⟨by omega,j,h2,h3.imp id fun h=>by omega⟩
theorem zok {next p now v v':Int} (hp:1<=p) (h:zkj next p now v) (h':zkj next p now v'):v=v':=by
 obtain ⟨h1,j,h2,h3⟩:=h;obtain ⟨k1,k,k2,k3⟩:=h'
 have key:∀a b:Nat,a<b->p*(a:Int)+p<=p*(b:Int):=fun a b hab=>by
  have:p*((a:Int)+1)<=p*(b:Int):=Int.mul_le_mul_of_nonneg_left (by omega) (by omega);rw [Int.mul_add,Int.mul_one] at this;exact this
 rcases Nat.lt_trichotomy j k with h | h | h
 ·have:=key j k h; omega
 ·subst h; omega
 ·have:=key k j h; omega
def Xb (now:Int) (n:Nat) (G:Zv):Zv:=if (G.used&&(G.band.quota != 0))=true/\G.next<=now+(n:Int) then { G with next:=MQ G.next G.period now n,band:=JC G.band } else G
theorem zf4 {now:Int} {G:Zv} (h:G.band.quota≠0->now<G.next):Xb now 0 G=G:=by
 unfold Xb;rw [if_neg];rintro ⟨h1,h2⟩;simp only [Bool.and_eq_true,bne_iff_ne,ne_eq] at h1;have:=h h1.2;simp at h2;omega
def V6 (W:Q8) (n:Nat):Nat->Q8
 | 0=>{ W with now:=W.now+(n:Int) }
 | k+1=>setGr (V6 W n k) (k:Int) (Xb W.now n (gi W.groups (k:Int)))
def Zx (W:Q8) (n:Nat):Q8:=V6 W n 8
noncomputable def K6 (W:Q8) (n:Int):Int:=if Yn n 1 1000=false then 1 else if QF W=false then 10 else 0
def zev (W:Q8) (n:Int):Q8:=Qg (Tf (Zx W n.toNat) 12)
theorem Kp (now:Int) (n:Nat) (G:Zv):(Xb now n G).used=G.used/\(Xb now n G).parent=G.parent/\(Xb now n G).name=G.name/\(Xb now n G).shelves=G.shelves/\(Xb now n G).weight=G.weight/\(Xb now n G).cpus=G.cpus/\(Xb now n G).sum=G.sum/\(Xb now n G).period=G.period/\(Xb now n G).band.quota=G.band.quota:=by
 unfold Xb; split <;> exact ⟨rfl,rfl,rfl,rfl,rfl,rfl,rfl,rfl,rfl⟩
theorem VM (W:Q8) (n:Nat):∀k:Nat,(V6 W n k).groups.length=W.groups.length/\(V6 W n k).now=W.now+(n:Int)/\(V6 W n k).cpus=W.cpus/\(V6 W n k).tasks=W.tasks
 | 0=>⟨rfl,rfl,rfl,rfl⟩
 | k+1=>by
  obtain ⟨a,b,c,d⟩:=VM W n k;exact ⟨by show (List.set _ _ _).length=_; rw [List.length_set]; exact a,b,c,d⟩
theorem Pm (W:Q8) (n:Nat):∀k:Nat,k<=W.groups.length->∀i:Int,0<=i->gi (V6 W n k).groups i=if i<(k:Int) then Xb W.now n (gi W.groups i) else gi W.groups i
 | 0,_,i,i0=>by rw [if_neg (by omega)]; rfl
 | k+1,hk,i,i0=>by
  have ih:=Pm W n k (by omega) i i0;have hl:=(VM W n k).1;show gi (setGr (V6 W n k) (k:Int) _).groups i=_;rw [Yc (by omega) (by omega) i0]
  by_cases e:(k:Int)=i
  ·subst e;rw [if_pos rfl,if_pos (by omega)]
  ·rw [if_neg e,ih]
   by_cases h:i<(k:Int)
   ·rw [if_pos h,if_pos (by omega)]
   ·rw [if_neg h,if_neg (by omega)]
theorem zg8 (W:Q8):∀k:Nat,(Tf W k).groups=W.groups/\(Tf W k).now=W.now/\(Tf W k).cpus=W.cpus/\(Tf W k).tasks.length=W.tasks.length
 | 0=>⟨rfl,rfl,rfl,rfl⟩
 | k+1=>by
  obtain ⟨a,b,c,d⟩:=zg8 W k;exact ⟨a,b,c,by show (List.set _ _ _).length=_; rw [List.length_set]; exact d⟩
theorem zg9 {K:Int} {W:Q8} (h:SW K W):∀k:Nat,k<=12->SW K (Tf W k)
 | 0,_=>h
 | k+1,hk=>by
  have ih:=zg9 h k (by omega);have hv:=ih.tv (k:Int) (by omega) (by omega);exact ih.setTk (by omega) (by omega) (x:=AI (Q7 (Tf W k) (k:Int))) (fun hs=>ih.t (k:Int) (by omega) (by omega) hs) hv.1 hv.2
theorem zdh {b:Ja} (h:Vd b):Vd (JC b)/\(JC b).locals.length=b.locals.length:=by
 have hd:=h.dl;refine ⟨⟨h.q1,h.q2,by simp only [JC,List.length_replicate]; have:=h.l1; omega,by simp only [JC,List.length_replicate]; have:=h.l2; omega,by simp [JC],by simp only [JC]; have:=h.q1; omega,Int.le_refl _,by simp [JC],by simp only [JC]; have:=h.q1; omega,fun c c0 c1 => ?_,?_⟩,by simp [JC,hd]⟩
 ·simp only [JC,List.length_replicate] at c1 ⊢;rw [Tp _ _ c0 c1,Tp _ _ c0 c1];have:=h.q1;exact ⟨Int.le_refl _,by omega,fun h=>by cases h⟩
 ·simp only [JC,List.length_replicate];rw [DS _ _ (Nat.le_refl _)]; omega
theorem zmd {W W':Q8} {n:Nat} {k:Int} {G:Zv} (hg:ze4 W k G) (hu:G.used=true) (hn:W'.now=W.now+(n:Int)) (hc:W'.cpus.length=W.cpus.length):ze4 W' k (Xb W.now n G):=by
 obtain ⟨_,_,_,u4,u5,u6,u7,u8,u9⟩:=Kp W.now n G;refine ⟨by rw [u5]; exact hg.w1,by rw [u5]; exact hg.w2,by rw [u6]; exact hg.m,by rw [u6]; exact hg.m0,by rw [u7]; exact hg.s,by rw [u4,hc]; exact hg.len,fun h=>by rw [u5,u6,u9]; exact hg.root h,fun hq => ?_,fun hq => ?_⟩
 ·rw [u9] at hq
  have:Xb W.now n G=G:=by
   unfold Xb;rw [if_neg];rintro ⟨h1,_⟩;simp only [Bool.and_eq_true,bne_iff_ne,ne_eq] at h1;exact h1.2 hq
  rw [this];exact hg.none hq
 ·rw [u9] at hq;obtain ⟨b1,b2,b3,b4,b5,b6⟩:=hg.band hq;rw [hn,hc];unfold Xb;split
  ·obtain ⟨f1,f2⟩:=zdh b1;have hj:=LJ b3 b5 n;refine ⟨f1,by show (JC G.band).locals.length=_; rw [f2]; exact b2,b3,b4,hj.gt,?_⟩;obtain ⟨h1,j,h2,h3⟩:=hj;show MQ G.next G.period W.now n - (W.now+(n:Int))<=G.period;rcases h3 with rfl | h3
   ·simp at h2; omega
   ·omega
  ·rename_i hcnd;have hlt:W.now+(n:Int)<G.next:=Int.not_le.1 fun hle=>hcnd ⟨by rw [hu]; simpa using hq,hle⟩
   exact ⟨b1,b2,b3,b4,hlt,by omega⟩
theorem LR (W:Q8) (n:Nat):∀k:Nat,k<=W.groups.length->QP W.groups (V6 W n k).groups
 | 0,_=>QP.refl _
 | k+1,hk=>by
  have ih:=LR W n k (by omega);have hl:=(VM W n k).1;have e:=Pm W n k (by omega) (k:Int) (by omega);rw [if_neg (by omega)] at e;obtain ⟨u1,u2,u3,_⟩:=Kp W.now n (gi W.groups (k:Int));exact ih.trans (XW (W:=V6 W n k) (g:=(k:Int)) (x:=Xb W.now n (gi W.groups (k:Int))) (by omega) (by omega) (by rw [u1,e]) (by rw [u2,e]) (by rw [u3,e]))
theorem zme {K:Int} {W:Q8} {n:Nat} (h:SW K W) (h1:W.now+(n:Int)<=100000000000000000):SW K (Zx W n):=by
 have hl:=h.a.gl;have hT:=LR W n 8 (by omega);obtain ⟨l1,l2,l3,l4⟩:=VM W n 8
 have e:∀i:Int,0<=i->i<8->gi (Zx W n).groups i=Xb W.now n (gi W.groups i):=fun i a b=>by
  have:=Pm W n 8 (by omega) i a
  rwa [if_pos (show i<((8:Nat):Int) by omega)] at this
 have n1:=h.a.n1;have et:∀t:Int,Q7 (Zx W n) t=Q7 W t:=fun t=>by unfold Q7; rw [show (Zx W n).tasks=W.tasks from l4]
 have ec:(Zx W n).cpus=W.cpus:=l3;have hT:QP W.groups (Zx W n).groups:=hT;refine ⟨⟨by rw [show (Zx W n).now=_ from l2]; omega,by rw [show (Zx W n).now=_ from l2]; exact h1,by rw [ec]; exact h.a.c1,by rw [ec]; exact h.a.c2,by rw [show (Zx W n).tasks=W.tasks from l4]; exact h.a.t,hT.tree h.a.tree,by rw [ec]; exact h.a.ups,fun k a b => ?_⟩,fun t a b hs => ?_,fun t a b => ?_,fun k c u a b => ?_,fun c a b => ?_⟩
 ·have hg:=h.a.grp k a b;obtain ⟨u1,u2,u3,u4,u5,u6,u7,u8,u9⟩:=Kp W.now n (gi W.groups k);unfold OI;rw [e k a b];refine ⟨fun hu => ?_,fun hu => ?_⟩
  ·rw [u1] at hu
   have:Xb W.now n (gi W.groups k)=gi W.groups k:=by
    unfold Xb;rw [if_neg];rintro ⟨h1,_⟩;rw [hu] at h1;cases h1
   rw [this];exact hg.1 hu
  ·rw [u1] at hu;exact zmd (hg.2 hu) hu l2 (by rw [ec])
 ·rw [et] at hs ⊢;rw [hT.usd,ec];exact h.t t a b hs
 ·rw [et]; exact h.tv t a b
 ·rw [hT.usd] at u;rw [ec] at b;have hk:=Q5.1 u
  have:Qb (Zx W n) k c=Qb W k c:=by
   unfold Qb;rw [e k hk.1 (by omega),(Kp W.now n (gi W.groups k)).2.2.2.1]
  rw [this];exact h.s k c u a b
 ·rw [ec] at b ⊢;exact h.cu c a b
theorem zrb {W:Q8} (ha:WA W):Zx W 0=W:=by
 have hl:=ha.gl;obtain ⟨l1,l2,l3,l4⟩:=VM W 0 8
 have hg:(Zx W 0).groups=W.groups:=zlb l1 fun k hk=>by
  have hk8:k<8:=by have:(Zx W 0).groups.length=W.groups.length:=l1; omega
  have:=Pm W 0 8 (by omega) (k:Int) (by omega);rw [if_pos (by omega)] at this;refine this.trans (zf4 fun hq => ?_);have hgp:=ha.grp (k:Int) (by omega) (by omega)
  cases hu:(gi W.groups (k:Int)).used with
  | true=>exact ((hgp.2 hu).band hq).2.2.2.2.1
  | false=>
   have:=(hgp.1 hu).b;exact absurd (by unfold VL at this; simp only [Bool.and_eq_true,beq_iff_eq] at this; exact this.1.1.1.1) hq
 have h2:(Zx W 0).now=W.now:=by rw [show (Zx W 0).now=_ from l2]; simp
 have h3:(Zx W 0).cpus=W.cpus:=l3;have h4:(Zx W 0).tasks=W.tasks:=l4;generalize Zx W 0=V at hg h2 h3 h4;cases V;cases W;simp only at hg h2 h3 h4;subst hg; subst h2; subst h3; subst h4;rfl
theorem zid {W:Q8} {n:Int} (hW:QA W=true) (hb:K6 W n=0):Yn n 1 1000=true/\QF W=true/\SW Qp W/\W.now<=Qp/\SW Qp (Zx W n.toNat)/\SW Qp (Tf (Zx W n.toNat) 12):=by
 have wp:=Qi.1 hW;unfold K6 at hb
 split at hb
 ·cases hb
 ·rename_i h1
  split at hb
  ·cases hb
  ·rename_i h3;have h1:Yn n 1 1000=true:=by simpa using h1
   have h3:QF W=true:=by simpa using h3
   have hr:=Qi.1 h3;have sw:=Oo wp hr;have hn:=hr.n;have hi:=Qm.1 h1;have hh:Qp=50000000000000000:=rfl;have s1:=zme (n:=n.toNat) sw (by omega);exact ⟨h1,h3,sw,hn,s1,zg9 s1 12 (Nat.le_refl _)⟩
section
variable {W W':Q8} {m:MW} {w:World} {bar:Int}
theorem znt {l u:Int} (h1:Yn l 0 8000000=true) (h2:Yn u 0 1000000=true):0<=Int.tdiv l 8/\Int.tdiv l 8<=l:=by
 have:=Qm.1 h1;rw [Int.tdiv_eq_ediv_of_nonneg this.1];omega
theorem D7 {bs:List Nat} {l u:Int}:PX bs UP #[.int .i64 l,.int .i64 u] w (.int .i64 (Gw l u)):=
 Dz l u fun wr hx=>⟨_,Qj,_,fun _=>Qj,fun g=>(by
  unfold Gw;rw [if_neg];rintro ⟨h1,h2⟩;rw [h1,h2] at g
  cases g),fun g=>by
  have h1:Yn l 0 8000000=true:=by cases h:Yn l 0 8000000 <;> simp_all
  have h2:Yn u 0 1000000=true:=by cases h:Yn u 0 1000000 <;> simp_all
  have hb:=znt h1 h2;have i1:=Qm.1 h1;have i2:=Qm.1 h2;refine ⟨⟨by decide,by omega,by omega⟩,⟨by omega,by omega⟩,⟨by omega,by omega⟩,?_⟩;unfold Gw;rw [if_pos ⟨h1,h2⟩]⟩
theorem zgg {W:Q8} {k:Int} (h0:0<=k) (h1:k<(W.groups.length:Int)):setGr W k (gi W.groups k)=W:=by
 unfold setGr;rw [zel h0 h1]
set_option maxHeartbeats 1000000 in
theorem Ff {n:Int} (h:Xf [] w W m) (hl:Xe W) :
  Cz Vz #[.agg (Qa W m).toArray,.int .i64 n] w fun e w'=>∃v,e = .returned v/\QD (Xh W (K6 W n) (zev W n)) w v w':=by
 refine EY W.now m.cO W.cpus.length m.cC m.tO W.tasks.length m.tC m.gO W.groups.length m.gC n (R:=fun v w'=>QD (Xh W (K6 W n) (zev W n)) w v w') ?_;intro x hx x1 hx1 wr hx2 hs2;refine Calls.mono (Z1 (h.ext hx2) hl) ?_;rintro e wv (⟨hW,he,hy⟩ | ⟨hW,m',he,hM,hy⟩)
 ·exact ⟨_,_,_,_,_,_,_,_,_,_,_,he,Qe hy hs2,false,fun g=>by simp at g,fun _ wr1 hx3=>QD.bad hW ((hx2.trans hy).fresh hx3 fun y hm=>.inl (Yl hx hx1 y hm)),fun g=>by simp at g⟩
 have hK:=Wk.begin hx hx1 hx2 hs2 hM hy;have hc1:((if QF W=true then 0 else 10:Int)==1)=false:=by split <;> rfl
 refine ⟨_,_,_,_,_,_,_,_,_,_,_,he,Qe hy hs2,_,fun _=>Qj,fun g wr1 hx3 => ?_,fun g=>⟨fun g3 wr2 hx3 => ?_,fun g3 => ?_⟩⟩
 ·rw [hc1] at g;have g:Yn n 1 1000=false:=by simpa using g
  have hb:K6 W n=1:=by unfold K6; rw [if_pos g]
  exact QD.no hW (by rw [hb]; decide) (hK.step hx3) hb
 ·rw [hc1] at g;have g:Yn n 1 1000=true:=by simpa using g
  have hr0:¬QF W=true:=fun hr=>by rw [if_pos hr] at g3; simp at g3
  have hb:K6 W n=10:=by unfold K6; rw [if_neg (by rw [g]; decide),if_pos (by simpa using hr0)]
  rw [if_neg hr0];exact QD.no hW (by rw [hb]; decide) (hK.step hx3) hb
 rw [hc1] at g;have g:Yn n 1 1000=true:=by simpa using g
 have hr0:QF W=true:=Decidable.byContradiction fun hr=>by rw [if_neg hr] at g3; simp at g3
 have hb:K6 W n=0:=by unfold K6; rw [if_neg (by rw [g]; decide),if_neg (by rw [hr0]; decide)]
 obtain ⟨_,_,sw,hnow,sp,sd⟩:=zid hW hb;have hn:=Qm.1 g;obtain ⟨N,rfl⟩:=Int.eq_ofNat_of_zero_le (show 0<=n by omega);have hE:zev W (N:Int)=Qg (Tf (Zx W N) 12):=by unfold zev; rw [Int.toNat_natCast]
 rw [Int.toNat_natCast] at sp sd;rw [hE];have hgl:=sw.a.gl;have htl:=sw.a.t;have hn1:=sw.a.n1;have hh:Qp=50000000000000000:=rfl;refine ⟨⟨by omega,by omega⟩,?_⟩;refine Of W.groups.length 0 rfl (fun k w2=>k<=8/\∃m2,Wk 8 [x,x1] w w2 (V6 W N k) m2/\m2={ m' with ms:=m2.ms }) (fun w2 hx3 _=>⟨by decide,m',(show Wk 8 [x,x1] w wv (V6 W N 0) m' from ⟨hK.s,⟨⟨hK.own.c,hK.own.t,hK.own.g,hK.own.len⟩,hK.nb⟩⟩).step hx3,rfl⟩) fun k w2 hs3 ⟨hk8,m2,hK2,hd2⟩ => ?_
 obtain ⟨l1,l2,l3,l4⟩:=VM W N k;have eG:=Pm W N k (by omega) (k:Int) (by omega);rw [if_neg (by omega)] at eG;have hdef:V6 W N (k+1)=setGr (V6 W N k) (k:Int) (Xb W.now N (gi W.groups (k:Int))):=rfl;have hend:k=8->Zx W N=V6 W N k:=fun e=>by rw [e]; rfl
 have hself:(k:Int)<(W.groups.length:Int)->setGr (V6 W N k) (k:Int) (gi W.groups (k:Int))=V6 W N k:=fun hlt=>by
  have:=zgg (W:=V6 W N k) (k:=(k:Int)) (by omega) (by omega)
  rwa [eG] at this
 have emg:m2.gO=m'.gO:=by rw [hd2]
 have emc:m2.gC=m'.gC:=by rw [hd2]
 refine ⟨fun hlt => ?_,fun hge => ?_⟩
 ·have hlt:=of_decide_eq_true hlt;generalize V6 W N k=V at hK2 l1 l2 l3 l4 eG hdef hend hself;have hr:=hK2.rd;have hltV:(k:Int)<(V.groups.length:Int):=by omega
  have hix:Ix m'.gO W.groups.length (k:Int):=by have:=hr.g.ix (i:=(k:Int)) (by omega) hltV; rwa [l1,emg] at this
  have hcs:=hr.g.cells (k:Int) (by omega) hltV;rw [eG,emg] at hcs;refine ⟨hix,_,_,_,_,_,_,_,_,_,_,_,_,_,_,_,_,_,_,_,_,hcs,fun b2 hb2=>⟨fun g4=>⟨⟨by omega,by omega⟩,fun w3 hx3 _=>QX (by omega) ⟨by omega,m2,?_,hd2⟩⟩,fun g4 wr5 hx5 hs5 => ?_⟩⟩
  ·have:Xb W.now N (gi W.groups (k:Int))=gi W.groups (k:Int):=by
    unfold Xb;rw [if_neg];rintro ⟨a,b⟩;simp only [Bool.or_eq_true,Bool.not_eq_true',beq_iff_eq,decide_eq_true_eq] at g4;simp only [Bool.and_eq_true,bne_iff_ne,ne_eq] at a;rcases g4 with (h1 | h1) | h1
    ·rw [a.1] at h1; cases h1
    ·exact a.2 h1
    ·omega
   rw [hdef,this,hself hlt];exact hK2.step hx3
  ·simp only [Bool.or_eq_false_iff,Bool.not_eq_false',beq_eq_false_iff_ne,ne_eq,decide_eq_false_iff_not] at g4;obtain ⟨⟨hu,hq⟩,hdue⟩:=g4;have hgu:=(sw.a.grp (k:Int) (by omega) (by omega)).2 hu;obtain ⟨hbd,hbl,hp1,hp2,hnx,hnp⟩:=hgu.band hq
   have hP:Xb W.now N (gi W.groups (k:Int))={ gi W.groups (k:Int) with next:=MQ (gi W.groups (k:Int)).next (gi W.groups (k:Int)).period W.now N,band:=JC (gi W.groups (k:Int)).band }:=by
    unfold Xb;rw [if_pos ⟨by rw [hu]; simpa using hq,by omega⟩]
   have hJ:=LJ hp1 hnx N;have hK3:=(hK2.add hb2).step (hx5.mono fun y hy=>List.mem_append_left _ hy);have hr5:=hK3.o.rd0;have hLo:=hr5.g.locals (k:Int) (by omega) hltV;have hDo:=hr5.g.dry (k:Int) (by omega) hltV;rw [eG] at hLo hDo;refine Calls.mono (XT (op:=⟨4,0,0⟩) hbd hLo hDo) ?_;rintro e wv2 ⟨pb,he,hO,hy2⟩;have hbdE:Yu (gi W.groups (k:Int)).band ⟨4,0,0⟩=(JC (gi W.groups (k:Int)).band,0):=by unfold Yu; rw [if_pos rfl]
   rw [hbdE] at he hO
   dsimp only at he hO
   refine ⟨_,_,_,_,_,_,_,_,_,_,he,Qe hy2 hs5,fun b3 hb3 => ?_⟩;have hK4:=(hK3.call0 hy2).add hb3
   have hOb:∀y∈ZE pb,y∉QL 8 m2/\y∉[x,x1]++[b2]++[b3]:=fun y hy=>by
    have:=hO.lt y hy;refine ⟨fun hm=>by have:=(hK3.own.lt y hm).2; omega,fun hm => ?_⟩;rcases List.mem_append.1 hm with h1 | h1
    ·have:=hs5 y h1; omega
    ·have:y=b3:=by simpa using h1
     omega
   have hO4:QT w.heap.size wv2 (JC (gi W.groups (k:Int)).band) pb:=hO.mono hK3.base;refine ⟨fun vs w'=>∃v:Int,vs=Yo { gi W.groups (k:Int) with next:=v,band:=JC (gi W.groups (k:Int)).band } (Ol (m2.ms k) pb)/\(∃j:Nat,v=(gi W.groups (k:Int)).next+(gi W.groups (k:Int)).period*(j:Int)/\(j=0\/v - (gi W.groups (k:Int)).period<=W.now+(N:Int)))/\0<=v/\Wk 8 ([x,x1]++[b2]++[b3]) w w' V m2/\QT w.heap.size w' (JC (gi W.groups (k:Int)).band) pb,fun vs _=>(W.now+(N:Int)+1 - ZW 6 vs).toNat,fun wr7 hx7 hs7=>⟨(gi W.groups (k:Int)).next,by simp [Yo,Ol],⟨0,by simp,.inl rfl⟩,by omega,hK4.step (hx7.mono fun y hy=>List.mem_append_left _ hy),hO4.ext hx7 fun y hy hm=>(hOb y hy).2 (List.mem_append_left _ hm)⟩,?_⟩;rintro l0 a1 a2 a3 a4 a5 a6 a7 a8 a9 a10 a11O a11L a11C a12O a12L a12C a13O a13L a13C wv4 hs4 ⟨v,hv,hj,hv0,hK5,hO5⟩;simp only [Yo,Z3,List.cons_append,List.nil_append,List.cons.injEq,Value.bool.injEq,Value.int.injEq,Value.string.injEq,Value.slice.injEq,true_and,and_true] at hv;obtain ⟨rfl,rfl,rfl,rfl,rfl,rfl,rfl,rfl,rfl,rfl,rfl,⟨rfl,rfl,rfl⟩,⟨rfl,rfl,rfl⟩,rfl,rfl,rfl⟩:=hv;refine ⟨fun hle => ?_,fun hgt => ?_⟩
   ·have hle:=of_decide_eq_true hle;refine ⟨⟨by omega,by omega⟩,fun wr8 hx8 hs8=>⟨⟨a6+(gi W.groups (k:Int)).period,rfl,?_,by omega,hK5.step hx8,hO5.ext hx8 fun y hy=>(hOb y hy).2⟩,?_⟩⟩
    ·obtain ⟨j,h1,_⟩:=hj;exact ⟨j+1,by rw [h1]; push_cast; rw [Int.mul_add,Int.mul_one,Int.add_assoc],.inr (by omega)⟩
    ·show (_ - (a6+(gi W.groups (k:Int)).period)).toNat<(_ - a6).toNat;omega
   ·have hgt:=of_decide_eq_false hgt;have hv6:a6=MQ (gi W.groups (k:Int)).next (gi W.groups (k:Int)).period W.now N:=zok hp1 ⟨by omega,hj⟩ hJ;have hwr:=CH hK5.own hK5.nb (i:=(k:Int)) (by omega) (by omega) (j:=0) (k:=14) (by decide);rw [emg] at hwr;refine ⟨hix,hwr,⟨by omega,by omega⟩,fun wr9 hx9 hs9=>QX (by omega) ⟨by omega,TH m2 k (Ol (m2.ms k) pb),?_,by rw [hd2]; rfl⟩⟩;rw [hdef];have hK6:=hK5.gr (g:=(k:Int)) (by omega) (by omega) (G:=Xb W.now N (gi W.groups (k:Int))) (p:=pb) (j:=0) (vs:=Yo (Xb W.now N (gi W.groups (k:Int))) (Ol (m2.ms k) pb)) (by rw [hP]; exact hO5) hOb (by rw [eG]; exact (Kp _ _ _).2.2.2.1) (by simp [Yo]) (by simp [Yo]);refine (hK6.step (w':=wr9) ?_).sub fun y hy=>List.mem_append_left _ (List.mem_append_left _ hy)
    rw [hP,<-hv6,emg];exact hx9
 ·have hge:=of_decide_eq_false hge;rw [<-hend (by omega)] at hK2 l1 l2 l3 l4;have emt:m2.tO=m'.tO:=by rw [hd2]
  refine Of W.tasks.length 0 rfl (fun t w2=>t<=12/\Wk 8 [x,x1] w w2 (Tf (Zx W N) t) m2) (fun w2 hx3 _=>⟨by decide,hK2.step hx3⟩) fun t w2 hs4 ⟨ht12,hK3⟩ => ?_
  obtain ⟨q1,q2,q3,q4⟩:=zg8 (Zx W N) t;have hdef2:Tf (Zx W N) (t+1)=setTk (Tf (Zx W N) t) (t:Int) (AI (Q7 (Tf (Zx W N) t) (t:Int))):=rfl;have hend2:t=12->Tf (Zx W N) 12=Tf (Zx W N) t:=fun e=>by rw [e]
  generalize hU:Tf (Zx W N) t=U at hK3 q1 q2 q3 q4 hdef2 hend2;have hr:=hK3.rd;refine ⟨fun hlt => ?_,fun hge2 wr12 hx12 hs12 => ?_⟩
  ·have hlt:=of_decide_eq_true hlt;have t1:(t:Int)<(U.tasks.length:Int):=by rw [q4,l4]; exact hlt
   have hix:Ix m'.tO W.tasks.length (t:Int):=by have:=hr.t.ix Qz (i:=(t:Int)) (by omega) t1; rwa [q4,l4,emt] at this
   have hcs:=hr.t (t:Int) (by omega) t1;rw [emt] at hcs;have hwr:=zc1 hK3.own hK3.nb (i:=(t:Int)) (by omega) t1 (j:=0) (k:=9) (by decide);rw [emt] at hwr;refine ⟨hix,_,_,_,_,_,_,_,_,_,hcs,fun b4 hb4=>⟨_,XH,_,D7,_,XH,hix,hwr,⟨by omega,by omega⟩,fun wr11 hx11 hs11=>QX (by omega) ⟨by omega,?_⟩⟩⟩;rw [hdef2];have hset:=hK3.own.stoT (i:=(t:Int)) (by omega) t1 (j:=0) (vs:=YJ (AI (Q7 U (t:Int)))) (x:=AI (Q7 U (t:Int))) (by simp [YJ]) (by simp [YJ]);have hK4:=hK3.sto hset KO;rw [emt] at hK4;exact hK4.step hx11
  ·have hge2:=of_decide_eq_false hge2;rw [hend2 (by omega)] at sd ⊢;have hK4:=hK3.step hx12;have hcall:=Qq hK4.own sd (by decide) (by decide) hK4.base
   have e5:Qa U m2=[.int .i64 (W.now+(N:Int)),.slice m'.cO W.cpus.length m'.cC,.slice m'.tO W.tasks.length m'.tC,.slice m'.gO W.groups.length m'.gC]:=by
    unfold Qa;rw [q2,q3,q4,q1,l1,l2,l3,l4,hd2]
   rw [e5] at hcall;refine Calls.mono hcall ?_;rintro e2 wv2 ⟨m3,he2,hy2⟩;exact ⟨_,_,_,_,_,_,_,_,_,_,he2,hK4.kept hy2 hs12,fun wr13 hx13=>QD.ok hW hb ((hK4.deed hy2 hs12).step hx13)⟩
section
variable {base pb:Nat} {w0 w':World} {m0 m':MW}
end
end
theorem Vc.same {W W':Q8} (p:Vc W) (ha:WA W') (ht:W'.tasks=W.tasks) (hc:W'.cpus=W.cpus) (hT:QP W.groups W'.groups) (hs:∀k c:Int,Qb W' k c=Qb W k c):Vc W':=by
 have est:∀k c:Int,Uv W' k c↔Uv W k c:=fun k c=>by
  unfold Uv;rw [hT.p,hs,hs]
 refine ⟨⟨ha,fun t t0 t1 => ?_,fun t t0 t1 n=>by rw [Xx ht] at n ⊢; rw [hc]; exact p.l t t0 t1 n,fun k c hk c0 c1 => ?_⟩,fun c c0 c1 => ?_⟩
 ·rw [Xx ht];rcases p.t t t0 t1 with h | ⟨h1,h2⟩
  ·exact .inl h
  ·exact .inr ⟨h1,h2.st,by rw [hT.usd]; exact h2.g,h2.n,h2.m,h2.m0,h2.s,h2.u,h2.l1,h2.l2,fun h=>by rw [hs]; exact h2.f h⟩
 ·rw [hT.usd] at hk;rw [hc] at c1;exact (p.s k c hk c0 c1).cong (hs _ _) fun _=>by rw [hT.p,hs]
 ·rw [hc] at c1;have h:=p.c c c0 c1;refine ⟨by rw [hc]; exact h.b,by rw [hc]; exact h.i,by rw [hc]; exact h.c1,by rw [hc]; exact h.c2,by rw [hc]; exact h.no,by rw [hc]; exact h.yes,fun h0 h1 h2 => ?_⟩;rw [hc,Xx ht] at *;obtain ⟨q1,q2⟩:=h.q h0 h1 h2;refine ⟨by rw [hs]; exact q1,fun y hy => ?_⟩;rw [V7 hT] at hy;rw [est,hT.p,hs,hs];exact q2 y hy
theorem zpq {W W':Q8} (hT:QP W.groups W'.groups) (hm:∀i:Int,(gi W'.groups i).cpus=(gi W.groups i).cpus) (hu:Xm W'.cpus=Xm W.cpus) (g m:Int):Qo W' g m=Qo W g m:=by
 unfold Qo
 have hp:XI W'.groups g (Xm W.cpus)=XI W.groups g (Xm W.cpus):=by
  unfold XI;rw [show QQ W'.groups g=QQ W.groups g from hT.path 3 g]
  congr 1
  funext s x
  rw [hm]
 rw [hu,hp]
theorem B4.same {W W':Q8} (h:B4 W) (ht:W'.tasks=W.tasks) (hT:QP W.groups W'.groups) (hm:∀i:Int,(gi W'.groups i).cpus=(gi W.groups i).cpus) (hu:Xm W'.cpus=Xm W.cpus):B4 W':=fun t t0 t1 n=>by
 rw [Xx ht] at n ⊢;rw [zpq hT hm hu];exact h t t0 t1 n
theorem zgi {W:Q8} {g:Int} {x:Zv} (s:x.shelves=(gi W.groups g).shelves) (k c:Int):Qb (setGr W g x) k c=Qb W k c:=by
 unfold Qb;rw [show (gi (setGr W g x).groups k).shelves=(gi W.groups k).shelves from Yq (f:=Zv.shelves) _ _ s k]
theorem zod {W:Q8} {g q p:Int} (hW:QA W=true) (hb:zfv W g q p=0):XC (zq2 W g q p):=by
 have wp:=Qi.1 hW;obtain ⟨hu,hz,_,_,sw,sw2⟩:=zlu hW hb;obtain ⟨u0,u1,_⟩:=Q5.1 hu;have h:=zbz (W:=W) (g:=g) (q:=q) (p:=p);have hT:=XW (W:=W) (x:=OT W g q p) u0 u1 h.1 h.2.1 h.2.2.1;exact Zf sw2 (by decide) (by decide) ((YX wp).same sw2.a rfl rfl hT (zgi h.2.2.2.1)) ((JN wp).same rfl hT (fun i=>Yq (f:=Zv.cpus) _ _ h.2.2.2.2.2.1 i) rfl)
theorem zll {W:Q8} {n:Int} (hW:QA W=true) (hb:K6 W n=0):XC (zev W n):=by
 have wp:=Qi.1 hW;obtain ⟨_,_,sw,_,sp,sd⟩:=zid hW hb;have hgl:=wp.a.gl;obtain ⟨l1,l2,l3,l4⟩:=VM W n.toNat 8;have hT:QP W.groups (Zx W n.toNat).groups:=LR W n.toNat 8 (by omega)
 have key:∀i:Int,(gi (Zx W n.toNat).groups i).shelves=(gi W.groups i).shelves/\(gi (Zx W n.toNat).groups i).cpus=(gi W.groups i).cpus:=fun i=>by
  have hu:=Kp W.now n.toNat (gi W.groups ((i.toNat:Nat):Int));have e:=Pm W n.toNat 8 (by omega) ((i.toNat:Nat):Int) (by omega);rw [BX (Zx W n.toNat).groups i,BX W.groups i];unfold Zx;rw [e];split
  ·exact ⟨hu.2.2.2.1,hu.2.2.2.2.2.1⟩
  ·exact ⟨rfl,rfl⟩
 have p1:Vc (Zx W n.toNat):=(YX wp).same sp.a l4 l3 hT fun k c=>by unfold Qb; rw [(key k).1]
 have q1:B4 (Zx W n.toNat):=(JN wp).same l4 hT (fun i=>(key i).2) (by rw [show (Zx W n.toNat).cpus=W.cpus from l3])
 have all:∀k:Nat,k<=12->Vc (Tf (Zx W n.toNat) k)/\B4 (Tf (Zx W n.toNat) k):=by
  intro k
  induction k with
  | zero=>exact fun _=>⟨p1,q1⟩
  | succ k ih=>
   intro hk;obtain ⟨a,b⟩:=ih (by omega);show Vc (setTk (Tf (Zx W n.toNat) k) (k:Int) (AI (Q7 (Tf (Zx W n.toNat) k) (k:Int))))/\B4 (setTk (Tf (Zx W n.toNat) k) (k:Int) (AI (Q7 (Tf (Zx W n.toNat) k) (k:Int))));generalize Tf (Zx W n.toNat) k=V at a b
   by_cases hs:(Q7 V (k:Int)).state=0
   ·have hz:Q7 V (k:Int)=Vl:=by
     rcases a.t (k:Int) (by omega) (by omega) with h | h
     ·exact h.2
     ·exact absurd hs h.1
    rw [hz];have hd:AI Vl=Vl:=by decide
    rw [hd];exact ⟨a.setTk (by omega) (by omega) (.inl ⟨rfl,rfl⟩) fun c _ _ _ h _=>(by cases h),b.setTk a.a (by omega) (by omega) fun h=>absurd rfl h⟩
   ·have h:=VW a (t:=(k:Int)) (by omega) (by omega) hs;have hlo:=a.l (k:Int) (by omega) (by omega) hs
    have hld:0<=(AI (Q7 V (k:Int))).load/\(AI (Q7 V (k:Int))).load<=8000000:=by
     have h1:=h.l1;have h2:=h.l2;have h3:=ZU.1 h.u
     have ht:0<=Int.tdiv (Q7 V (k:Int)).load 8/\Int.tdiv (Q7 V (k:Int)).load 8<=(Q7 V (k:Int)).load:=by
      rw [Int.tdiv_eq_ediv_of_nonneg h1];omega
     show 0<=ZT (Gw (Q7 V (k:Int)).load (ZT (Q7 V (k:Int)).used 1000000)) 8000000/\ZT (Gw (Q7 V (k:Int)).load (ZT (Q7 V (k:Int)).used 1000000)) 8000000<=8000000;have hm:0<=ZT (Q7 V (k:Int)).used 1000000:=by unfold ZT; split <;> omega
     have hbt:0<=Gw (Q7 V (k:Int)).load (ZT (Q7 V (k:Int)).used 1000000):=by unfold Gw; split <;> omega
     generalize Gw (Q7 V (k:Int)).load (ZT (Q7 V (k:Int)).used 1000000)=y at hbt;unfold ZT
     split <;> omega
    refine ⟨a.setTk (by omega) (by omega) (.inr ⟨hs,⟨h.st,h.g,h.n,h.m,h.m0,h.s,by show Zs 0=true; decide,hld.1,hld.2,h.f⟩,hlo⟩) fun c c0 c1 hcur h1 h2 => ?_,b.setTk a.a (by omega) (by omega) fun _=>b (k:Int) (by omega) (by omega) hs⟩;have hc:=(a.c c c0 c1).q (by rw [hcur]; omega);rw [hcur] at hc;exact hc h1 h2
 obtain ⟨p2,q2⟩:=all 12 (Nat.le_refl _);exact Zf sd (by decide) (by decide) p2 q2
theorem NQ {W:Q8} (p:Vc W) {t g c:Int} (t0:0<=t) (t1:t<12) (n:(Q7 W t).state≠0) (hg:Q6 W.groups g=true) (c0:0<=c) (c1:c<(W.cpus.length:Int)):Vc (Us W t g c):=by
 have h:=VW p t0 t1 n
 have hT:G7 W (OV W t g c):=⟨h.st,hg,h.n,h.m,h.m0,h.s,h.u,h.l1,h.l2,fun _=>by
  have:=ZO ((Q7 W t).v - (Qb W (Q7 W t).group (Q7 W t).cpu).floor) (Qd (Q7 W t).nice);show (Qb W g c).floor<=(Qb W g c).floor+Dg W t/\(Qb W g c).floor+Dg W t - (Qb W g c).floor<=Zk (Qd (Q7 W t).nice);unfold Dg;exact ⟨by omega,by omega⟩⟩
 unfold Us;split
 ·exact FW p t0 t1 n hT rfl c0 c1
 ·rename_i hs;exact p.setTk t0 t1 (.inr ⟨n,hT,c0,c1⟩) fun d _ _ _ h _=>absurd h hs
theorem B0 (W:Q8) (t g c:Int):Ve W (Us W t g c):=by
 unfold Us;split
 ·exact (zgm _ _ _).trans (Ku _ _)
 ·exact zgm _ _ _
theorem zga {W:Q8} (hl:W.tasks.length=12) {t g c:Int} (t0:0<=t) (t1:t<12) {i:Int} (i0:0<=i):Q7 (Us W t g c) i=if t=i then OV W t g c else Q7 W i:=by
 have e:Q7 (setTk W t (OV W t g c)) i=if t=i then OV W t g c else Q7 W i:=Qw _ _ t0 (by omega) i0;unfold Us;split
 ·exact e
 ·exact e
theorem zh2 {W:Q8} (p:Vc W):∀k:Nat,k<=12->Vc (Jo W k)/\Ve W (Jo W k)/\(∀t:Int,0<=t->t<(k:Int)->(Q7 (Jo W k) t).state≠0->Z4 (Qo (Jo W k) (Q7 (Jo W k) t).group (Q7 (Jo W k) t).mask) (Q7 (Jo W k) t).cpu=true)
 | 0,_=>⟨p,Ve.refl _,fun t a b=>by omega⟩
 | k+1,hk=>by
  obtain ⟨a,b,d⟩:=zh2 p k (by omega);simp only [Jo];generalize Jo W k=V at a b d;have hl:=a.a.t;split
  ·rename_i hm;unfold MO at hm;simp only [Bool.and_eq_true,bne_iff_ne,ne_eq] at hm;have h:=VW a (t:=(k:Int)) (by omega) (by omega) hm.1;have hf:=Ky a.a (Q7 V (k:Int)).group (Q7 V (k:Int)).mask;have hw:=Pu a.a (Q7 V (k:Int)).group (Q7 V (k:Int)).mask;refine ⟨NQ a (by omega) (by omega) hm.1 h.g hf.1 hf.2,b.trans (B0 _ _ _ _),fun t t0 t1 n => ?_⟩;rw [(B0 V _ _ _).wh];rw [zga hl (by omega) (by omega) t0] at n ⊢
   split at n
   ·rename_i he;rw [if_pos he];exact H0 hw.1 hw.2
   ·rename_i he;rw [if_neg he];exact d t t0 (by omega) n
  ·rename_i hm;refine ⟨a,b,fun t t0 t1 n => ?_⟩
   by_cases he:t=(k:Int)
   ·subst he;have hm:MO V (k:Int)=false:=by simpa using hm
    unfold MO at hm;rw [show ((Q7 V (k:Int)).state != 0)=true by simpa using n,Bool.true_and] at hm
    simpa using hm
   ·exact d t t0 (by omega) n
theorem FZ {W:Q8} (sf:SF Qp (Qp+Qk) W) (p:Vc W):XC (Qg (KN W)):=by
 obtain ⟨a,b,d⟩:=zh2 p 12 (Nat.le_refl _);exact Zf (Ks sf (Int.le_refl _)).1.w (by simp only [Qk]; decide) (by simp only [Qk,Uu]; decide) a d
theorem zoh {W:Q8} {t x:Int} (hW:QA W=true) (hb:Hc W t x=0):XC (zpc W t x):=by
 have wp:=Qi.1 hW;obtain ⟨h1,_,sf⟩:=zmk hW hb;obtain ⟨t0,t1,tn⟩:=ZL h1;have hl:=wp.a.t;have p:=YX wp;have h:=VW p t0 (by omega) tn
 have hx:Tt x=true/\x≠0:=by
  unfold Hc at hb
  split at hb
  ·cases hb
  ·rename_i hn;exact ⟨by cases hm:Tt x with | true=>rfl | false=>exact absurd (.inl hm) hn,fun e=>hn (.inr e)⟩
 refine FZ sf (p.setTk t0 (by omega) (.inr ⟨tn,⟨h.st,h.g,h.n,hx.1,hx.2,h.s,h.u,h.l1,h.l2,h.f⟩,p.l t t0 (by omega) tn⟩) fun c c0 c1 hcur h1 h2 => ?_);have hc:=(p.c c c0 c1).q (by rw [hcur]; omega);rw [hcur] at hc;exact hc h1 h2
theorem zoc {W:Q8} {g x:Int} (hW:QA W=true) (hb:zfn W g x=0):XC (zn6 W g x):=by
 have wp:=Qi.1 hW;obtain ⟨hu,_,_,sf,hT⟩:=zld hW hb;exact FZ sf ((YX wp).same sf.w.a rfl rfl hT (zgi rfl))
theorem G7.gr {W W':Q8} {x:OY} (h:G7 W x) (e:W'.groups=W.groups):G7 W' x:=
 ⟨h.st,by rw [e]; exact h.g,h.n,h.m,h.m0,h.s,h.u,h.l1,h.l2,fun hs=>by unfold Qb; rw [e]; exact h.f hs⟩
theorem zqr {W:Q8} {c:Int} (hW:QA W=true) (hb:UJ W c false 0=0):XC (zsr W c):=by
 have wp:=Qi.1 hW;obtain ⟨c0,c1,_,sf⟩:=zp2 hW hb;have p:=YX wp;refine FZ sf ⟨⟨sf.w.a,fun t t0 t1=>(p.t t t0 t1).imp id fun h=>⟨h.1,h.2.gr rfl⟩,fun t t0 t1 n => ?_,fun k d hk d0 d1 => ?_⟩,fun d d0 d1 => ?_⟩
 ·have:=p.l t t0 t1 n;show _/\_<(((W.cpus.set c.toNat _).length:Nat):Int);rw [List.length_set]; exact this
 ·have d1:d<(((W.cpus.set c.toNat (M8 (gi W.cpus c) true)).length:Nat):Int):=d1;rw [List.length_set] at d1;exact (p.s k d hk d0 d1).cong rfl fun _=>rfl
 ·have d1:d<(((W.cpus.set c.toNat (M8 (gi W.cpus c) true)).length:Nat):Int):=d1;rw [List.length_set] at d1;have h:=p.c d d0 d1;have e:gi (setCp W c (M8 (gi W.cpus c) true)).cpus d=if c=d then M8 (gi W.cpus c) true else gi W.cpus d:=Qw _ _ c0 c1 d0
  have eb:(gi (setCp W c (M8 (gi W.cpus c) true)).cpus d).cur=(gi W.cpus d).cur/\(gi (setCp W c (M8 (gi W.cpus c) true)).cpus d).ran=(gi W.cpus d).ran/\(gi (setCp W c (M8 (gi W.cpus c) true)).cpus d).busy=(gi W.cpus d).busy/\(gi (setCp W c (M8 (gi W.cpus c) true)).cpus d).idle=(gi W.cpus d).idle/\((gi W.cpus d).up=true->(gi (setCp W c (M8 (gi W.cpus c) true)).cpus d).up=true):=by
   rw [e];split
   ·rename_i he; subst he; exact ⟨rfl,rfl,rfl,rfl,fun _=>rfl⟩
   ·exact ⟨rfl,rfl,rfl,rfl,id⟩
  obtain ⟨e1,e2,e3,e4,e5⟩:=eb;refine ⟨by rw [e3]; exact h.b,by rw [e4]; exact h.i,by rw [e1]; exact h.c1,by rw [e1]; exact h.c2,by rw [e1,e2]; exact h.no,fun h0 => ?_,?_⟩
  ·rw [e1] at h0;have:=h.yes h0;exact ⟨e5 this.1,by rw [e2]; exact this.2⟩
  ·rw [e1,e2]; exact h.q
theorem zog {W:Q8} {c:Int} (hW:QA W=true) (hb:UJ W c true (KJ W)=0):XC (zo5 W c):=by
 have wp:=Qi.1 hW;obtain ⟨c0,c1,_,sf⟩:=zmb hW hb;have p:=YX wp;have hl:(setCp W c (M8 (gi W.cpus c) false)).cpus.length=W.cpus.length:=List.length_set;have sfE:=sf.endW c0 (by rw [hl]; exact c1)
 have hcs:endW (setCp W c (M8 (gi W.cpus c) false)) c=setCp W c (Xi (M8 (gi W.cpus c) false)):=by
  have e:gi (setCp W c (M8 (gi W.cpus c) false)).cpus c=M8 (gi W.cpus c) false:=(Qw _ _ c0 c1 c0).trans (if_pos rfl);unfold endW;rw [e];simp [setCp,List.set_set]
 show XC (Qg (KN (endW (setCp W c (M8 (gi W.cpus c) false)) c)));rw [hcs] at sfE ⊢;refine FZ sfE ⟨⟨sfE.w.a,fun t t0 t1=>(p.t t t0 t1).imp id fun h=>⟨h.1,h.2.gr rfl⟩,fun t t0 t1 n => ?_,fun k d hk d0 d1 => ?_⟩,fun d d0 d1 => ?_⟩
 ·have:=p.l t t0 t1 n;show _/\_<(((W.cpus.set c.toNat _).length:Nat):Int);rw [List.length_set]; exact this
 ·have d1:d<(((W.cpus.set c.toNat (Xi (M8 (gi W.cpus c) false))).length:Nat):Int):=d1;rw [List.length_set] at d1;exact (p.s k d hk d0 d1).cong rfl fun _=>rfl
 ·have d1:d<(((W.cpus.set c.toNat (Xi (M8 (gi W.cpus c) false))).length:Nat):Int):=d1;rw [List.length_set] at d1;have h:=p.c d d0 d1;have e:gi (setCp W c (Xi (M8 (gi W.cpus c) false))).cpus d=if c=d then Xi (M8 (gi W.cpus c) false) else gi W.cpus d:=Qw _ _ c0 c1 d0
  by_cases he:c=d
  ·subst he;have e:=e.trans (if_pos rfl);refine ⟨by rw [e]; exact h.b,by rw [e]; exact h.i,by rw [e]; show (-1:Int)<=-1; decide,by rw [e]; show (-1:Int)<12; decide,fun _=>by rw [e]; rfl,fun h0 => ?_,fun h0 => ?_⟩
   ·rw [e] at h0;have h0:(0:Int)<=-1:=h0;omega
   ·rw [e] at h0;have h0:(0:Int)<=-1:=h0;omega
  ·have e:=e.trans (if_neg he);exact ⟨by rw [e]; exact h.b,by rw [e]; exact h.i,by rw [e]; exact h.c1,by rw [e]; exact h.c2,by rw [e]; exact h.no,by rw [e]; exact h.yes,by rw [e]; exact h.q⟩
def A8 (W:Q8) (g c x:Int):Ma:={ Qb W g c with v:=if (Qb W g c).on=true then (Qb W (gi W.groups g).parent c).floor+YV ((Qb W g c).v - (Qb W (gi W.groups g).parent c).floor) x else (Qb W g c).v,w:=x }
def zcx (W:Q8) (g c:Int):Bool:=decide ((gi W.cpus c).cur>=0)&&Vi 3 W.groups g (Q7 W (gi W.cpus c).cur).group
def Jd (W:Q8) (g c x:Int):Q8:=setSh W g c (A8 W g c x)
def PS (W:Q8) (g c x:Int):Q8:=if (Qb W g c).w=x then W else if zcx (Jd W g c x) g c=true then endW (Jd W g c x) c else Jd W g c x
def L9 (W:Q8):Prop:=∀c:Int,0<=c->c<(W.cpus.length:Int)->(gi W.cpus c).cur>=0->Q6 W.groups (Q7 W (gi W.cpus c).cur).group=true
theorem zg7 {W:Q8} (wp:Xn W):L9 W:=fun c c0 c1 h=>by
 have hc:=wp.c c c0 c1;have hy:=hc.yes h;have hl:=hy.2.2.2.2.1;have c2:=hc.c2;have ht:=wp.a.t;unfold Zr at hl;simp only [Bool.and_eq_true,beq_iff_eq] at hl;rcases wp.t (gi W.cpus c).cur h (by omega) with h1 | h1
 ·rw [h1.1] at hl; exact absurd hl.1 (by decide)
 ·exact h1.2.g
theorem L9.setSh {W:Q8} (h:L9 W) {g c:Int} {s:Ma} (u0:0<=g) (u1:g<(W.groups.length:Int)):L9 (setSh W g c s):=fun d d0 d1 hc=>by
 rw [(Xd u0 u1).usd];exact h d d0 d1 hc
theorem L9.endW {W:Q8} (h:L9 W) {c:Int} (c0:0<=c) (c1:c<(W.cpus.length:Int)):L9 (endW W c):=fun d d0 d1 hc=>by
 have d1:d<(((W.cpus.set c.toNat (Xi (gi W.cpus c))).length:Nat):Int):=d1;rw [List.length_set] at d1;have hg:gi (Go.Proofs.YtclpmgfpjeaibaaGreat.endW W c).cpus d=if c=d then Xi (gi W.cpus c) else gi W.cpus d:=Qw _ _ c0 c1 d0;rw [hg] at hc ⊢
 split at hc
 ·exact absurd hc (by show ¬(-1:Int)>=0; decide)
 ·rename_i hn;rw [if_neg hn];exact h d d0 d1 hc
theorem zpo {F K:Int} {W:Q8} (h:SF F K W) (hk:F+Qk<=K) {g c x:Int} (hu:Q6 W.groups g=true) (hz:g≠0) (c0:0<=c) (c1:c<(W.cpus.length:Int)) (x1:1<=x) (x2:x<=20):SF F K (Jd W g c x):=by
 have hp:=h.w.a.up hu hz;have s1:=h.w.s g c hu c0 c1;have s2:=h.w.s _ c hp c0 c1;have f1:=h.f g c hu c0 c1;have f2:=h.f _ c hp c0 c1;have lc:=ZO ((Qb W g c).v - (Qb W (gi W.groups g).parent c).floor) x;have lm:=ZJ x;refine h.setSh hu c0 c1 s1.1 f1 (by show (Qb W g c).floor<=K; omega) ?_ ?_ x1 x2
 ·simp only [A8]; split <;> omega
 ·simp only [A8]; simp only [Qk] at hk; split <;> omega
theorem zij {F K:Int} {W:Q8} (h:SF F K W) (hk:F+Qk<=K) (hc:L9 W) {g c x:Int} (hu:Q6 W.groups g=true) (hz:g≠0) (c0:0<=c) (c1:c<(W.cpus.length:Int)) (x1:1<=x) (x2:x<=20):SF F K (PS W g c x)/\Fr W (PS W g c x)/\L9 (PS W g c x):=by
 obtain ⟨u0,u1,_⟩:=Q5.1 hu;have hv:=zpo h hk hu hz c0 c1 x1 x2;have hf:Fr W (Jd W g c x):=(Pl u0 u1).fr;have hc2:L9 (Jd W g c x):=hc.setSh u0 u1;unfold PS;split
 ·exact ⟨h,Fr.refl _,hc⟩
 ·split
  ·exact ⟨hv.endW c0 c1,hf.trans (BW _ _),hc2.endW c0 c1⟩
  ·exact ⟨hv,hf,hc2⟩
def Ka (W:Q8) (g x:Int):Nat->Q8
 | 0=>W
 | c+1=>PS (Ka W g x c) g (c:Int) x
theorem zcy {F K:Int} {W:Q8} (h:SF F K W) (hk:F+Qk<=K) (hc:L9 W) {g x:Int} (hu:Q6 W.groups g=true) (hz:g≠0) (x1:1<=x) (x2:x<=20):∀c:Nat,c<=W.cpus.length->SF F K (Ka W g x c)/\Fr W (Ka W g x c)/\L9 (Ka W g x c)
 | 0,_=>⟨h,Fr.refl _,hc⟩
 | c+1,hn=>by
  obtain ⟨a,b,d⟩:=zcy h hk hc hu hz x1 x2 c (by omega);obtain ⟨a2,b2,d2⟩:=zij a hk d (g:=g) (c:=(c:Int)) (x:=x) (by rw [b.g.usd]; exact hu) hz (by omega) (by rw [b.c]; omega) x1 x2;exact ⟨a2,b.trans b2,d2⟩
def Pt (W:Q8) (g x:Int):Zv:={ gi W.groups g with weight:=x }
noncomputable def zgt (W:Q8) (g x:Int):Int:=OO W g (Yn x 1 20)
def zpp (W:Q8) (g x:Int):Q8:=Qg (Ka (setGr W g (Pt W g x)) g x W.cpus.length)
theorem znd {W:Q8} {g x:Int} (hW:QA W=true) (hb:zgt W g x=0):Yn x 1 20=true/\g≠0/\Q6 W.groups g=true/\QF W=true/\SF Qp (Qp+Qk) W/\SF Qp (Qp+Qk) (setGr W g (Pt W g x))/\L9 (setGr W g (Pt W g x))/\QP W.groups (setGr W g (Pt W g x)).groups:=by
 obtain ⟨h1,h2,h3,h4⟩:=zbt hb;have wp:=Qi.1 hW;have sw:=Oo wp (Qi.1 h4);obtain ⟨u0,u1,hg⟩:=wp.a.u h3;have hx:=Qm.1 h1;have hl:=wp.a.gl;have s1:=sw.setGr (x:=Pt W g x) h3 rfl rfl rfl rfl ⟨hx.1,hx.2,hg.m,hg.m0,hg.s,hg.len,fun h=>absurd h h2,hg.none,hg.band⟩;have hT:QP W.groups (setGr W g (Pt W g x)).groups:=XW u0 (by omega) rfl rfl rfl;refine ⟨h1,h2,h3,h4,sw.sf.mono (Int.le_refl _) (by simp only [Qk]; decide),s1.sf.mono (Int.le_refl _) (by simp only [Qk]; decide),fun d d0 d1 hc => ?_,hT⟩;rw [hT.usd];exact zg7 wp d d0 d1 hc
theorem zna {gs:List Zv} (ht:ZP gs) {g h:Int} (u1:Q6 gs g=true) (u2:Q6 gs h=true):Tu gs g h=Vi 3 gs g h:=by
 unfold Tu;rw [u1,u2,show OE gs=true from @decide_eq_true _ (Classical.propDecidable _) ht];rfl
section
variable {base:Nat} {W W':Q8} {m:MW} {w:World} {bar:Int}
set_option maxHeartbeats 1000000 in
theorem Pf {F K:Int} (h:Yf 8 base w W m) (hsw:SF F K W) (hk:F+Qk<=K) (hK:K<=1000000000000000000) (hcu:L9 W) {g c x:Int} (hu:Q6 W.groups g=true) (hz:g≠0) (c0:0<=c) (c1:c<(W.cpus.length:Int)) :
  Cz J5 #[.agg (Qa W m).toArray,.int .i64 g,.int .i64 c,.int .i64 x] w fun e w'=>e = .returned (.agg (Qa W m).toArray)/\Mv 8 base [] w m w' (PS W g c x) m:=by
 refine (HW W.now m.cO W.cpus.length m.cC m.tO W.tasks.length m.tC m.gO W.groups.length m.gC g c x (R:=fun v w'=>v = .agg (Qa W m).toArray/\Mv 8 base [] w m w' (PS W g c x) m) ?_).mono fun e w' ⟨v,he,hv,h3⟩=>⟨by rw [he,hv],h3⟩
 intro y hy y1 hy1;obtain ⟨u0,u1,_⟩:=Q5.1 hu;have hgl:=hsw.w.a.gl;have htl:=hsw.w.a.t;have hsl:=hsw.w.a.sl hu;have hp:=hsw.w.a.up hu hz;obtain ⟨p0,p1,_⟩:=Q5.1 hp;have hpl:=hsw.w.a.sl hp;have s1:=hsw.w.s g c hu c0 c1;have s2:=hsw.w.s _ c hp c0 c1;have lc:=ZO ((Qb W g c).v - (Qb W (gi W.groups g).parent c).floor) x;have lm:=ZJ x;have hM:=Mv.two h hy hy1;have hr:=(Mv.start h).rd;have hix:=hr.g.ix (i:=g) u0 u1;have hixS:=(hr.g.shelves g u0 u1).ix ZF c0 (by omega);have hcx:=hr.c.ix ZS c0 c1;have hwr:=zp5 h (by simp) (i:=g) (bs:=[]) u0 (by omega) c0 (by omega) (j:=0) (k:=5) (by decide);have hcr:=hsw.w.cu c c0 c1;have cur1:decide ((gi W.cpus c).cur>=0)=true->(gi W.cpus c).cur<(W.tasks.length:Int):=fun _=>by omega
 have hT:QP W.groups (Jd W g c x).groups:=Xd u0 u1
 have hE:(decide ((gi W.cpus c).cur>=0)&&Tu (Jd W g c x).groups g (gi W.tasks (gi W.cpus c).cur).group)=zcx (Jd W g c x) g c:=by
  unfold zcx;show _=(decide ((gi W.cpus c).cur>=0)&&Vi 3 (Jd W g c x).groups g (Q7 W (gi W.cpus c).cur).group)
  by_cases hc:(gi W.cpus c).cur>=0
  ·rw [zna (hT.tree hsw.w.a.tree) (by rw [hT.usd]; exact hu) (by rw [hT.usd]; exact hcu c c0 c1 hc)]; rfl
  ·rw [decide_eq_false hc]; rfl
 have hlen:(Jd W g c x).groups.length=W.groups.length:=hT.len;have hfr:Fr W (Jd W g c x):=(Pl u0 u1).fr;have eW:Qa (Jd W g c x) m=Qa W m:=TA hfr;have eE:Qa (endW (Jd W g c x) c) m=Qa W m:=TA (hfr.trans (BW _ _));refine ⟨hix,_,_,_,hr.g.shelf u0 u1,hixS,_,_,_,_,_,(hr.g.shelves g u0 u1) c c0 (by omega),fun b2 hb2=>⟨fun g1 wr hx=>⟨rfl,?_⟩,fun g1=>⟨fun g2 => ?_,fun g2 => ?_⟩⟩⟩
 ·have g1:(Qb W g c).w=x:=eq_of_beq g1;unfold PS;rw [if_pos g1];exact (Mv.start h).call0 hx
 ·have hss:A8 W g c x=⟨(Qb W g c).floor,(Qb W g c).on,(Qb W (gi W.groups g).parent c).floor+YV ((Qb W g c).v - (Qb W (gi W.groups g).parent c).floor) x,x,(Qb W g c).sum⟩:=by
   unfold A8;rw [if_pos (show (Qb W g c).on=true from g2)]
  have hset:=Nj hsw h hk hu rfl c0 c1 (A8 W g c x);rw [hss] at hset;have hM2:=((hM.add hb2).deed hset (FK (by omega)));have hV:setSh W g c ⟨(Qb W g c).floor,(Qb W g c).on,(Qb W (gi W.groups g).parent c).floor+YV ((Qb W g c).v - (Qb W (gi W.groups g).parent c).floor) x,x,(Qb W g c).sum⟩=Jd W g c x:=by unfold Jd; rw [hss]
  rw [hV] at hM2;have hr2:=hM2.rd;have hM2':=hM2.close;have hr0:=hM2'.rd;refine ⟨hix,_,hr.g.parent u0 u1,hr.g.ix p0 p1,_,_,_,hr.g.shelf p0 p1,(hr.g.shelves _ p0 p1).ix ZF c0 (by omega),_,ze3.f (hr.g.shelves _ p0 p1) c0 (by omega) (j:=0) rfl,⟨by show _<=(Qb W g c).v - (Qb W (gi W.groups g).parent c).floor; omega,by show (Qb W g c).v - (Qb W (gi W.groups g).parent c).floor<=_; omega⟩,_,OS,⟨by show _<=(Qb W (gi W.groups g).parent c).floor+YV ((Qb W g c).v - (Qb W (gi W.groups g).parent c).floor) x; omega,by show (Qb W (gi W.groups g).parent c).floor+YV ((Qb W g c).v - (Qb W (gi W.groups g).parent c).floor) x<=_; omega⟩,hix,_,_,_,hr.g.shelf u0 u1,hixS,hwr,hcx,(gi W.cpus c).cur,?_⟩;refine ⟨zrx.f hr0.c c0 c1 (j:=1) rfl,fun gc=>hr0.t.ix Qz (of_decide_eq_true gc) (cur1 gc),_,fun gc=>zng.f hr0.t (of_decide_eq_true gc) (cur1 gc) (j:=1) rfl,_,fun gc=>by rw [<-hlen]; exact VJ hr0.g (by have:=Zg; omega),fun gc wr1 hx3 hs3 => ?_,fun gc wr3 hx3 => ?_⟩
  ·have he:zcx (Jd W g c x) g c=true:=by rw [<-hE]; exact gc
   have hM3:=hM2.step (hx3.of_nil);have hcall:=Zj hM3.own c0 c1;rw [eW,eE] at hcall;refine Calls.mono hcall ?_;rintro e wv ⟨he1,hy2⟩;refine ⟨_,_,_,_,_,_,_,_,_,_,he1,hM3.kept hy2 hs3,fun wr2 hx4=>⟨rfl,?_⟩⟩;unfold PS;rw [if_neg (show ¬(Qb W g c).w=x from ne_of_beq_false g1),if_pos he];exact ((hM3.call hy2 hs3).step hx4).close
  ·have he:zcx (Jd W g c x) g c=false:=by rw [<-hE]; exact gc
   refine ⟨rfl,?_⟩;unfold PS;rw [if_neg (show ¬(Qb W g c).w=x from ne_of_beq_false g1),if_neg (by rw [he]; decide)];exact (hM2.step hx3.of_nil).close
 ·have hss:A8 W g c x=⟨(Qb W g c).floor,(Qb W g c).on,(Qb W g c).v,x,(Qb W g c).sum⟩:=by
   unfold A8;rw [if_neg (by rw [show (Qb W g c).on=false from g2]; decide)]
  have hset:=Nj hsw h hk hu rfl c0 c1 (A8 W g c x);rw [hss] at hset;have hM2:=((hM.add hb2).deed hset (FK (by omega)));have hV:setSh W g c ⟨(Qb W g c).floor,(Qb W g c).on,(Qb W g c).v,x,(Qb W g c).sum⟩=Jd W g c x:=by unfold Jd; rw [hss]
  rw [hV] at hM2;have hr2:=hM2.rd;have hM2':=hM2.close;have hr0:=hM2'.rd;refine ⟨hix,_,_,_,hr.g.shelf u0 u1,hixS,hwr,hcx,(gi W.cpus c).cur,?_⟩;refine ⟨zrx.f hr0.c c0 c1 (j:=1) rfl,fun gc=>hr0.t.ix Qz (of_decide_eq_true gc) (cur1 gc),_,fun gc=>zng.f hr0.t (of_decide_eq_true gc) (cur1 gc) (j:=1) rfl,_,fun gc=>by rw [<-hlen]; exact VJ hr0.g (by have:=Zg; omega),fun gc wr1 hx3 hs3 => ?_,fun gc wr3 hx3 => ?_⟩
  ·have he:zcx (Jd W g c x) g c=true:=by rw [<-hE]; exact gc
   have hM3:=hM2.step (hx3.of_nil);have hcall:=Zj hM3.own c0 c1;rw [eW,eE] at hcall;refine Calls.mono hcall ?_;rintro e wv ⟨he1,hy2⟩;refine ⟨_,_,_,_,_,_,_,_,_,_,he1,hM3.kept hy2 hs3,fun wr2 hx4=>⟨rfl,?_⟩⟩;unfold PS;rw [if_neg (show ¬(Qb W g c).w=x from ne_of_beq_false g1),if_pos he];exact ((hM3.call hy2 hs3).step hx4).close
  ·have he:zcx (Jd W g c x) g c=false:=by rw [<-hE]; exact gc
   refine ⟨rfl,?_⟩;unfold PS;rw [if_neg (show ¬(Qb W g c).w=x from ne_of_beq_false g1),if_neg (by rw [he]; decide)];exact (hM2.step hx3.of_nil).close
theorem GR {g x:Int} (h:Xf [] w W m) (hl:Xe W) :
  Cz Uk #[.agg (Qa W m).toArray,.int .i64 g,.int .i64 x] w fun e w'=>∃v,e = .returned v/\QD (Xh W (zgt W g x) (zpp W g x)) w v w':=by
 refine Gz W.now m.cO W.cpus.length m.cC m.tO W.tasks.length m.tC m.gO W.groups.length m.gC g x (R:=fun v w'=>QD (Xh W (zgt W g x) (zpp W g x)) w v w') ?_;intro y hy y1 hy1;refine ⟨_,XR,fun wr hx2 hs2 => ?_⟩;refine Calls.mono (U5 (g:=g) (ok:=Yn x 1 20) (h.ext hx2) hl) ?_;rintro e wv (⟨hW,he,hy2⟩ | ⟨hW,m',he,hM,hy2⟩)
 ·exact ⟨_,_,_,_,_,_,_,_,_,_,_,he,Qe hy2 hs2,fun _ wr1 hx3=>QD.bad hW ((hx2.trans hy2).fresh hx3 fun z hm=>.inl (Yl hy hy1 z hm)),fun g=>by simp at g⟩
 have hK:=Wk.begin hy hy1 hx2 hs2 hM hy2;refine ⟨_,_,_,_,_,_,_,_,_,_,_,he,Qe hy2 hs2,fun g1 wr1 hx3=>QD.no hW (by simpa [zgt] using g1) (hK.step hx3) rfl,fun g1 => ?_⟩;have hb:zgt W g x=0:=by simpa [zgt] using g1
 have hr:=hK.rd;obtain ⟨hix1,hz,hu,hroom,_,sf,hcu,hT⟩:=znd hW hb;have hxr:=Qm.1 hix1;obtain ⟨u0,u1,_⟩:=Q5.1 hu;have hgl:W.groups.length=8:=by have:=sf.w.a.gl; rwa [hT.len] at this
 have hix:=hr.g.ix (i:=g) u0 u1;have hset:Wk 8 [y,y1] w (sto wv m'.gO (Int.toNat g*14+3) [.int .i64 x]) (setGr W g (Pt W g x)) m':=hK.sto (hK.own.stoG0 u0 (by omega) (g:=Pt W g x) rfl rfl rfl (j:=3) (vs:=[.int .i64 x]) rfl (by simp)) DR;have hwr:=CH hK.own hK.nb (i:=g) u0 (by omega) (j:=3) (k:=1) (by decide);have e0:Qa (setGr W g (Pt W g x)) m'=Qa W m':=by simp [Qa,setGr]
 have huV:Q6 (setGr W g (Pt W g x)).groups g=true:=by rw [hT.usd]; exact hu
 have hcl:(setGr W g (Pt W g x)).cpus.length=W.cpus.length:=rfl;have hE:zpp W g x=Qg (Ka (setGr W g (Pt W g x)) g x W.cpus.length):=rfl;rw [hE];have hc4:=sf.w.a.c2;generalize setGr W g (Pt W g x)=V at hset sf hcu hT e0 huV hcl hc4;refine ⟨hix,hwr,fun vs w1=>∃(k:Nat),vs = .int .i64 (k:Int)::Qa W m'/\k<=W.cpus.length/\Wk 8 [y,y1] w w1 (Ka V g x k) m',Zw W.cpus.length 0,fun w1 hx0 _=>⟨0,rfl,Nat.zero_le _,hset.step hx0⟩,?_⟩;rintro c1 l l1O l1L l1C l2O l2L l2C l3O l3L l3C wv2 hs3 ⟨k,he2,hk,hK2⟩;obtain ⟨hS,hf,hc2⟩:=zcy sf (Int.le_refl _) hcu huV hz hxr.1 hxr.2 k (by omega);have hdef:Ka V g x (k+1)=PS (Ka V g x k) g (k:Int) x:=rfl;have hend:k=W.cpus.length->Ka V g x W.cpus.length=Ka V g x k:=fun e=>by rw [e]
 have eU:Qa (Ka V g x k) m'=Qa W m':=(TA hf).trans e0;have hcU:=hf.c;have huU:Q6 (Ka V g x k).groups g=true:=by rw [hf.g.usd]; exact huV
 simp only [Qa,List.cons.injEq,Value.int.injEq,Value.slice.injEq,true_and,and_true] at he2;obtain ⟨rfl,rfl,⟨rfl,rfl,rfl⟩,⟨rfl,rfl,rfl⟩,rfl,rfl,rfl⟩:=he2;generalize Ka V g x k=U at hK2 hS hf hc2 hdef hend eU hcU huU;refine ⟨fun hlt wr3 hx3 hs4 => ?_,fun hge wr5 hx5 hs5 => ?_⟩
 ·have hlt:=of_decide_eq_true hlt;have hK3:=hK2.step hx3;have hcall:=Pf hK3.own hS (Int.le_refl _) (by simp only [Qk]; decide) hc2 (g:=g) (c:=(k:Int)) (x:=x) huU hz (by omega) (by omega);rw [eU] at hcall;refine Calls.mono hcall ?_;rintro e wv3 ⟨he3,hy3⟩;refine ⟨_,_,_,_,_,_,_,_,_,_,he3,hK3.kept hy3 hs4,⟨by omega,by omega⟩,fun wr4 hx4 _=>⟨⟨k+1,rfl,by omega,?_⟩,?_⟩⟩
  ·rw [hdef];exact (hK3.deed hy3 hs4).step hx4
  ·simp only [Zw,XM,ZW,List.getElem?_cons_zero]; omega
 ·have hge:=of_decide_eq_false hge;rw [hend (by omega)];have hK5:=hK2.step hx5;have hcall:=Qq hK5.own hS.w (by simp only [Qk]; decide) (by simp only [Qk]; decide) hK5.base;rw [eU] at hcall;refine Calls.mono hcall ?_;rintro e2 wv2 ⟨m2,he2,hy2⟩;exact ⟨_,_,_,_,_,_,_,_,_,_,he2,hK5.kept hy2 hs5,fun wr4 hx5=>QD.ok hW hb ((hK5.deed hy2 hs5).step hx5)⟩
section
variable {pb:Nat}
end
end
end Go.Proofs.YtclpmgfpjeaibaaGreat
