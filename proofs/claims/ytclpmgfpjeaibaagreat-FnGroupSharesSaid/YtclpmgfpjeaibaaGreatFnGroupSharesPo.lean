/- Part 15 of what the law FnGroupShares needs: the engine, the functions' propositions, the contracts. -/
import Derived.Test.YtclpmgfpjeaibaaGreatFnGroupSharesPn
import Derived.Shelf.Abstract
namespace Go.Proofs.YtclpmgfpjeaibaaGreat
open Go.RowKit
set_option linter.unusedVariables false
set_option linter.unusedSimpArgs false
set_option maxRecDepth 10000
def zta (W:Q8) (a b:Int):Bool:=decide (PC W a>PC W b)
def P8 (W:Q8) (c m:Int):Nat->Int
 | 0 => -1
 | k+1=>if ((Z4 m (k:Int)&&zj8 W (k:Int) c)&&(decide (P8 W c m k<0)||zta W (k:Int) (P8 W c m k)))=true then (k:Int) else P8 W c m k
theorem zme {W:Q8} {c m:Int} {k:Nat} (h:((Z4 m (k:Int)&&zj8 W (k:Int) c)&&(decide (P8 W c m k<0)||zta W (k:Int) (P8 W c m k)))=true):P8 W c m (k+1)=(k:Int):=if_pos h
theorem zio {W:Q8} {c m:Int} {k:Nat} (h:¬((Z4 m (k:Int)&&zj8 W (k:Int) c)&&(decide (P8 W c m k<0)||zta W (k:Int) (P8 W c m k)))=true):P8 W c m (k+1)=P8 W c m k:=if_neg h
theorem zpe {p:Nat->Bool} {n:Nat} (h:p n=false):VA p (n+1)=VA p n:=by simp [VA,h]
theorem Nc (W:Q8) (c m:Int):∀k:Nat,-1<=P8 W c m k/\P8 W c m k<k
 | 0=>by simp [P8]
 | k+1=>by
  have:=Nc W c m k;simp only [P8]
  split <;> omega
noncomputable def Tj (W:Q8) (c lv:Int):Int:=P8 W c (zt4 (W.cpus.length:Int) c lv) W.cpus.length
theorem zr3 {W:Q8} (wp:Xq W) {b c:Int} (h:zj8 W b c=true):0<=b/\b<(W.cpus.length:Int)/\b≠c:=by
 obtain ⟨t,ht,hp⟩:=LR.1 h;simp only [Bool.and_eq_true,beq_iff_eq] at hp;obtain ⟨h1,h2⟩:=EL hp.2;have:=wp.li (t:=(t:Int)) (by omega) (by have:=wp.a.t; omega) h1;rw [hp.1] at this h2;exact ⟨this.2.1,this.2.2,h2⟩
section
variable {W:Q8} {m:MW} {w:World} {bs:List Nat} {p:OA}
theorem Hx {s c:Int} (h:Xa bs w W m) (wp:Xq W) (c0:0<=c) (c1:c<(W.cpus.length:Int)):PX bs UD #[.agg (Qa W m).toArray,.int .i64 s,.int .i64 c] w (.int .i64 (P8 W c s W.cpus.length)):=
 HO W.now m.cO W.cpus.length m.cC m.tO W.tasks.length m.tC m.gO W.groups.length m.gC s c fun wr hx=>by
  have h:=(h.ext hx).less (cs:=[]) (by simp);have h4:=wp.a.c2;have htl:=wp.a.t;intro _ _;refine VE W.cpus.length 0 rfl (fun x k=>k<=W.cpus.length/\x=P8 W c s k) ⟨Nat.zero_le _,rfl⟩ fun x k ⟨hk,hx2⟩=>⟨fun hlt => ?_,fun hge => ?_⟩
  ·subst hx2;have hlt:=of_decide_eq_true hlt;have hr:=Nc W c s k;refine ⟨_,fun _=>ZL,_,fun _ _=>Vk h wp,_,fun _ _=>Vk h wp,fun g => ?_,fun g => ?_⟩
   ·refine ⟨⟨by omega,by omega⟩,Qv (by omega) ⟨by omega,?_⟩⟩;rw [zio];intro hc;simp only [Bool.and_eq_true] at hc;have hne:=(zr3 wp hc.1.2).2.2;rw [beq_eq_false_iff_ne.2 hne,hc.1.1] at g;simp only [Bool.not_true,Bool.or_self,Bool.false_or,Bool.and_eq_true,decide_eq_true_eq] at g;unfold zta at hc;simp only [Bool.or_eq_true,decide_eq_true_eq] at hc;omega
   ·simp only [Bool.or_eq_false_iff,Bool.not_eq_false'] at g;obtain ⟨⟨g1,g2⟩,g3⟩:=g
    have hb:(decide (P8 W c s k<0)||zta W (k:Int) (P8 W c s k))=true:=by
     unfold zta;simp only [Bool.or_eq_true,decide_eq_true_eq];simp only [Bool.and_eq_false_iff,decide_eq_false_iff_not] at g3;omega
    refine VE 12 0 rfl (fun y j=>j<=12/\y=if VA (fun t=>((Q7 W (t:Int)).cpu==(k:Int))&&JT W (t:Int) c) j=true then (k:Int) else P8 W c s k) ⟨Nat.zero_le _,rfl⟩ fun y j ⟨hj,hy⟩=>⟨fun hlt2 => ?_,fun hge2 => ?_⟩
    ·have hlt2:=of_decide_eq_true hlt2;have hj12:j<12:=by omega
     refine ⟨h.t.ix QE (by omega) hlt2,_,h.t.f (by omega) hlt2 (j:=2) rfl,_,fun _=>Mn h wp (by omega) hlt2 c0 c1,fun g4 => ?_,fun g4 => ?_⟩
     ·have g4:(((Q7 W (j:Int)).cpu==(k:Int))&&JT W (j:Int) c)=true:=g4;refine ⟨⟨by omega,by omega⟩,Qv hj12 ⟨by omega,?_⟩⟩;rw [if_pos];simp only [VA,Bool.or_eq_true];exact .inr g4
     ·have g4:(((Q7 W (j:Int)).cpu==(k:Int))&&JT W (j:Int) c)=false:=g4;refine ⟨⟨by omega,by omega⟩,Qv hj12 ⟨by omega,?_⟩⟩;rw [hy,zpe (p:=fun t=>((Q7 W (t:Int)).cpu==(k:Int))&&JT W (t:Int) c) g4]
    ·have hge2:=of_decide_eq_false hge2;have:j=12:=by omega
     subst this;refine ⟨⟨by omega,by omega⟩,Qv (by omega) ⟨by omega,?_⟩⟩;rw [hy];show (if zj8 W (k:Int) c=true then (k:Int) else P8 W c s k)=_
     cases ha:zj8 W (k:Int) c with
     | true=>rw [zme (by rw [g2,ha,hb]; rfl),if_pos rfl]
     | false=>rw [zio (by rw [ha]; simp),if_neg (by decide)]
  ·have hge:=of_decide_eq_false hge;have:k=W.cpus.length:=by omega
   subst this;rw [hx2]
end
theorem zd9 (cs:List OS) {c:Int} (c0:0<=c):∀k:Nat,k<=4->c<(k:Int)->(gi cs c).up=true->Z4 (Ub cs k) c=true
 | 0,_,h,_=>by omega
 | k+1,hk,h,hu=>by
  have hl:=KR cs k (by omega)
  have hb:Jl k<=8:=by
   have:k=0\/k=1\/k=2\/k=3:=by omega
   rcases this with rfl | rfl | rfl | rfl <;> decide
  have key:=ze1 ⟨k,by omega⟩ ⟨(Ub cs k).toNat,by omega⟩ ⟨c.toNat,by omega⟩;rw [show ((⟨(Ub cs k).toNat,by omega⟩:Fin 8).val:Int)=Ub cs k by show (((Ub cs k).toNat:Nat):Int)=Ub cs k; omega,show ((⟨c.toNat,by omega⟩:Fin 4).val:Int)=c by show ((c.toNat:Nat):Int)=c; omega] at key;simp only [Ub]
  by_cases e:c=(k:Int)
  ·subst e;rw [if_pos hu,key hl.2];simp
  ·have ih:=zd9 cs c0 k (by omega) (by omega) hu;split
   ·rw [key hl.2,ih]; simp
   ·exact ih
theorem EF {cs:List OS} (h4:cs.length<=4) {c:Int} (c0:0<=c) (c1:c<(cs.length:Int)) (hu:(gi cs c).up=true):J2 cs≠0:=fun e=>by
 have h:=zd9 cs c0 cs.length h4 c1 hu;rw [show Ub cs cs.length=0 from e] at h;have hr:=OG h;have:c=0\/c=1\/c=2\/c=3:=by omega
 rcases this with rfl | rfl | rfl | rfl <;> exact absurd h (by decide)
theorem znl {m c:Int} (c0:0<=c) (c4:c<4) (h:Z4 m c=true) (hn:∀j:Int,0<=j->j<4->j≠c->Z4 m j=false):Ge m 4=1:=by
 have h0:=hn 0 (by decide) (by decide);have h1:=hn 1 (by decide) (by decide);have h2:=hn 2 (by decide) (by decide);have h3:=hn 3 (by decide) (by decide);have i0:((0:Nat):Int)=0:=rfl;have i1:((1:Nat):Int)=1:=rfl;have i2:((2:Nat):Int)=2:=rfl;have i3:((3:Nat):Int)=3:=rfl;have:c=0\/c=1\/c=2\/c=3:=by omega
 simp only [Ge,i0,i1,i2,i3];rcases this with rfl | rfl | rfl | rfl
 ·have e1:=h1 (by decide); have e2:=h2 (by decide); have e3:=h3 (by decide); simp [h,e1,e2,e3]
 ·have e1:=h0 (by decide); have e2:=h2 (by decide); have e3:=h3 (by decide); simp [h,e1,e2,e3]
 ·have e1:=h0 (by decide); have e2:=h1 (by decide); have e3:=h3 (by decide); simp [h,e1,e2,e3]
 ·have e1:=h0 (by decide); have e2:=h1 (by decide); have e3:=h2 (by decide); simp [h,e1,e2,e3]
theorem zlt {cs:List OS} (h4:cs.length<=4) {c:Int} (c0:0<=c) (c1:c<(cs.length:Int)) (hu:(gi cs c).up=true) (hn:Ge (J2 cs) 4≠1):∃j:Int,0<=j/\j<(cs.length:Int)/\j≠c/\(gi cs j).up=true:=by
 refine Classical.byContradiction fun hne=>hn (znl c0 (by omega) (zd9 cs c0 cs.length h4 c1 hu) fun j j0 j4 hj => ?_)
 cases h:Z4 (J2 cs) j with
 | false=>rfl
 | true=>
  obtain ⟨a,b⟩:=zd8 cs (c:=j) cs.length h4 h;exact absurd ⟨j,j0,a,hj,b⟩ hne
theorem SW.setCp {K:Int} {W:Q8} (h:SW K W) {c:Int} (c0:0<=c) (c1:c<(W.cpus.length:Int)) {x:OS} (hu:J2 (W.cpus.set c.toNat x)≠0) (h1 : -1<=x.cur) (h2:x.cur<12):SW K (setCp W c x):=by
 have hl:(W.cpus.set c.toNat x).length=W.cpus.length:=List.length_set;have hg:∀d:Int,0<=d->gi (W.cpus.set c.toNat x) d=if c=d then x else gi W.cpus d:=fun d d0=>Qy _ _ c0 c1 d0
 refine ⟨h.a.cp hl hu,fun t a b n => ?_,h.tv,fun k d u a b => ?_,fun d a b => ?_⟩
 ·show _/\_/\_<(((W.cpus.set c.toNat x).length:Nat):Int);rw [hl];exact h.t t a b n
 ·have b:d<(((W.cpus.set c.toNat x).length:Nat):Int):=b;rw [hl] at b;exact h.s k d u a b
 ·have b:d<(((W.cpus.set c.toNat x).length:Nat):Int):=b;rw [hl] at b;show _<=(gi (W.cpus.set c.toNat x) d).cur/\(gi (W.cpus.set c.toNat x) d).cur<12;rw [hg _ a];split
  ·exact ⟨h1,h2⟩
  ·exact h.cu d a b
noncomputable def UY (W:Q8) (c:Int) (up:Bool) (last:Int):Int:=if Y5 W c=false then 1 else if (gi W.cpus c).up≠up then 6 else if last≠0 then last else if QG W=false then 10 else 0
theorem zcn {W:Q8} {c:Int} {up:Bool} {last:Int} (h:UY W c up last=0):Y5 W c=true/\(gi W.cpus c).up=up/\last=0/\QG W=true:=by
 unfold UY at h
 split at h
 ·cases h
 ·rename_i h1
  split at h
  ·cases h
  ·rename_i h2
   split at h
   ·rename_i h3; exact absurd h h3
   ·rename_i h3
    split at h
    ·cases h
    ·rename_i h4;exact ⟨by simpa using h1,by simpa using h2,by omega,by simpa using h4⟩
theorem KA {W:Q8} {c:Int} {up:Bool} {last:Int} (h1:Y5 W c=true) (h2:(gi W.cpus c).up=up) (h3:last=0):UY W c up last=if QG W=false then 10 else 0:=by
 unfold UY;rw [if_neg (by rw [h1]; decide),if_neg (by simpa using h2),if_neg (by simpa using h3)]
def Mt (x:OS) (b:Bool):OS:={ x with up:=b }
def zud (W:Q8) (c:Int):Q8:=Qg (Le (setCp W c (Mt (gi W.cpus c) true)))
def L8 (W:Q8):Int:=if Ge (J2 W.cpus) 4=1 then 5 else 0
def zqv (W:Q8) (c:Int):Q8:=Qg (Le (endW (setCp W c (Mt (gi W.cpus c) false)) c))
theorem zrt {W:Q8} {c:Int} (hW:Qz W=true) (hb:UY W c false 0=0):0<=c/\c<(W.cpus.length:Int)/\SF Qo (Qo+Qk) W/\SF Qo (Qo+Qk) (setCp W c (Mt (gi W.cpus c) true)):=by
 obtain ⟨h1,h2,_,h4⟩:=zcn hb;have wp:=Qi.1 hW;have sw:=ON wp (Qi.1 h4);obtain ⟨c0,c1⟩:=Uc h1;have hcu:=sw.cu c c0 c1;have hl:(W.cpus.set c.toNat (Mt (gi W.cpus c) true)).length=W.cpus.length:=List.length_set;have hc2:=wp.a.c2;exact ⟨c0,c1,PL sw,PL (sw.setCp c0 c1 (x:=Mt (gi W.cpus c) true) (EF (by omega) c0 (by omega) (by rw [Qy _ _ c0 c1 c0,if_pos rfl]; rfl)) hcu.1 hcu.2)⟩
theorem zny {W:Q8} {c:Int} (hW:Qz W=true) (hb:UY W c true (L8 W)=0):0<=c/\c<(W.cpus.length:Int)/\SF Qo (Qo+Qk) W/\SF Qo (Qo+Qk) (setCp W c (Mt (gi W.cpus c) false)):=by
 obtain ⟨h1,h2,h3,h4⟩:=zcn hb;have wp:=Qi.1 hW;have sw:=ON wp (Qi.1 h4);obtain ⟨c0,c1⟩:=Uc h1;have hcu:=sw.cu c c0 c1;have hl:(W.cpus.set c.toNat (Mt (gi W.cpus c) false)).length=W.cpus.length:=List.length_set;have hc2:=wp.a.c2;have hn:Ge (J2 W.cpus) 4≠1:=fun e=>by unfold L8 at h3; rw [if_pos e] at h3; cases h3
 obtain ⟨j,j0,j1,jc,hj⟩:=zlt hc2 c0 c1 h2 hn;exact ⟨c0,c1,PL sw,PL (sw.setCp c0 c1 (x:=Mt (gi W.cpus c) false) (EF (by omega) j0 (by omega) (by rw [Qy _ _ c0 c1 j0,if_neg fun e=>jc e.symm]; exact hj)) hcu.1 hcu.2)⟩
theorem Bv (W:Q8) (c:Int) (x:OS) (m:MW):Qa (setCp W c x) m=Qa W m:=by simp [Qa,setCp]
section
variable {W W':Q8} {m:MW} {w:World}
theorem zda {c:Int} (h:Xa [] w W m) (hl:X7 W) :
  Cz Pa #[.agg (Qa W m).toArray,.int .i64 c] w fun e w'=>∃v,e = .returned v/\QD (Xn W (UY W c false 0) (zud W c)) w v w':=by
 refine zcu W.now m.cO W.cpus.length m.cC m.tO W.tasks.length m.tC m.gO W.groups.length m.gC c (R:=fun v w'=>QD (Xn W (UY W c false 0) (zud W c)) w v w') ?_;intro y hy y1 hy1 wr hx2 hs2;have hm9:=Zj;have hlc:=hl.c;refine Calls.mono (Z2 (h.ext hx2) hl) ?_;rintro e wv (⟨hW,he,hy2⟩ | ⟨hW,m',he,hM,hy2⟩)
 ·exact ⟨_,_,_,_,_,_,_,_,_,_,_,he,Qf hy2 hs2,fun g=>by simp at g,true,fun g=>by simp at g,fun _ wr1 hx3=>QD.bad hW ((hx2.trans hy2).fresh hx3 fun z hm=>.inl (Yp hy hy1 z hm)),fun g=>by simp at g⟩
 have hK:=Wk.begin hy hy1 hx2 hs2 hM hy2;have hr:=hK.rd;have wp:=Qi.1 hW;have hm0:=YW;refine ⟨_,_,_,_,_,_,_,_,_,_,_,he,Qf hy2 hs2,fun _=>⟨by omega,by omega⟩,Y5 W c,fun _=>Qh,fun g wr1 hx3 => ?_,fun g => ?_⟩
 ·have g:Y5 W c=false:=by
   cases hc:Y5 W c with
   | false=>rfl
   | true=>rw [hc] at g; split at g <;> simp at g
  have hb:UY W c false 0=1:=by unfold UY; rw [if_pos g]
  exact QD.no hW (by rw [hb]; decide) (hK.step hx3) hb
 have g:Y5 W c=true:=by
  cases hc:Y5 W c with
  | true=>rfl
  | false=>rw [hc] at g; simp at g
 obtain ⟨c0,c1⟩:=Uc g;refine ⟨hr.c.ix ZX c0 c1,_,hr.c.f c0 c1 (j:=0) rfl,fun g2 wr2 hx3 => ?_,fun g2=>⟨fun g3 wr3 hx3 => ?_,fun g3 => ?_⟩⟩
 ·have hb:UY W c false 0=6:=by unfold UY; rw [if_neg (by rw [g]; decide),if_pos (by rw [g2]; decide)]
  exact QD.no hW (by rw [hb]; decide) (hK.step hx3) hb
 ·have hr0:¬QG W=true:=fun hr=>by rw [if_pos hr] at g3; simp at g3
  have hb:UY W c false 0=10:=by rw [KA g g2 rfl,if_pos (by simpa using hr0)]
  rw [if_neg hr0];exact QD.no hW (by rw [hb]; decide) (hK.step hx3) hb
 have hr0:QG W=true:=Decidable.byContradiction fun hr=>by rw [if_neg hr] at g3; simp at g3
 have hb:UY W c false 0=0:=by rw [KA g g2 rfl,if_neg (by rw [hr0]; decide)]
 obtain ⟨_,_,_,sf⟩:=zrt hW hb;have hset:Wk 8 [y,y1] w (sto wv m'.cO (Int.toNat c*5+0) [.bool true]) (setCp W c (Mt (gi W.cpus c) true)) m':=hK.sto (hK.own.stoC c0 c1 (j:=0) (vs:=[.bool true]) (x:=Mt (gi W.cpus c) true) rfl (by simp)) zal;refine ⟨hr.c.ix ZX c0 c1,zly hK.own hK.nb c0 c1 (by decide),fun wr4 hx4 hs4 => ?_⟩;have e5:Qa (setCp W c (Mt (gi W.cpus c) true)) m'=Qa W m':=Bv _ _ _ _;have hE:zud W c=Qg (Le (setCp W c (Mt (gi W.cpus c) true))):=rfl;rw [hE];generalize setCp W c (Mt (gi W.cpus c) true)=V at hset sf e5;have hK4:=hset.step hx4;have hcall:=XR hK4.own sf (Int.le_refl _) (by simp only [Qk]; decide);rw [e5] at hcall;refine Calls.mono hcall ?_;rintro e1 wv1 ⟨he1,hy3⟩;refine ⟨_,_,_,_,_,_,_,_,_,_,he1,hK4.kept hy3 hs4,fun wr5 hx5 hs5 => ?_⟩;have hK5:=(hK4.deed hy3 hs4).step hx5;have hcall2:=Qp hK5.own (KN sf (Int.le_refl _)).1.w (by simp only [Qk]; decide) (by simp only [Qk]; decide) hK5.base;rw [Hk sf (Int.le_refl _),e5] at hcall2;refine Calls.mono hcall2 ?_;rintro e2 wv2 ⟨m2,he2,hy4⟩;exact ⟨_,_,_,_,_,_,_,_,_,_,he2,hK5.kept hy4 hs5,fun wr6 hx6=>QD.ok hW hb ((hK5.deed hy4 hs5).step hx6)⟩
theorem CU {c:Int} (h:Xa [] w W m) (hl:X7 W) :
  Cz Oj #[.agg (Qa W m).toArray,.int .i64 c] w fun e w'=>∃v,e = .returned v/\QD (Xn W (UY W c true (L8 W)) (zqv W c)) w v w':=by
 refine CF W.now m.cO W.cpus.length m.cC m.tO W.tasks.length m.tC m.gO W.groups.length m.gC c (R:=fun v w'=>QD (Xn W (UY W c true (L8 W)) (zqv W c)) w v w') ?_;intro y hy y1 hy1 wr hx2 hs2;have hm0:=YW;have hlc:=hl.c;refine Calls.mono (Z2 (h.ext hx2) hl) ?_;rintro e wv (⟨hW,he,hy2⟩ | ⟨hW,m',he,hM,hy2⟩)
 ·exact ⟨_,_,_,_,_,_,_,_,_,_,_,he,Qf hy2 hs2,fun g=>by simp at g,true,fun g=>by simp at g,fun _ wr1 hx3=>QD.bad hW ((hx2.trans hy2).fresh hx3 fun z hm=>.inl (Yp hy hy1 z hm)),fun g=>by simp at g⟩
 have hK:=Wk.begin hy hy1 hx2 hs2 hM hy2;have hr:=hK.rd;have wp:=Qi.1 hW;refine ⟨_,_,_,_,_,_,_,_,_,_,_,he,Qf hy2 hs2,fun _=>⟨by omega,by omega⟩,Y5 W c,fun _=>Qh,fun g wr1 hx3 => ?_,fun g => ?_⟩
 ·have g:Y5 W c=false:=by
   cases hc:Y5 W c with
   | false=>rfl
   | true=>rw [hc] at g; split at g <;> simp at g
  have hb:UY W c true (L8 W)=1:=by unfold UY; rw [if_pos g]
  exact QD.no hW (by rw [hb]; decide) (hK.step hx3) hb
 have g:Y5 W c=true:=by
  cases hc:Y5 W c with
  | true=>rfl
  | false=>rw [hc] at g; simp at g
 obtain ⟨c0,c1⟩:=Uc g;refine ⟨hr.c.ix ZX c0 c1,_,hr.c.f c0 c1 (j:=0) rfl,fun g2 wr2 hx3 => ?_,fun g2=>⟨_,M4 hr wp.a.c2,_,DT,fun g3 wr3 hx3 => ?_,fun g3=>⟨fun g4 wr4 hx3 => ?_,fun g4 => ?_⟩⟩⟩
 ·have g2:(gi W.cpus c).up=false:=by simpa using g2
  have hb:UY W c true (L8 W)=6:=by unfold UY; rw [if_neg (by rw [g]; decide),if_pos (by rw [g2]; decide)]
  exact QD.no hW (by rw [hb]; decide) (hK.step hx3) hb
 ·have g2:(gi W.cpus c).up=true:=by simpa using g2
  have hL:L8 W=5:=by unfold L8; rw [if_pos (by simpa using g3)]
  have hb:UY W c true (L8 W)=5:=by unfold UY; rw [if_neg (by rw [g]; decide),if_neg (by rw [g2]; decide),hL,if_pos (by decide)]
  exact QD.no hW (by rw [hb]; decide) (hK.step hx3) hb
 ·have g2:(gi W.cpus c).up=true:=by simpa using g2
  have hL:L8 W=0:=by unfold L8; rw [if_neg (by simpa using g3)]
  have hr0:¬QG W=true:=fun hr=>by rw [if_pos hr] at g4; simp at g4
  have hb:UY W c true (L8 W)=10:=by rw [KA g g2 hL,if_pos (by simpa using hr0)]
  rw [if_neg hr0];exact QD.no hW (by rw [hb]; decide) (hK.step hx3) hb
 have g2:(gi W.cpus c).up=true:=by simpa using g2
 have hL:L8 W=0:=by unfold L8; rw [if_neg (by simpa using g3)]
 have hr0:QG W=true:=Decidable.byContradiction fun hr=>by rw [if_neg hr] at g4; simp at g4
 have hb:UY W c true (L8 W)=0:=by rw [KA g g2 hL,if_neg (by rw [hr0]; decide)]
 obtain ⟨_,_,_,sf⟩:=zny hW hb;have hset:Wk 8 [y,y1] w (sto wv m'.cO (Int.toNat c*5+0) [.bool false]) (setCp W c (Mt (gi W.cpus c) false)) m':=hK.sto (hK.own.stoC c0 c1 (j:=0) (vs:=[.bool false]) (x:=Mt (gi W.cpus c) false) rfl (by simp)) zal;refine ⟨hr.c.ix ZX c0 c1,zly hK.own hK.nb c0 c1 (by decide),fun wr5 hx5 hs5 => ?_⟩;have e5:Qa (setCp W c (Mt (gi W.cpus c) false)) m'=Qa W m':=Bv _ _ _ _;have hlV:(setCp W c (Mt (gi W.cpus c) false)).cpus.length=W.cpus.length:=by simp [setCp]
 have hE:zqv W c=Qg (Le (endW (setCp W c (Mt (gi W.cpus c) false)) c)):=rfl;rw [hE];generalize setCp W c (Mt (gi W.cpus c) false)=V at hset sf e5 hlV;have c1V:c<(V.cpus.length:Int):=by rw [hlV]; exact c1
 have hK4:=hset.step hx5;have hcall0:=Zm hK4.own c0 c1V;rw [e5] at hcall0;refine Calls.mono hcall0 ?_;rintro e0 wv0 ⟨he0,hy0⟩;refine ⟨_,_,_,_,_,_,_,_,_,_,he0,hK4.kept hy0 hs5,fun wr6 hx6 hs6 => ?_⟩;have sfE:=sf.endW c0 c1V;have hK6:=(hK4.deed hy0 hs5).step hx6;generalize endW V c=U at hK6 sfE;have hcall:=XR hK6.own sfE (Int.le_refl _) (by simp only [Qk]; decide);refine Calls.mono hcall ?_;rintro e1 wv1 ⟨he1,hy3⟩;refine ⟨_,_,_,_,_,_,_,_,_,_,he1,hK6.kept hy3 hs6,fun wr7 hx7 hs7 => ?_⟩;have hK7:=(hK6.deed hy3 hs6).step hx7;have hcall2:=Qp hK7.own (KN sfE (Int.le_refl _)).1.w (by simp only [Qk]; decide) (by simp only [Qk]; decide) hK7.base;rw [Hk sfE (Int.le_refl _)] at hcall2;refine Calls.mono hcall2 ?_;rintro e2 wv2 ⟨m2,he2,hy4⟩;exact ⟨_,_,_,_,_,_,_,_,_,_,he2,hK7.kept hy4 hs7,fun wr8 hx8=>QD.ok hW hb ((hK7.deed hy4 hs7).step hx8)⟩
end
noncomputable def PN (W:Q8) (t:Int):Int:=if ZR W t=false then 2 else if (Q7 W t).state≠2 then 6 else if QG W=false then 10 else 0
def OP (W:Q8) (t:Int):Int:=if zfs W (Q7 W t).cpu>0 then OR W (Qq W (Q7 W t).group (Q7 W t).mask) else (Q7 W t).cpu
def Vt (W:Q8) (t c:Int):Pl:={ Pj W t (Q7 W t).group c with state:=1 }
def AT (W:Q8) (t:Int):Q8:=Qg (endW (setTk W t (Vt W t (OP W t))) (OP W t))
theorem UP (W:Q8) (t:Int) (x:Pl):(setTk W t x).tasks.length=W.tasks.length:=by simp [setTk]
theorem zjm {W:Q8} {t:Int} (h:(Q7 W t).state=2) (c:Int):UH W t (Q7 W t).group c=setTk W t (Pj W t (Q7 W t).group c):=by
 unfold UH;rw [if_neg (by rw [h]; decide)]
theorem zeb {W:Q8} {t c:Int} (sf:SF Qo (Qo+Qk) W) (t0:0<=t) (t1:t<(W.tasks.length:Int)) (n:(Q7 W t).state≠0) (c0:0<=c) (c1:c<(W.cpus.length:Int)):SF Qo (Qo+Qk) (setTk W t (Vt W t c)):=by
 have hl:=sf.w.a.t;have hu:=(sf.w.t t t0 (by omega) n).1;have hv:=zjl sf (Int.le_refl _) (t:=t) hu c0 c1;exact sf.setTk t0 (by omega) (x:=Vt W t c) (fun _=>⟨hu,c0,c1⟩) hv.1 hv.2
theorem zj3 {W:Q8} {t:Int} (hW:Qz W=true) (hb:PN W t=0):ZR W t=true/\(Q7 W t).state=2/\QG W=true/\SF Qo (Qo+Qk) W/\0<=OP W t/\OP W t<(W.cpus.length:Int):=by
 have wp:=Qi.1 hW;unfold PN at hb
 split at hb
 ·cases hb
 ·rename_i h1
  split at hb
  ·cases hb
  ·rename_i h2
   split at hb
   ·cases hb
   ·rename_i h3;have h1:ZR W t=true:=by simpa using h1
    have h2:(Q7 W t).state=2:=by simpa using h2
    have h3:QG W=true:=by simpa using h3
    have sw:=ON wp (Qi.1 h3);obtain ⟨t0,t1,n⟩:=Yy h1;have hl:=wp.a.t;have hc:=sw.t t t0 (by omega) n;refine ⟨h1,h2,h3,PL sw,?_⟩;unfold OP;split
    ·have:=KM wp.a (Q7 W t).group (Q7 W t).mask;exact ⟨this.1,this.2.1⟩
    ·exact hc.2
section
variable {base pb:Nat} {W W':Q8} {m:MW} {w:World}
set_option maxHeartbeats 1000000 in
theorem FV {t:Int} (h:Xa [] w W m) (hl:X7 W) :
  Cz VR #[.agg (Qa W m).toArray,.int .i64 t] w fun e w'=>∃v,e = .returned v/\QD (Xn W (PN W t) (AT W t)) w v w':=by
 refine FE W.now m.cO W.cpus.length m.cC m.tO W.tasks.length m.tC m.gO W.groups.length m.gC t (R:=fun v w'=>QD (Xn W (PN W t) (AT W t)) w v w') ?_;intro y hy y1 hy1 wr hx2 hs2;refine Calls.mono (Z2 (h.ext hx2) hl) ?_;rintro e wv (⟨hW,he,hy2⟩ | ⟨hW,m',he,hM,hy2⟩)
 ·exact ⟨_,_,_,_,_,_,_,_,_,_,_,he,Qf hy2 hs2,fun _ wr1 hx3=>QD.bad hW ((hx2.trans hy2).fresh hx3 fun z hm=>.inl (Yp hy hy1 z hm)),fun g=>by simp at g⟩
 have hK:=Wk.begin hy hy1 hx2 hs2 hM hy2;have hr:=hK.rd;have wp:=Qi.1 hW;refine ⟨_,_,_,_,_,_,_,_,_,_,_,he,Qf hy2 hs2,fun g=>by split at g <;> simp at g,fun _=>⟨_,J6 hr hl.t,fun g wr2 hx3 => ?_,fun g => ?_⟩⟩
 ·have g:ZR W t=false:=by simpa using g
  have hb:PN W t=2:=by unfold PN; rw [if_pos g]
  exact QD.no hW (by rw [hb]; decide) (hK.step hx3) hb
 have g:ZR W t=true:=by simpa using g
 obtain ⟨t0,t1,tn⟩:=Yy g;have htl:=wp.a.t;have hix:=hr.t.ix QE t0 t1;refine ⟨hix,_,hr.t.f t0 t1 (j:=0) rfl,fun g2 wr3 hx3 => ?_,fun g2=>⟨fun g3 wr4 hx3 => ?_,fun g3 => ?_⟩⟩
 ·have g2:(Q7 W t).state≠2:=by simpa [Q7] using g2
  have hb:PN W t=6:=by unfold PN; rw [if_neg (by rw [g]; decide),if_pos g2]
  exact QD.no hW (by rw [hb]; decide) (hK.step hx3) hb
 ·have g2:¬(Q7 W t).state≠2:=by simpa [Q7] using g2
  have hr0:¬QG W=true:=fun hr=>by rw [if_pos hr] at g3; simp at g3
  have hb:PN W t=10:=by unfold PN; rw [if_neg (by rw [g]; decide),if_neg g2,if_pos (by simpa using hr0)]
  rw [if_neg hr0];exact QD.no hW (by rw [hb]; decide) (hK.step hx3) hb
 have g2:¬(Q7 W t).state≠2:=by simpa [Q7] using g2
 have hr0:QG W=true:=Decidable.byContradiction fun hr=>by rw [if_neg hr] at g3; simp at g3
 have hb:PN W t=0:=by unfold PN; rw [if_neg (by rw [g]; decide),if_neg g2,if_neg (by rw [hr0]; decide)]
 have hs2':(Q7 W t).state=2:=by simpa using g2
 obtain ⟨_,_,_,sf,_,_⟩:=zj3 hW hb;obtain ⟨hu,c0,c1⟩:=sf.w.t t t0 (by omega) tn;refine ⟨hix,_,hr.t.f t0 t1 (j:=2) rfl,_,TL hr htl,fun g4 => ?_,fun g4 => ?_⟩
 ·have g4:zfs W (Q7 W t).cpu>0:=of_decide_eq_true g4;have hC:OP W t=OR W (Qq W (Q7 W t).group (Q7 W t).mask):=if_pos g4;obtain ⟨d0,d1,_⟩:=KM wp.a (Q7 W t).group (Q7 W t).mask;refine ⟨hix,_,hr.t.f t0 t1 (j:=1) rfl,hix,_,hr.t.f t0 t1 (j:=4) rfl,_,XA hr wp.a.c2 wp.a.tree hu,_,Mm hr wp.a (zng wp),hix,_,hr.t.f t0 t1 (j:=1) rfl,fun wr5 hx5 hs5 => ?_⟩;have hM4:=hK.step hx5;have hcall:=U6 hM4.own sf (Int.le_refl _) (by simp only [Qk]; decide) (t:=t) (g:=(Q7 W t).group) (c:=OR W (Qq W (Q7 W t).group (Q7 W t).mask)) t0 (by omega) tn hu d0 d1;refine Calls.mono hcall ?_;rintro e1 wv1 ⟨he1,hy3⟩;rw [zjm hs2' (OR W (Qq W (Q7 W t).group (Q7 W t).mask))] at hy3;have hK5:=hM4.deed hy3 hs5
  have hset:Wk 8 [y,y1] w (sto wv1 m'.tO (Int.toNat t*9+0) [.int .i64 1]) (setTk W t (Vt W t (OR W (Qq W (Q7 W t).group (Q7 W t).mask)))) m':=by
   have:Wk 8 [y,y1] w (sto wv1 m'.tO (Int.toNat t*9+0) [.int .i64 1]) (setTk (setTk W t (Pj W t (Q7 W t).group (OR W (Qq W (Q7 W t).group (Q7 W t).mask)))) t (Vt W t (OR W (Qq W (Q7 W t).group (Q7 W t).mask)))) m':=hK5.sto (hK5.own.stoT t0 (by rw [UP]; exact t1) (j:=0) (vs:=[.int .i64 1]) (x:=Vt W t (OR W (Qq W (Q7 W t).group (Q7 W t).mask))) (by rw [show gi (setTk W t (Pj W t (Q7 W t).group (OR W (Qq W (Q7 W t).group (Q7 W t).mask)))).tasks t=_ from EC t0 t1]; rfl) (by simp)) Lf
   rwa [set_set] at this
  have hixT:Ix m'.tO W.tasks.length t:=by
   have:=hK5.rd.t.ix QE t0 (by rw [UP]; exact t1)
   rwa [UP] at this
  refine ⟨_,_,_,_,_,_,_,_,_,_,he1,hM4.kept hy3 hs5,hixT,zeg hK5.own hK5.nb t0 (by rw [UP]; exact t1) (j:=0) (by decide),fun wr6 hx6 hs6 => ?_⟩;have e5:Qa (setTk W t (Vt W t (OR W (Qq W (Q7 W t).group (Q7 W t).mask)))) m'=Qa W m':=Hl _ _ _ _;have hE:AT W t=Qg (endW (setTk W t (Vt W t (OR W (Qq W (Q7 W t).group (Q7 W t).mask)))) (OR W (Qq W (Q7 W t).group (Q7 W t).mask))):=by unfold AT; rw [hC]
  have sfV:=zeb sf t0 t1 tn d0 d1;rw [hE];have hlV:(setTk W t (Vt W t (OR W (Qq W (Q7 W t).group (Q7 W t).mask)))).cpus.length=W.cpus.length:=rfl;generalize setTk W t (Vt W t (OR W (Qq W (Q7 W t).group (Q7 W t).mask)))=V at hset e5 sfV hlV;have hK6:=hset.step hx6;have hcall2:=Zm hK6.own d0 (by rw [hlV]; exact d1);rw [e5] at hcall2;refine Calls.mono hcall2 ?_;rintro e2 wv2 ⟨he2,hy4⟩;refine ⟨_,_,_,_,_,_,_,_,_,_,he2,hK6.kept hy4 hs6,fun wr7 hx7 hs7 => ?_⟩;have hK7:=(hK6.deed hy4 hs6).step hx7;have hcall3:=Qp hK7.own (sfV.endW d0 (by rw [hlV]; exact d1)).w (by simp only [Qk]; decide) (by simp only [Qk]; decide) hK7.base;refine Calls.mono hcall3 ?_;rintro e3 wv3 ⟨m2,he3,hy5⟩;exact ⟨_,_,_,_,_,_,_,_,_,_,he3,hK7.kept hy5 hs7,fun wr8 hx8=>QD.ok hW hb ((hK7.deed hy5 hs7).step hx8)⟩
 ·have g4:¬zfs W (Q7 W t).cpu>0:=of_decide_eq_false g4;have hC:OP W t=(Q7 W t).cpu:=if_neg g4;have d0:=c0;have d1:=c1;refine ⟨hix,_,hr.t.f t0 t1 (j:=1) rfl,fun wr5 hx5 hs5 => ?_⟩;have hM4:=hK.step hx5;have hcall:=U6 hM4.own sf (Int.le_refl _) (by simp only [Qk]; decide) (t:=t) (g:=(Q7 W t).group) (c:=(Q7 W t).cpu) t0 (by omega) tn hu d0 d1;refine Calls.mono hcall ?_;rintro e1 wv1 ⟨he1,hy3⟩;rw [zjm hs2' ((Q7 W t).cpu)] at hy3;have hK5:=hM4.deed hy3 hs5
  have hset:Wk 8 [y,y1] w (sto wv1 m'.tO (Int.toNat t*9+0) [.int .i64 1]) (setTk W t (Vt W t ((Q7 W t).cpu))) m':=by
   have:Wk 8 [y,y1] w (sto wv1 m'.tO (Int.toNat t*9+0) [.int .i64 1]) (setTk (setTk W t (Pj W t (Q7 W t).group ((Q7 W t).cpu))) t (Vt W t ((Q7 W t).cpu))) m':=hK5.sto (hK5.own.stoT t0 (by rw [UP]; exact t1) (j:=0) (vs:=[.int .i64 1]) (x:=Vt W t ((Q7 W t).cpu)) (by rw [show gi (setTk W t (Pj W t (Q7 W t).group ((Q7 W t).cpu))).tasks t=_ from EC t0 t1]; rfl) (by simp)) Lf
   rwa [set_set] at this
  have hixT:Ix m'.tO W.tasks.length t:=by
   have:=hK5.rd.t.ix QE t0 (by rw [UP]; exact t1)
   rwa [UP] at this
  refine ⟨_,_,_,_,_,_,_,_,_,_,he1,hM4.kept hy3 hs5,hixT,zeg hK5.own hK5.nb t0 (by rw [UP]; exact t1) (j:=0) (by decide),fun wr6 hx6 hs6 => ?_⟩;have e5:Qa (setTk W t (Vt W t ((Q7 W t).cpu))) m'=Qa W m':=Hl _ _ _ _;have hE:AT W t=Qg (endW (setTk W t (Vt W t ((Q7 W t).cpu))) ((Q7 W t).cpu)):=by unfold AT; rw [hC]
  have sfV:=zeb sf t0 t1 tn d0 d1;rw [hE];have hlV:(setTk W t (Vt W t ((Q7 W t).cpu))).cpus.length=W.cpus.length:=rfl;generalize setTk W t (Vt W t ((Q7 W t).cpu))=V at hset e5 sfV hlV;have hK6:=hset.step hx6;have hcall2:=Zm hK6.own d0 (by rw [hlV]; exact d1);rw [e5] at hcall2;refine Calls.mono hcall2 ?_;rintro e2 wv2 ⟨he2,hy4⟩;refine ⟨_,_,_,_,_,_,_,_,_,_,he2,hK6.kept hy4 hs6,fun wr7 hx7 hs7 => ?_⟩;have hK7:=(hK6.deed hy4 hs6).step hx7;have hcall3:=Qp hK7.own (sfV.endW d0 (by rw [hlV]; exact d1)).w (by simp only [Qk]; decide) (by simp only [Qk]; decide) hK7.base;refine Calls.mono hcall3 ?_;rintro e3 wv3 ⟨m2,he3,hy5⟩;exact ⟨_,_,_,_,_,_,_,_,_,_,he3,hK7.kept hy5 hs7,fun wr8 hx8=>QD.ok hW hb ((hK7.deed hy5 hs7).step hx8)⟩
end
theorem zbx {a b w:Int} (ha:0<=a) (hb:0<=b) (h:a+b<=100000000) (w1:1<=w) (w2:w<=20):Z0 (a+b) w=Z0 a w+Z0 b w:=by
 rw [Ts (by omega) h w1 w2,Ts ha (by omega) w1 w2,Ts hb (by omega) w1 w2,Int.add_mul]
theorem zkw {l w:Int} (h0:0<=l) (h1:l<=Zn w):X1 l w=l:=by
 unfold X1;rw [if_neg (show ¬Zn w<l by omega)]
 split <;> omega
theorem Pn {p q:Nat->Bool}:∀{n:Nat},(∀j,j<n->p j=q j)->VA p n=VA q n
 | 0,_=>rfl
 | n+1,h=>by simp only [VA]; rw [Pn fun j hj=>h j (by omega),h n (by omega)]
theorem OZ {p q:Nat->Bool} {v u:Nat->Int}:∀{n:Nat},(∀j,j<n->p j=q j)->(∀j,j<n->p j=true->v j=u j)->QI p v n=QI q u n
 | 0,_,_=>rfl
 | n+1,h,hv=>by
  have ih:=OZ (p:=p) (q:=q) (v:=v) (u:=u) (n:=n) (fun j hj=>h j (by omega)) fun j hj=>hv j (by omega)
  simp only [QI];rw [ih,<-h n (by omega)]
  cases hp:p n with
  | false=>simp
  | true=>
   rw [hv n (by omega) hp];rcases Za q u n with ⟨e,_⟩ | ⟨e0,e1,e2,_⟩
   ·rw [e]; simp
   ·rw [hv _ (by omega) (by rw [h _ (by omega)]; exact e2)]
theorem Yo {gs:List ZD} (ht:ZQ gs):∀g:Int,Q6 gs g=true->∀x∈QU gs g,Q6 gs x=true/\x≠0:=
 OI ht (fun x hx=>by rw [show QU gs 0=[] from Z8 _ _] at hx; cases hx) fun h hu hz ih x hx=>by
  rw [Ye ht hu hz] at hx;rcases List.mem_cons.1 hx with e | e
  ·subst e; exact ⟨hu,hz⟩
  ·exact ih x e
def UK (W:Q8) (k c:Int):Prop:=(Qb W (gi W.groups k).parent c).floor<=(Qb W k c).v/\(Qb W k c).v - (Qb W (gi W.groups k).parent c).floor<=Zn (Qb W k c).w
structure GF (W:Q8) (x:Pl):Prop where
 st:x.state=1\/x.state=2
 g:Q6 W.groups x.group=true
 n:Qd x.nice≠0
 m:O1 x.mask=true
 m0:x.mask≠0
 s:Zx x.sum=true
 u:Zx x.used=true
 l1:0<=x.load
 l2:x.load<=8000000
 f:x.state=1->(Qb W x.group x.cpu).floor<=x.v/\x.v - (Qb W x.group x.cpu).floor<=Zn (Qd x.nice)
structure zgq (W:Q8) (k c:Int):Prop where
 s:Zx (Qb W k c).sum=true
 root:k=0->(Qb W k c).on=false/\(Qb W k c).v=0/\(Qb W k c).w=10
 st:k≠0->(Qb W k c).on=true->UK W k c
structure zr1 (W:Q8) (c:Int):Prop where
 b:Zx (gi W.cpus c).busy=true
 i:Zx (gi W.cpus c).idle=true
 c1 : -1<=(gi W.cpus c).cur
 c2:(gi W.cpus c).cur<12
 no:(gi W.cpus c).cur<0->(gi W.cpus c).ran=0
 yes:0<=(gi W.cpus c).cur->(gi W.cpus c).up=true/\1<=(gi W.cpus c).ran/\(gi W.cpus c).ran<=149
 q:0<=(gi W.cpus c).cur->(Q7 W (gi W.cpus c).cur).state=1->(Q7 W (gi W.cpus c).cur).cpu=c->
  (Q7 W (gi W.cpus c).cur).v - (Qb W (Q7 W (gi W.cpus c).cur).group c).floor<=Z0 (gi W.cpus c).ran (Qd (Q7 W (gi W.cpus c).cur).nice)/\
  ∀x∈QU W.groups (Q7 W (gi W.cpus c).cur).group,UK W x c/\(Qb W x c).v - (Qb W (gi W.groups x).parent c).floor<=Z0 (gi W.cpus c).ran (Qb W x c).w
structure PreA (W:Q8):Prop where
 a:WA W
 t:∀t:Int,0<=t->t<12->(Q7 W t).state=0/\Q7 W t=VG\/(Q7 W t).state≠0/\GF W (Q7 W t)
 l:∀t:Int,0<=t->t<12->(Q7 W t).state≠0->0<=(Q7 W t).cpu/\(Q7 W t).cpu<(W.cpus.length:Int)
 s:∀k c:Int,Q6 W.groups k=true->0<=c->c<(W.cpus.length:Int)->zgq W k c
structure Vu (W:Q8):Prop extends PreA W where
 c:∀c:Int,0<=c->c<(W.cpus.length:Int)->zr1 W c
def BK (W:Q8):Prop:=∀t:Int,0<=t->t<12->(Q7 W t).state≠0->Z4 (Qq W (Q7 W t).group (Q7 W t).mask) (Q7 W t).cpu=true
def zua (W:Q8):Prop:=∀k c:Int,Q6 W.groups k=true->0<=c->c<(W.cpus.length:Int)->ZG W k c 20=true->Z6 W k c 20<=(Qb W k c).floor
theorem HW {v f k:Int} (hv:Zx v=true) (hf:Zx f=true):Pk v f k=true↔f<=v/\v - f<=Zn k:=by
 have h1:=ZV.1 hv;have h2:=ZV.1 hf;have hw:IntKind.i64.wrap (v - f)=v - f:=Ql.wrap (k:=.i64) ⟨by show _<=v - f; omega,by show v - f<=_; omega⟩;unfold Pk;rw [hw];simp
theorem U0 {W:Q8} (wp:Xq W):BK W:=fun t t0 t1 n=>by
 rcases wp.t t t0 t1 with h | h
 ·exact absurd h.1 n
 ·exact h.2.c
theorem Gt {W:Q8} (wp:Xq W) {k c:Int} (hu:Q6 W.groups k=true) (c0:0<=c) (c1:c<(W.cpus.length:Int)):P6 W k c:=by
 obtain ⟨u0,u1,_⟩:=wp.a.u hu;have hl:=wp.a.sl hu;exact wp.s k c u0 u1 c0 (by omega)
theorem X3 {W:Q8} (wp:Xq W):Vu W:=by
 have hst:∀k c:Int,Q6 W.groups k=true->k≠0->0<=c->c<(W.cpus.length:Int)->(Qb W k c).on=true->UK W k c:=fun k c hu hz c0 c1 ho=>by
  have h1:=Gt wp hu c0 c1;have h2:=Gt wp (wp.a.up hu hz) c0 c1;exact (HW h1.v h2.f).1 (h1.st hz ho)
 refine ⟨⟨wp.a,fun t t0 t1 => ?_,fun t t0 t1 n => ?_,fun k c hu c0 c1 => ?_⟩,fun c c0 c1 => ?_⟩
 ·rcases wp.t t t0 t1 with h | ⟨n,h⟩
  ·exact .inl h
  ·refine .inr ⟨n,h.st,h.g,h.n,h.m,h.m0,h.s,h.u,h.l1,h.l2,fun h1 => ?_⟩;obtain ⟨d0,d1⟩:=MT wp.a h.c;exact (HW h.v (Gt wp h.g d0 d1).f).1 (h.f h1)
 ·rcases wp.t t t0 t1 with h | ⟨_,h⟩
  ·exact absurd h.1 n
  ·exact MT wp.a h.c
 ·have h:=Gt wp hu c0 c1;exact ⟨h.s,h.root,fun hz ho=>hst k c hu hz c0 c1 ho⟩
 ·have h:=wp.c c c0 c1;have hl:=wp.a.t;refine ⟨h.b,h.i,h.c1,by have:=h.c2; omega,h.no,fun h0=>⟨(h.yes h0).1,(h.yes h0).2.1,(h.yes h0).2.2.1⟩,fun h0 h1 h2 => ?_⟩;obtain ⟨_,_,_,_,hline,hstay⟩:=h.yes h0;unfold OM at hstay;rw [Bool.and_eq_true,decide_eq_true_eq] at hstay;refine ⟨hstay.1,fun x hx => ?_⟩
  have hu:Q6 W.groups (Q7 W (gi W.cpus c).cur).group=true:=by
   rcases wp.t _ h0 (by have:=h.c2; omega) with hz | ⟨_,hz⟩
   ·rw [hz.1] at h1; cases h1
   ·exact hz.g
  obtain ⟨xu,xz⟩:=Yo wp.a.tree _ hu x hx;unfold Zp U7 at hline;rw [Bool.and_eq_true,h2,List.all_eq_true] at hline;have hs:=hstay.2;unfold VF at hs;rw [List.all_eq_true] at hs;exact ⟨hst x c xu xz c0 c1 (hline.2 x hx),of_decide_eq_true (hs x hx)⟩
structure D8 (c:Int) (W W':Q8):Prop where
 n:W'.now=W.now
 t:W'.tasks=W.tasks
 g:QR W.groups W'.groups
 len:W'.cpus.length=W.cpus.length
 b:∀i:Int,0<=i->(gi W'.groups i).band=(gi W.groups i).band
 e:∀k d:Int,0<=k->0<=d->d≠c->Qb W' k d=Qb W k d
 cp:∀d:Int,0<=d->d≠c->gi W'.cpus d=gi W.cpus d
theorem D8.refl (c:Int) (W:Q8):D8 c W W:=⟨rfl,rfl,QR.refl _,rfl,fun _ _=>rfl,fun _ _ _ _ _=>rfl,fun _ _ _=>rfl⟩
theorem D8.trans {c:Int} {A B C:Q8} (h:D8 c A B) (k:D8 c B C):D8 c A C:=⟨k.n.trans h.n,k.t.trans h.t,h.g.trans k.g,k.len.trans h.len,fun i hi=>(k.b i hi).trans (h.b i hi),fun i d hi hd hn=>(k.e i d hi hd hn).trans (h.e i d hi hd hn),fun d hd hn=>(k.cp d hd hn).trans (h.cp d hd hn)⟩
theorem Ec {W:Q8} {g c:Int} {s:Mu} (h0:0<=g) (h1:g<(W.groups.length:Int)) (c0:0<=c) (c1:c<((gi W.groups g).shelves.length:Int)):D8 c W (setSh W g c s):=
 ⟨rfl,rfl,Xk h0 h1,rfl,fun i hi=>zaq h0 h1 hi,fun k d hk hd hn=>by
  rw [J8 h0 h1 c0 c1 hk hd,if_neg fun h=>hn h.2.symm],fun _ _ _=>rfl⟩
theorem zfj {W:Q8} {c:Int} (c0:0<=c) (c1:c<(W.cpus.length:Int)):D8 c W (endW W c):=
 ⟨rfl,rfl,QR.refl _,List.length_set,fun _ _=>rfl,fun _ _ _ _ _=>rfl,fun d d0 hn=>by
  show gi (W.cpus.set c.toNat (Xo (gi W.cpus c))) d=_;rw [Qy _ _ c0 c1 d0,if_neg fun h=>hn h.symm]⟩
section
variable {c d:Int} {W W':Q8}
theorem Ti (ht:W'.tasks=W.tasks) (hT:QR W.groups W'.groups) {g:Int} (h:∀j:Nat,j<W.groups.length->1<=j->(gi W.groups (j:Int)).used=true->(gi W.groups (j:Int)).parent=g->(Qb W' (j:Int) d).on=(Qb W (j:Int) d).on):QO W' g d=QO W g d:=by
 unfold QO;rw [ht,hT.len]
 congr 1
 ·refine Pn fun j _ => ?_
  unfold Tw;rw [ht]
 ·refine Pn fun j hj => ?_
  unfold XU;rw [hT.u,hT.p]
  by_cases h1:1<=j
  ·cases hu:(gi W.groups (j:Int)).used with
   | false=>simp
   | true=>
    by_cases hp:(gi W.groups (j:Int)).parent=g
    ·rw [h j hj h1 hu hp]
    ·rw [show ((gi W.groups (j:Int)).parent==g)=false from beq_false_of_ne hp]; simp
  ·simp [h1]
theorem zk2 (ht:W'.tasks=W.tasks) (hT:QR W.groups W'.groups) (hl:W.groups.length=8) (h:∀k:Int,0<=k->(Qb W' k d).on=(Qb W k d).on) (g:Int) {j:Nat} (hj:j<20):Zd W' g d j=Zd W g d j:=by
 unfold Zd;split
 ·unfold Tw; rw [ht]
 ·unfold XU;rw [hT.u,hT.p,h _ (by omega)]
theorem za3 (ht:W'.tasks=W.tasks) (h:∀k:Int,0<=k->(Qb W' k d).v=(Qb W k d).v) (j:Nat):Ze W' d j=Ze W d j:=by
 unfold Ze;split
 ·unfold Q7; rw [ht]
 ·rw [h _ (by omega)]
theorem Dv (ht:W'.tasks=W.tasks) (hT:QR W.groups W'.groups) (hl:W.groups.length=8) (h:∀k:Int,0<=k->(Qb W' k d).on=(Qb W k d).on) (hv:∀k:Int,0<=k->(Qb W' k d).v=(Qb W k d).v) (g:Int):ZG W' g d 20=ZG W g d 20/\Z6 W' g d 20=Z6 W g d 20:=by
 have e:QI (Zd W' g d) (Ze W' d) 20=QI (Zd W g d) (Ze W d) 20:=OZ (fun j hj=>zk2 ht hT hl h g hj) fun j _ _=>za3 ht hv j
 unfold ZG Z6;rw [e];refine ⟨rfl,?_⟩;split
 ·rfl
 ·exact za3 ht hv _
theorem XF (ht:W'.tasks=W.tasks) (t:Int):Q7 W' t=Q7 W t:=by unfold Q7; rw [ht]
theorem Vp (hT:QR W.groups W'.groups) (g:Int):QU W'.groups g=QU W.groups g:=hT.path 3 g
theorem zcr {g:Int} (hb:(gi W'.groups g).band=(gi W.groups g).band):US W' g d=US W g d:=by unfold US; rw [hb]
end
theorem zin {W:Q8} {g c:Int} {j:Nat} (hj:j<20) (h:Zd W g c j=true):ZG W g c 20=true/\Z6 W g c 20<=Ze W c j:=by
 unfold ZG Z6;rcases Za (Zd W g c) (Ze W c) 20 with ⟨_,h2⟩ | ⟨h1,_,_,h4,_⟩
 ·rw [h2 j hj] at h; cases h
 ·rw [if_neg (by omega)];exact ⟨decide_eq_true h1,h4 j hj h⟩
theorem zka {W:Q8} (ha:WA W) {t:Int} (t0:0<=t) (t1:t<12) (hs:(Q7 W t).state=1):ZG W (Q7 W t).group (Q7 W t).cpu 20=true/\Z6 W (Q7 W t).group (Q7 W t).cpu 20<=(Q7 W t).v:=by
 have e:((t.toNat:Nat):Int)=t:=by omega
 have h:Zd W (Q7 W t).group (Q7 W t).cpu t.toNat=true:=by
  rw [Vn (by omega)];unfold Tw;rw [e];show (((Q7 W t).state==1)&&((Q7 W t).group==_)&&((Q7 W t).cpu==_))=true;rw [hs]; simp
 have:=zin (by omega) h
 rwa [E5 (by omega),e] at this
theorem zgs {W:Q8} (ha:WA W) {k c:Int} (hu:Q6 W.groups k=true) (hz:k≠0) (ho:(Qb W k c).on=true):ZG W (gi W.groups k).parent c 20=true/\Z6 W (gi W.groups k).parent c 20<=(Qb W k c).v:=by
 obtain ⟨k0,k1,ku⟩:=Q5.1 hu;have hl:=ha.gl;have e:((k.toNat:Nat):Int)=k:=by omega
 have h:Zd W (gi W.groups k).parent c (12+k.toNat)=true:=by
  rw [Jw];unfold XU;rw [e,ku,ho];simp;omega
 have:=zin (by omega) h
 rwa [E4,e] at this
structure LC (c:Int) (W W':Q8):Prop where
 o:D8 c W W'
 cs:W'.cpus=W.cpus
 f:∀k d:Int,0<=k->0<=d->(Qb W' k d).floor=(Qb W k d).floor
 w:∀k d:Int,0<=k->0<=d->(Qb W' k d).w=(Qb W k d).w
 s:∀k d:Int,0<=k->0<=d->(Qb W' k d).sum=(Qb W k d).sum
 r:∀d:Int,0<=d->Qb W' 0 d=Qb W 0 d
 v:∀k d:Int,Q6 W.groups k=true->k≠0->0<=d->UK W k d->(Qb W' k d).v=(Qb W k d).v
theorem LC.refl (c:Int) (W:Q8):LC c W W:=⟨D8.refl _ _,rfl,fun _ _ _ _=>rfl,fun _ _ _ _=>rfl,fun _ _ _ _=>rfl,fun _ _=>rfl,fun _ _ _ _ _ _=>rfl⟩
theorem LC.st {c:Int} {W W':Q8} (ht:ZQ W.groups) (h:LC c W W') {k d:Int} (hu:Q6 W.groups k=true) (hz:k≠0) (d0:0<=d) (hs:UK W k d):UK W' k d:=by
 have hp:=(Q5.1 (ZS ht hu hz).1).1;have k0:=(Q5.1 hu).1;unfold UK;rw [h.o.g.p,h.f _ d hp d0,h.v k d hu hz d0 hs,h.w k d k0 d0];exact hs
theorem LC.trans {c:Int} {A B C:Q8} (ht:ZQ A.groups) (h:LC c A B) (k:LC c B C):LC c A C:=
 ⟨h.o.trans k.o,k.cs.trans h.cs,fun i d a b=>(k.f i d a b).trans (h.f i d a b),fun i d a b=>(k.w i d a b).trans (h.w i d a b),fun i d a b=>(k.s i d a b).trans (h.s i d a b),fun d a=>(k.r d a).trans (h.r d a),fun i d hu hz d0 hs=>by
  rw [k.v i d (by rw [h.o.g.usd]; exact hu) hz d0 (h.st ht hu hz d0 hs),h.v i d hu hz d0 hs]⟩
theorem Vu.lc {c:Int} {W W':Q8} (p:Vu W) (h:LC c W W') (ha:WA W') (hon:∀k d:Int,Q6 W.groups k=true->k≠0->0<=d->d<(W.cpus.length:Int)->(Qb W' k d).on=true->UK W' k d):Vu W':=by
 have et:∀t,Q7 W' t=Q7 W t:=XF h.o.t;refine ⟨⟨ha,fun t t0 t1 => ?_,fun t t0 t1 n => ?_,fun k d hu d0 d1 => ?_⟩,fun d d0 d1 => ?_⟩
 ·rw [et];rcases p.t t t0 t1 with hz | ⟨n,hx⟩
  ·exact .inl hz
  ·refine .inr ⟨n,hx.st,by rw [h.o.g.usd]; exact hx.g,hx.n,hx.m,hx.m0,hx.s,hx.u,hx.l1,hx.l2,fun h1 => ?_⟩;rw [h.f _ _ (Q5.1 hx.g).1 (p.l t t0 t1 n).1];exact hx.f h1
 ·rw [et] at n ⊢;rw [h.o.len];exact p.l t t0 t1 n
 ·rw [h.o.g.usd] at hu;rw [h.cs] at d1;have hs:=p.s k d hu d0 d1;have k0:=(Q5.1 hu).1;refine ⟨by rw [h.s k d k0 d0]; exact hs.s,fun hz => ?_,fun hz ho=>hon k d hu hz d0 d1 ho⟩;subst hz;rw [h.r d d0];exact hs.root rfl
 ·rw [h.cs] at d1;have hc:=p.c d d0 d1;refine ⟨by rw [h.cs]; exact hc.b,by rw [h.cs]; exact hc.i,by rw [h.cs]; exact hc.c1,by rw [h.cs]; exact hc.c2,by rw [h.cs]; exact hc.no,by rw [h.cs]; exact hc.yes,?_⟩;rw [h.cs];simp only [et];intro h0 h1 h2;obtain ⟨q1,q2⟩:=hc.q h0 h1 h2
  have hu:Q6 W.groups (Q7 W (gi W.cpus d).cur).group=true:=by
   rcases p.t _ h0 hc.c2 with hz | ⟨_,hx⟩
   ·rw [hz.1] at h1; cases h1
   ·exact hx.g
  refine ⟨by rw [h.f _ d (Q5.1 hu).1 d0]; exact q1,fun x hx => ?_⟩;rw [Vp h.o.g] at hx;obtain ⟨xu,xz⟩:=Yo p.a.tree _ hu x hx;obtain ⟨s1,s2⟩:=q2 x hx;refine ⟨h.st p.a.tree xu xz d0 s1,?_⟩;rw [h.o.g.p,h.v x d xu xz d0 s1,h.f _ d (Q5.1 (p.a.up xu xz)).1 d0,h.w x d (Q5.1 xu).1 d0];exact s2
def UT (W:Q8) (c k:Int):Prop:=(Qb W k c).on=(QO W k c && !US W k c)
theorem zni {W:Q8} (p:Vu W) {k c d:Int} (hu:Q6 W.groups k=true) (hd:dep 3 W.groups k=d) (d1:1<=d) (c0:0<=c) (c1:c<(W.cpus.length:Int)) :
  LC c W (setSh W k c (Yi W k c))/\Vu (setSh W k c (Yi W k c))/\UT (setSh W k c (Yi W k c)) c k/\∀g:Int,Q6 W.groups g=true->g≠k->(gi W.groups k).parent≠g->UT W c g->UT (setSh W k c (Yi W k c)) c g:=by
 have hz:k≠0:=fun e=>by subst e; rw [Y6] at hd; omega
 obtain ⟨u0,u1,_⟩:=Q5.1 hu;have hl:=p.a.gl;have hsl:=p.a.sl hu;have c1':c<((gi W.groups k).shelves.length:Int):=by omega
 have hpu:=p.a.up hu hz
 have hpk:(gi W.groups k).parent≠k:=fun e=>by
  obtain ⟨_,_,_,n,e1,e2,_⟩:=ZS p.a.tree hu hz;rw [e] at e2; omega
 have e:∀{i j:Int},0<=i->0<=j->Qb (setSh W k c (Yi W k c)) i j=if k=i/\c=j then Yi W k c else Qb W i j:=fun hi hj=>J8 u0 u1 c0 c1' hi hj
 have ev:UK W k c->(Yi W k c).v=(Qb W k c).v:=fun hs=>by
  simp only [Yi];split
  ·rw [zkw (by have:=hs.1; omega) hs.2]; omega
  ·rfl
 have eq0:∀{i j:Int},k=i/\c=j->(Yi W k c).floor=(Qb W i j).floor/\(Yi W k c).w=(Qb W i j).w/\(Yi W k c).sum=(Qb W i j).sum:=fun h=>by
  obtain ⟨rfl,rfl⟩:=h; exact ⟨rfl,rfl,rfl⟩
 have hT:=Xk (W:=W) (g:=k) (c:=c) (s:=Yi W k c) u0 u1
 have lc:LC c W (setSh W k c (Yi W k c)):=by
  refine ⟨Ec u0 u1 c0 c1',rfl,fun i j hi hj => ?_,fun i j hi hj => ?_,fun i j hi hj => ?_,fun j hj => ?_,fun i j iu iz hj hs => ?_⟩
  ·rw [e hi hj]; split
   ·rename_i h; exact (eq0 h).1
   ·rfl
  ·rw [e hi hj]; split
   ·rename_i h; exact (eq0 h).2.1
   ·rfl
  ·rw [e hi hj]; split
   ·rename_i h; exact (eq0 h).2.2
   ·rfl
  ·rw [e (Int.le_refl 0) hj,if_neg fun h=>hz h.1]
  ·rw [e (Q5.1 iu).1 hj]; split
   ·rename_i h;obtain ⟨rfl,rfl⟩:=h;exact ev hs
   ·rfl
 have act:∀g:Int,(gi W.groups k).parent≠g->QO (setSh W k c (Yi W k c)) g c=QO W g c:=fun g hg=>by
  refine Ti (W:=W) (W':=setSh W k c (Yi W k c)) rfl hT fun j hj _ _ hp => ?_
  rw [e (by omega) c0,if_neg];rintro ⟨h,_⟩;exact hg (by rw [h]; exact hp)
 have hoe:UT (setSh W k c (Yi W k c)) c k:=by
  unfold UT;rw [e u0 c0,if_pos ⟨rfl,rfl⟩,act k hpk,KB u0 u1 u0];rfl
 refine ⟨lc,p.lc lc (p.a.setSh u0 (by omega)) fun i j iu iz j0 j1 ho => ?_,hoe,fun g gu gk hg h => ?_⟩
 ·by_cases h:k=i/\c=j
  ·obtain ⟨rfl,rfl⟩:=h
   by_cases hs:UK W k c
   ·exact lc.st p.a.tree hu hz c0 hs
   ·have hoff:(Qb W k c).on=false:=by
     cases hb:(Qb W k c).on with
     | false=>rfl
     | true=>exact absurd ((p.s k c hu c0 c1).st hz hb) hs
    rw [e u0 c0,if_pos ⟨rfl,rfl⟩] at ho;have ho:(QO W k c && !US W k c)=true:=ho;unfold UK;rw [hT.p,e u0 c0,if_pos ⟨rfl,rfl⟩,lc.f _ c (Q5.1 hpu).1 c0];simp only [Yi];rw [if_pos ⟨ho,hoff⟩];have:=ZP ((Qb W k c).v - (Qb W (gi W.groups k).parent c).floor) (Qb W k c).w;omega
  ·rw [e (Q5.1 iu).1 j0,if_neg h] at ho;exact lc.st p.a.tree iu iz j0 ((p.s i j iu j0 j1).st iz ho)
 ·unfold UT;have g0:=(Q5.1 gu).1;rw [e g0 c0,if_neg fun h=>gk h.1.symm,act g hg,KB u0 u1 g0];exact h
theorem zfb {W:Q8} (p:Vu W) {c d:Int} (d1:1<=d) (c0:0<=c) (c1:c<(W.cpus.length:Int)) (hI:∀g:Int,Q6 W.groups g=true->d<dep 3 W.groups g->UT W c g):∀k:Nat,k<=8->
  LC c W (ZN W c d k)/\Vu (ZN W c d k)/\∀g:Int,Q6 W.groups g=true->d<dep 3 W.groups g\/dep 3 W.groups g=d/\g<(k:Int)->UT (ZN W c d k) c g
 | 0,_=>⟨LC.refl _ _,p,fun g gu h=>hI g gu (by
   rcases h with h | h
   ·exact h
   ·have:=(Q5.1 gu).1;have:=h.2;omega)⟩
 | k+1,hk=>by
  obtain ⟨a,b,ih⟩:=zfb p d1 c0 c1 hI k (by omega);have hl:=b.a.gl;have hT:=a.o.g;simp only [ZN];split
  ·rename_i hc;have hu:Q6 (ZN W c d k).groups (k:Int)=true:=Q5.2 ⟨by omega,by omega,hc.1⟩;obtain ⟨l1,l2,l3,l4⟩:=zni b hu hc.2 d1 c0 (c:=c) (by rw [a.cs]; exact c1);refine ⟨a.trans p.a.tree l1,l2,fun g gu h => ?_⟩
   by_cases e:g=(k:Int)
   ·subst e; exact l3
   ·have hkz:(k:Int)≠0:=fun e=>by have:=hc.2; rw [e,Y6] at this; omega
    obtain ⟨_,_,_,n,e1,e2,_⟩:=ZS b.a.tree hu hkz;refine l4 g (by rw [hT.usd]; exact gu) e (fun hp => ?_) (ih g gu ?_)
    ·rw [hp,hT.dep] at e2;have:=hc.2;omega
    ·rcases h with h | h
     ·exact .inl h
     ·exact .inr ⟨h.1,by have:=h.2; omega⟩
  ·rename_i hc;refine ⟨a,b,fun g gu h=>ih g gu ?_⟩;rcases h with h | h
   ·exact .inl h
   ·refine .inr ⟨h.1,?_⟩
    by_cases e:g=(k:Int)
    ·subst e;exact absurd ⟨by rw [hT.u]; exact (Q5.1 gu).2.2,by rw [hT.dep]; exact h.1⟩ hc
    ·have:=h.2;omega
theorem za2 {W:Q8} (p:Vu W) {c:Int} (c0:0<=c) (c1:c<(W.cpus.length:Int)):LC c W (QJ W c)/\Vu (QJ W c)/\∀g:Int,Q6 W.groups g=true->g≠0->UT (QJ W c) c g:=by
 have key:∀j:Nat,j<=3->LC c W (XB W c j)/\Vu (XB W c j)/\∀g:Int,Q6 W.groups g=true->3 - (j:Int)<dep 3 W.groups g->UT (XB W c j) c g:=by
  intro j
  induction j with
  | zero=>exact fun _=>⟨LC.refl _ _,p,fun g gu h=>by have:=(MU p.a gu).2; omega⟩
  | succ j ih=>
   intro hj;obtain ⟨a,b,h⟩:=ih (by omega);have hT:=a.o.g;obtain ⟨a2,b2,h2⟩:=zfb b (c:=c) (d:=3 - (j:Int)) (by omega) c0 (by rw [a.cs]; exact c1) (fun g gu hd=>h g (by rwa [hT.usd] at gu) (by rwa [hT.dep] at hd)) 8 (Nat.le_refl _);refine ⟨a.trans p.a.tree a2,b2,fun g gu hd=>h2 g (by rw [hT.usd]; exact gu) ?_⟩;rw [hT.dep];have:=(Q5.1 gu).2.1;have:=p.a.gl
   by_cases e:dep 3 W.groups g=3 - (j:Int)
   ·exact .inr ⟨e,by omega⟩
   ·exact .inl (by omega)
 obtain ⟨a,b,h⟩:=key 3 (Nat.le_refl _);refine ⟨a,b,fun g gu gz=>h g gu ?_⟩;obtain ⟨_,_,_,n,e1,_⟩:=ZS p.a.tree gu gz;omega
theorem A3 {W:Q8} (p:Vu W):∀c:Nat,c<=W.cpus.length->Vu (YG W c)/\(YG W c).cpus=W.cpus
 | 0,_=>⟨p,rfl⟩
 | c+1,hc=>by
  obtain ⟨a,e⟩:=A3 p c (by omega);obtain ⟨l,b,_⟩:=za2 a (c:=(c:Int)) (by omega) (by rw [e]; omega);exact ⟨b,l.cs.trans e⟩
theorem Vu.onlyB {W W':Q8} (p:Vu W) (ho:UW W W') (ha:WA W'):Vu W':=by
 have et:∀t,Q7 W' t=Q7 W t:=XF ho.t;have es:∀k d:Int,0<=k->Qb W' k d=Qb W k d:=fun k d hk=>by unfold Qb; rw [ho.s k hk]
 have est:∀k d:Int,Q6 W.groups k=true->k≠0->(UK W' k d↔UK W k d):=fun k d hu hz=>by
  unfold UK;rw [ho.g.p,es _ _ (Q5.1 (p.a.up hu hz)).1,es _ _ (Q5.1 hu).1]
 refine ⟨⟨ha,fun t t0 t1 => ?_,fun t t0 t1 n => ?_,fun k d hu d0 d1 => ?_⟩,fun d d0 d1 => ?_⟩
 ·rw [et];rcases p.t t t0 t1 with hz | ⟨n,hx⟩
  ·exact .inl hz
  ·refine .inr ⟨n,hx.st,by rw [ho.g.usd]; exact hx.g,hx.n,hx.m,hx.m0,hx.s,hx.u,hx.l1,hx.l2,fun h1 => ?_⟩;rw [es _ _ (Q5.1 hx.g).1];exact hx.f h1
 ·rw [et] at n ⊢;rw [ho.c];exact p.l t t0 t1 n
 ·rw [ho.g.usd] at hu;rw [ho.c] at d1;have hs:=p.s k d hu d0 d1;have k0:=(Q5.1 hu).1;exact ⟨by rw [es k d k0]; exact hs.s,by rw [es k d k0]; exact hs.root,fun hz h=>(est k d hu hz).2 (hs.st hz (by rwa [es k d k0] at h))⟩
 ·rw [ho.c] at d1;have hc:=p.c d d0 d1;refine ⟨by rw [ho.c]; exact hc.b,by rw [ho.c]; exact hc.i,by rw [ho.c]; exact hc.c1,by rw [ho.c]; exact hc.c2,by rw [ho.c]; exact hc.no,by rw [ho.c]; exact hc.yes,?_⟩;rw [ho.c];simp only [et];intro h0 h1 h2;obtain ⟨q1,q2⟩:=hc.q h0 h1 h2
  have hu:Q6 W.groups (Q7 W (gi W.cpus d).cur).group=true:=by
   rcases p.t _ h0 hc.c2 with hz | ⟨_,hx⟩
   ·rw [hz.1] at h1; cases h1
   ·exact hx.g
  refine ⟨by rw [es _ d (Q5.1 hu).1]; exact q1,fun x hx => ?_⟩;rw [Vp ho.g] at hx;obtain ⟨xu,xz⟩:=Yo p.a.tree _ hu x hx;obtain ⟨s1,s2⟩:=q2 x hx;refine ⟨(est x d xu xz).2 s1,?_⟩;rw [ho.g.p,es x d (Q5.1 xu).1,es _ d (Q5.1 (p.a.up xu xz)).1];exact s2
structure FC (c:Int) (W W':Q8):Prop where
 o:D8 c W W'
 cs:W'.cpus=W.cpus
 on:∀k d:Int,0<=k->0<=d->(Qb W' k d).on=(Qb W k d).on
 v:∀k d:Int,0<=k->0<=d->(Qb W' k d).v=(Qb W k d).v
 w:∀k d:Int,0<=k->0<=d->(Qb W' k d).w=(Qb W k d).w
 s:∀k d:Int,0<=k->0<=d->(Qb W' k d).sum=(Qb W k d).sum
 up:∀k d:Int,0<=k->0<=d->(Qb W k d).floor<=(Qb W' k d).floor
 fl:∀k:Int,0<=k->(Qb W' k c).floor=(Qb W k c).floor\/ZG W k c 20=true/\(Qb W' k c).floor=Z6 W k c 20
theorem DH {W:Q8} (ha:WA W) {c:Int} (c0:0<=c) (c1:c<(W.cpus.length:Int)):∀k:Nat,k<=8->FC c W (QW W c k)/\WA (QW W c k)/\∀g:Int,Q6 W.groups g=true->g<(k:Int)->ZG W g c 20=true->Z6 W g c 20<=(Qb (QW W c k) g c).floor
 | 0,_=>⟨⟨D8.refl _ _,rfl,fun _ _ _ _=>rfl,fun _ _ _ _=>rfl,fun _ _ _ _=>rfl,fun _ _ _ _=>rfl,fun _ _ _ _=>Int.le_refl _,fun _ _=>.inl rfl⟩,ha,fun g gu h=>by have:=(Q5.1 gu).1; omega⟩
 | k+1,hk=>by
  obtain ⟨f,hA,ih⟩:=DH ha c0 c1 k (by omega);have hl:=hA.gl;have hT:=f.o.g;have hb:=Dv f.o.t hT ha.gl (fun i hi=>f.on i c hi c0) (fun i hi=>f.v i c hi c0);simp only [QW];split
  ·rename_i hc;have hu:Q6 (QW W c k).groups (k:Int)=true:=Q5.2 ⟨by omega,by omega,hc.1⟩;have hsl:=hA.sl hu;have c1':c<((gi (QW W c k).groups (k:Int)).shelves.length:Int):=by rw [hsl,f.cs]; exact c1
   have e:∀{i j:Int},0<=i->0<=j->Qb (setSh (QW W c k) (k:Int) c (DI (QW W c k) (k:Int) c)) i j=if (k:Int)=i/\c=j then DI (QW W c k) (k:Int) c else Qb (QW W c k) i j:=fun hi hj=>J8 (by omega) (by omega) c0 c1' hi hj
   refine ⟨⟨f.o.trans (Ec (by omega) (by omega) c0 c1'),f.cs,fun i j hi hj => ?_,fun i j hi hj => ?_,fun i j hi hj => ?_,fun i j hi hj => ?_,fun i j hi hj => ?_,fun i hi => ?_⟩,hA.setSh (by omega) (by omega),fun g gu hg hB => ?_⟩
   ·rw [e hi hj]; split
    ·rename_i h; obtain ⟨rfl,rfl⟩:=h; exact f.on _ _ hi hj
    ·exact f.on i j hi hj
   ·rw [e hi hj]; split
    ·rename_i h; obtain ⟨rfl,rfl⟩:=h; exact f.v _ _ hi hj
    ·exact f.v i j hi hj
   ·rw [e hi hj]; split
    ·rename_i h; obtain ⟨rfl,rfl⟩:=h; exact f.w _ _ hi hj
    ·exact f.w i j hi hj
   ·rw [e hi hj]; split
    ·rename_i h; obtain ⟨rfl,rfl⟩:=h; exact f.s _ _ hi hj
    ·exact f.s i j hi hj
   ·rw [e hi hj]; split
    ·rename_i h; obtain ⟨rfl,rfl⟩:=h;have h1:=f.up (k:Int) c hi hj;have h2:=hc.2.2;show _<=Z6 (QW W c k) (k:Int) c 20;omega
    ·exact f.up i j hi hj
   ·rw [e hi c0]; split
    ·rename_i h; obtain ⟨rfl,_⟩:=h;refine .inr ⟨(hb _).1▸hc.2.1,?_⟩;show Z6 (QW W c k) (k:Int) c 20=_;exact (hb _).2
    ·exact f.fl i hi
   ·have g0:=(Q5.1 gu).1;rw [e g0 c0];split
    ·rename_i h; obtain ⟨rfl,_⟩:=h;show _<=Z6 (QW W c k) (k:Int) c 20;rw [(hb _).2]; exact Int.le_refl _
    ·rename_i h;exact ih g gu (by have:g≠(k:Int):=fun e=>h ⟨e.symm,rfl⟩; omega) hB
  ·rename_i hc;refine ⟨f,hA,fun g gu hg hB => ?_⟩
   by_cases e:g=(k:Int)
   ·subst e;rw [hT.u,(hb _).1,(hb _).2] at hc
    by_cases h:Z6 W (k:Int) c 20>(Qb (QW W c k) (k:Int) c).floor
    ·exact absurd ⟨(Q5.1 gu).2.2,hB,h⟩ hc
    ·omega
   ·exact ih g gu (by omega) hB
theorem D8.active {c d:Int} {W W':Q8} (h:D8 c W W') (d0:0<=d) (hd:d≠c) (g:Int):QO W' g d=QO W g d:=
 Ti h.t h.g fun j _ _ _ _=>by rw [h.e _ d (by omega) d0 hd]
theorem D8.line {c:Int} {W W':Q8} (h:D8 c W W') (ht:ZQ W.groups) {t:Int} (hu:Q6 W.groups (Q7 W t).group=true) (d0:0<=(Q7 W t).cpu) (hd:(Q7 W t).cpu≠c):Zp W' t=Zp W t:=by
 unfold Zp U7;rw [XF h.t,Vp h.g]
 congr 1
 rw [Bool.eq_iff_iff,List.all_eq_true,List.all_eq_true];refine forall_congr' fun x=>forall_congr' fun hx => ?_
 rw [h.e x _ (Q5.1 (Yo ht _ hu x hx).1).1 d0 hd]
structure Dn (W:Q8) (c:Int):Prop where
 on:∀k:Int,Q6 W.groups k=true->k≠0->UT W c k
 cu:0<=(gi W.cpus c).cur->(Q7 W (gi W.cpus c).cur).cpu=c/\Zp W (gi W.cpus c).cur=true
 fl:∀k:Int,Q6 W.groups k=true->ZG W k c 20=true->Z6 W k c 20<=(Qb W k c).floor
theorem Dn.oth {c d:Int} {W W':Q8} (h:Dn W d) (p:Vu W) (o:D8 c W W') (d0:0<=d) (d1:d<(W.cpus.length:Int)) (hd:d≠c):Dn W' d:=by
 refine ⟨fun k hu hz => ?_,fun h0 => ?_,fun k hu hB => ?_⟩
 ·rw [o.g.usd] at hu;have k0:=(Q5.1 hu).1;have:=h.on k hu hz;unfold UT at this ⊢;rw [o.e k d k0 d0 hd,o.active d0 hd,zcr (o.b k k0)];exact this
 ·rw [o.cp d d0 hd] at h0 ⊢;rw [XF o.t];obtain ⟨h1,h2⟩:=h.cu h0;refine ⟨h1,?_⟩
  have hs:(Q7 W (gi W.cpus d).cur).state=1:=by
   unfold Zp at h2;rw [Bool.and_eq_true] at h2;exact eq_of_beq h2.1
  have hu:Q6 W.groups (Q7 W (gi W.cpus d).cur).group=true:=by
   rcases p.t _ h0 (p.c d d0 d1).c2 with hz | ⟨_,hx⟩
   ·rw [hz.1] at hs; cases hs
   ·exact hx.g
  rw [o.line p.a.tree hu (by rw [h1]; exact d0) (by rw [h1]; exact hd)];exact h2
 ·rw [o.g.usd] at hu;have hb:=Dv (d:=d) o.t o.g p.a.gl (fun i hi=>by rw [o.e i d hi d0 hd]) (fun i hi=>by rw [o.e i d hi d0 hd]) k;rw [hb.1] at hB;rw [hb.2,o.e k d (Q5.1 hu).1 d0 hd];exact h.fl k hu hB
theorem GF.cp {W:Q8} {x:Pl} (h:GF W x) (cs:List OS):GF { W with cpus:=cs } x:=⟨h.st,h.g,h.n,h.m,h.m0,h.s,h.u,h.l1,h.l2,h.f⟩
theorem zgq.cp {W:Q8} {k c:Int} (h:zgq W k c) (cs:List OS):zgq { W with cpus:=cs } k c:=⟨h.s,h.root,h.st⟩
theorem PreA.endW {W:Q8} (p:PreA W) {c:Int} (c0:0<=c) (c1:c<(W.cpus.length:Int)):PreA (endW W c):=by
 have hlen:(Go.Proofs.YtclpmgfpjeaibaaGreat.endW W c).cpus.length=W.cpus.length:=List.length_set;refine ⟨?_,fun t t0 t1 => ?_,fun t t0 t1 n => ?_,fun k d hu d0 d1 => ?_⟩
 ·refine p.a.cp List.length_set ?_;rw [zd7 List.length_set fun j hj => ?_]
  ·exact p.a.ups
  ·rw [Qy _ _ c0 c1 (by omega)];split
   ·rename_i e; rw [<-e]; rfl
   ·rfl
 ·rcases p.t t t0 t1 with h | h
  ·exact .inl h
  ·exact .inr ⟨h.1,h.2.cp _⟩
 ·rw [hlen]; exact p.l t t0 t1 n
 ·rw [hlen] at d1; exact (p.s k d hu d0 d1).cp _
theorem Vu.endW {W:Q8} (p:Vu W) {c:Int} (c0:0<=c) (c1:c<(W.cpus.length:Int)):Vu (endW W c):=by
 refine ⟨p.toPreA.endW c0 c1,fun d d0 d1 => ?_⟩;have hlen:(Go.Proofs.YtclpmgfpjeaibaaGreat.endW W c).cpus.length=W.cpus.length:=List.length_set;have hcp:gi (Go.Proofs.YtclpmgfpjeaibaaGreat.endW W c).cpus d=if c=d then Xo (gi W.cpus c) else gi W.cpus d:=Qy _ _ c0 c1 d0;rw [hlen] at d1;have hc:=p.c d d0 d1
 by_cases e:c=d
 ·subst e;rw [if_pos rfl] at hcp;have n1:(Xo (gi W.cpus c)).cur = -1:=rfl;exact ⟨by rw [hcp]; exact hc.b,by rw [hcp]; exact hc.i,by rw [hcp,n1]; exact Int.le_refl _,by rw [hcp,n1]; decide,fun _=>by rw [hcp]; rfl,fun h=>by rw [hcp,n1] at h; omega,fun h=>by rw [hcp,n1] at h; omega⟩
 ·rw [if_neg e] at hcp;exact ⟨by rw [hcp]; exact hc.b,by rw [hcp]; exact hc.i,by rw [hcp]; exact hc.c1,by rw [hcp]; exact hc.c2,by rw [hcp]; exact hc.no,by rw [hcp]; exact hc.yes,by rw [hcp]; exact hc.q⟩
theorem zon {W:Q8} (p:Vu W) {c:Int} (c0:0<=c) (c1:c<(W.cpus.length:Int)):Vu (Vr W c)/\D8 c W (Vr W c)/\Dn (Vr W c) c:=by
 obtain ⟨l,p1,hon⟩:=za2 p c0 c1;obtain ⟨f,hA,hfl⟩:=DH p1.a c0 (c:=c) (by rw [l.cs]; exact c1) 8 (Nat.le_refl _);have f:FC c (QJ W c) (Zl (QJ W c) c):=f;have hA:WA (Zl (QJ W c) c):=hA;have hfl:∀g:Int,Q6 (QJ W c).groups g=true->g<((8:Nat):Int)->ZG (QJ W c) g c 20=true->Z6 (QJ W c) g c 20<=(Qb (Zl (QJ W c) c) g c).floor:=hfl;have hon:∀g:Int,Q6 (QJ W c).groups g=true->g≠0->UT (QJ W c) c g:=fun g gu gz=>hon g (by rwa [l.o.g.usd] at gu) gz
 have hgl:=p1.a.gl;have hlc:(QJ W c).cpus.length=W.cpus.length:=by rw [l.cs]
 have hdef:Vr W c=if Mi (Zl (QJ W c) c) c=true then endW (Zl (QJ W c) c) c else Zl (QJ W c) c:=rfl;have hO:D8 c W (Zl (QJ W c) c):=l.o.trans f.o;rw [hdef];clear hdef;have c1':c<((QJ W c).cpus.length:Int):=by rw [hlc]; exact c1
 generalize QJ W c=V at p1 hon f hA hfl hgl hlc hO c1';generalize Zl V c=F at f hA hfl hO;have et:∀t,Q7 F t=Q7 V t:=XF f.o.t;have hT:=f.o.g;have best:=Dv (d:=c) f.o.t hT hgl (fun i hi=>f.on i c hi c0) (fun i hi=>f.v i c hi c0)
 have low:∀k:Int,Q6 V.groups k=true->∀v:Int,(ZG V k c 20=true/\Z6 V k c 20<=v)->(Qb V k c).floor<=v->(Qb F k c).floor<=v:=fun k hu v hv hf=>by
  rcases f.fl k (Q5.1 hu).1 with e | ⟨_,e⟩
  ·rw [e]; exact hf
  ·rw [e]; exact hv.2
 have st:∀k d:Int,Q6 V.groups k=true->k≠0->0<=d->(Qb V k d).on=true->UK V k d->UK F k d:=fun k d hu hz d0 ho hs=>by
  have pu:=p1.a.up hu hz;have k0:=(Q5.1 hu).1;have q0:=(Q5.1 pu).1;unfold UK;rw [hT.p,f.v k d k0 d0,f.w k d k0 d0];have hup:=f.up _ d q0 d0;refine ⟨?_,by have:=hs.2; omega⟩
  by_cases hd:d=c
  ·subst hd;exact low _ pu _ (zgs p1.a hu hz ho) hs.1
  ·rw [f.o.e _ d q0 d0 hd]; exact hs.1
 have pa:PreA F:=by
  refine ⟨hA,fun t t0 t1 => ?_,fun t t0 t1 n => ?_,fun k d hu d0 d1 => ?_⟩
  ·rw [et];rcases p1.t t t0 t1 with hz | ⟨n,hx⟩
   ·exact .inl hz
   ·refine .inr ⟨n,hx.st,by rw [hT.usd]; exact hx.g,hx.n,hx.m,hx.m0,hx.s,hx.u,hx.l1,hx.l2,fun h1 => ?_⟩;obtain ⟨d0,d1⟩:=p1.l t t0 t1 n;have g0:=(Q5.1 hx.g).1;have hup:=f.up _ _ g0 d0;have hs:=hx.f h1;refine ⟨?_,by omega⟩
    by_cases hd:(Q7 V t).cpu=c
    ·have hb:=zka p1.a t0 t1 h1;rw [hd] at hb hs ⊢;exact low _ hx.g _ hb hs.1
    ·rw [f.o.e _ _ g0 d0 hd]; exact hs.1
  ·rw [et] at n ⊢;rw [f.cs];exact p1.l t t0 t1 n
  ·rw [hT.usd] at hu;rw [f.cs] at d1;have hs:=p1.s k d hu d0 d1;have k0:=(Q5.1 hu).1;refine ⟨by rw [f.s k d k0 d0]; exact hs.s,fun hz => ?_,fun hz h => ?_⟩
   ·rw [f.on k d k0 d0,f.v k d k0 d0,f.w k d k0 d0]; exact hs.root hz
   ·rw [f.on k d k0 d0] at h;exact st k d hu hz d0 h (hs.st hz h)
 have ptu:∀t:Int,0<=t->t<12->(Q7 V t).state=1->Q6 V.groups (Q7 V t).group=true:=fun t t0 t1 h=>by
  rcases p1.t t t0 t1 with hz | ⟨_,hx⟩
  ·rw [hz.1] at h; cases h
  ·exact hx.g
 have pc:∀d:Int,0<=d->d<(V.cpus.length:Int)->(d=c->Mi F c=false)->zr1 F d:=fun d d0 d1 hg=>by
  have hc:=p1.c d d0 d1;refine ⟨by rw [f.cs]; exact hc.b,by rw [f.cs]; exact hc.i,by rw [f.cs]; exact hc.c1,by rw [f.cs]; exact hc.c2,by rw [f.cs]; exact hc.no,by rw [f.cs]; exact hc.yes,?_⟩;rw [f.cs];simp only [et];intro h0 h1 h2;obtain ⟨q1,q2⟩:=hc.q h0 h1 h2;have hu:=ptu _ h0 hc.c2 h1;have hup:=f.up _ d (Q5.1 hu).1 d0;refine ⟨by omega,fun x hx => ?_⟩;rw [Vp hT] at hx;obtain ⟨xu,xz⟩:=Yo p1.a.tree _ hu x hx;obtain ⟨s1,s2⟩:=q2 x hx;have x0:=(Q5.1 xu).1;have q0:=(Q5.1 (p1.a.up xu xz)).1;have hup2:=f.up _ d q0 d0;refine ⟨?_,by rw [hT.p,f.v x d x0 d0,f.w x d x0 d0]; omega⟩
  by_cases hd:d=c
  ·subst hd
   have hl:Zp F (gi V.cpus d).cur=true:=by
    have:=hg rfl;unfold Mi at this;rw [f.cs,et,decide_eq_true h0,h2] at this
    simpa using this
   unfold Zp U7 at hl;rw [et,h2,Vp hT,Bool.and_eq_true,List.all_eq_true] at hl;have ho:=hl.2 x hx;rw [f.on x d x0 d0] at ho;exact st x d xu xz d0 ho s1
  ·unfold UK;rw [hT.p,f.o.e x d x0 d0 hd,f.o.e _ d q0 d0 hd];exact s1
 have honF:∀k:Int,Q6 F.groups k=true->k≠0->UT F c k:=fun k hu hz=>by
  rw [hT.usd] at hu;have k0:=(Q5.1 hu).1;have:=hon k hu hz;unfold UT at this ⊢;rw [f.on k c k0 c0,Ti f.o.t hT fun j _ _ _ _=>f.on _ c (by omega) c0,zcr (f.o.b k k0)];exact this
 have hflF:∀k:Int,Q6 F.groups k=true->ZG F k c 20=true->Z6 F k c 20<=(Qb F k c).floor:=fun k hu hB=>by
  rw [hT.usd] at hu;rw [(best k).1] at hB;rw [(best k).2];exact hfl k hu (by have:=(Q5.1 hu).2.1; omega) hB
 split
 ·rename_i hg;have cF:c<(F.cpus.length:Int):=by rw [f.cs]; exact c1'
  have hcp:∀d:Int,0<=d->gi (endW F c).cpus d=if c=d then Xo (gi F.cpus c) else gi F.cpus d:=fun d d0=>Qy _ _ c0 cF d0
  have hlen:(endW F c).cpus.length=F.cpus.length:=List.length_set;refine ⟨⟨pa.endW c0 cF,fun d d0 d1 => ?_⟩,hO.trans (zfj c0 cF),honF,fun h0 => ?_,hflF⟩
  ·rw [hlen] at d1
   by_cases e:c=d
   ·subst e;have hc:=p1.c c c0 c1';have e1:gi (endW F c).cpus c=Xo (gi V.cpus c):=by rw [hcp c c0,if_pos rfl,f.cs]
    have n1:(Xo (gi V.cpus c)).cur = -1:=rfl;exact ⟨by rw [e1]; exact hc.b,by rw [e1]; exact hc.i,by rw [e1,n1]; exact Int.le_refl _,by rw [e1,n1]; decide,fun _=>by rw [e1]; rfl,fun h=>by rw [e1,n1] at h; omega,fun h=>by rw [e1,n1] at h; omega⟩
   ·have hc:=pc d d0 (by rw [<-f.cs]; exact d1) fun h=>absurd h.symm e
    have e1:gi (endW F c).cpus d=gi F.cpus d:=by rw [hcp d d0,if_neg e]
    exact ⟨by rw [e1]; exact hc.b,by rw [e1]; exact hc.i,by rw [e1]; exact hc.c1,by rw [e1]; exact hc.c2,by rw [e1]; exact hc.no,by rw [e1]; exact hc.yes,by rw [e1]; exact hc.q⟩
  ·rw [hcp c c0,if_pos rfl] at h0;have h0:(0:Int)<=-1:=h0;omega
 ·rename_i hg;have hg:Mi F c=false:=by simpa using hg
  refine ⟨⟨pa,fun d d0 d1=>pc d d0 (by rw [<-f.cs]; exact d1) fun _=>hg⟩,hO,honF,fun h0 => ?_,hflF⟩;unfold Mi at hg;rw [decide_eq_true h0,Bool.true_and,Bool.or_eq_false_iff] at hg;exact ⟨by simpa using hg.1,by simpa using hg.2⟩
theorem zf8 {W:Q8} (p:Vu W):∀c:Nat,c<=W.cpus.length->Vu (JB W c)/\(JB W c).cpus.length=W.cpus.length/\(JB W c).tasks=W.tasks/\QR W.groups (JB W c).groups/\∀d:Int,0<=d->d<(c:Int)->Dn (JB W c) d
 | 0,_=>⟨p,rfl,rfl,QR.refl _,fun d a b=>by omega⟩
 | c+1,hc=>by
  obtain ⟨a,e,et,eg,ih⟩:=zf8 p c (by omega);obtain ⟨p1,o,dn⟩:=zon a (c:=(c:Int)) (by omega) (by rw [e]; omega);refine ⟨p1,o.len.trans e,o.t.trans et,eg.trans o.g,fun d d0 d1 => ?_⟩
  by_cases h:d=(c:Int)
  ·subst h; exact dn
  ·exact (ih d d0 (by omega)).oth a o d0 (by rw [e]; omega) h
theorem zlk {K:Int} {W:Q8} (sw:SW K W) (p:Vu W) (hK:0<=K):Vu (Qg W)/\Fr W (Qg W)/\∀d:Int,0<=d->d<(W.cpus.length:Int)->Dn (Qg W) d:=by
 obtain ⟨a,e⟩:=A3 p W.cpus.length (Nat.le_refl _);obtain ⟨s1,_⟩:=O4 (F:=K) (K:=K+Qk) (sw.sf.mono (Int.le_refl _) (by simp only [Qk]; omega)) (Int.le_refl _) W.cpus.length (Nat.le_refl _);obtain ⟨s2,b2⟩:=Tm s1 8 (Nat.le_refl _);have p2:=a.onlyB b2 s2.w.a;have e2:(YN (YG W W.cpus.length) 8).cpus.length=W.cpus.length:=by rw [b2.c,e]
 obtain ⟨p3,e3,_,_,dn⟩:=zf8 p2 W.cpus.length (by rw [e2]; exact Nat.le_refl _);exact ⟨p3,(T7 sw hK).2,dn⟩
theorem zs3 {K:Int} {W:Q8} (sw:SW K W) (hK:K<=100000000000000000) (p:Vu W) (hl:BK W) (dn:∀d:Int,0<=d->d<(W.cpus.length:Int)->Dn W d):Xq W/\zua W:=by
 have tm:∀k c:Int,Q6 W.groups k=true->0<=c->c<(W.cpus.length:Int)->Zx (Qb W k c).floor=true/\Zx (Qb W k c).v=true:=fun k c hu c0 c1=>by
  have:=sw.s k c hu c0 c1;exact ⟨ZV.2 (by omega),ZV.2 (by omega)⟩
 have tv:∀t:Int,0<=t->t<12->Zx (Q7 W t).v=true:=fun t t0 t1=>by
  have:=sw.tv t t0 t1;exact ZV.2 (by omega)
 refine ⟨⟨p.a,fun t t0 t1 => ?_,fun k c k0 k1 c0 c1 => ?_,fun c c0 c1 => ?_⟩,fun k c hu c0 c1 hB=>(dn c c0 c1).fl k hu hB⟩
 ·rcases p.t t t0 t1 with hz | ⟨n,hx⟩
  ·exact .inl hz
  ·obtain ⟨d0,d1⟩:=p.l t t0 t1 n;exact .inr ⟨n,hx.st,hx.g,hx.n,hx.m,hx.m0,tv t t0 t1,hx.s,hx.u,hx.l1,hx.l2,hl t t0 t1 n,fun h1=>(HW (tv t t0 t1) (tm _ _ hx.g d0 d1).1).2 (hx.f h1)⟩
 ·have hgl:=p.a.gl
  have hu:Q6 W.groups k=true:=by
   cases hb:(gi W.groups k).used with
   | true=>exact Q5.2 ⟨k0,by omega,hb⟩
   | false=>
    have:=((p.a.grp k k0 k1).1 hb).l;omega
  have hsl:=p.a.sl hu;have c1:c<(W.cpus.length:Int):=by omega
  have hs:=p.s k c hu c0 c1;have ht:=tm k c hu c0 c1;have hw:=sw.s k c hu c0 c1;exact ⟨ht.1,ht.2,hs.s,hw.2.2.2.2.1,hw.2.2.2.2.2,hs.root,fun hz=>(dn c c0 c1).on k hu hz,fun hz ho=>(HW ht.2 (tm _ c (p.a.up hu hz) c0 c1).1).2 (hs.st hz ho)⟩
 ·have hc:=p.c c c0 c1;have htl:=p.a.t;refine ⟨hc.b,hc.i,hc.c1,by have:=hc.c2; omega,hc.no,fun h0 => ?_⟩;obtain ⟨y1,y2,y3⟩:=hc.yes h0;obtain ⟨z1,z2⟩:=(dn c c0 c1).cu h0
  have hs:(Q7 W (gi W.cpus c).cur).state=1:=by
   unfold Zp at z2;rw [Bool.and_eq_true] at z2;exact eq_of_beq z2.1
  obtain ⟨q1,q2⟩:=hc.q h0 hs z1;refine ⟨y1,y2,y3,z1,z2,?_⟩;unfold OM VF;rw [Bool.and_eq_true,List.all_eq_true];exact ⟨decide_eq_true q1,fun x hx=>decide_eq_true (q2 x hx).2⟩
theorem Yu {α β:Type} [Inhabited α] {f:α->β} (l:List α) (k:Int) {x:α} (h:f x=f (gi l k)) (i:Int):f (gi (l.set k.toNat x) i)=f (gi l i):=by
 unfold gi at *;simp only [List.getD_eq_getElem?_getD,List.getElem?_set] at *
 by_cases e:k.toNat=i.toNat
 ·rw [if_pos e];split
  ·rw [<-e]; simpa using h
  ·rename_i hl;have:l[i.toNat]? = none:=List.getElem?_eq_none_iff.2 (by omega);rw [this]
 ·rw [if_neg e]
structure Vy (W W':Q8):Prop where
 g:QR W.groups W'.groups
 m:∀i:Int,(gi W'.groups i).cpus=(gi W.groups i).cpus
 w:∀i:Int,(gi W'.groups i).weight=(gi W.groups i).weight
 len:W'.cpus.length=W.cpus.length
 u:∀i:Int,(gi W'.cpus i).up=(gi W.cpus i).up
theorem Vy.refl (W:Q8):Vy W W:=⟨QR.refl _,fun _=>rfl,fun _=>rfl,rfl,fun _=>rfl⟩
theorem Vy.trans {A B C:Q8} (h:Vy A B) (k:Vy B C):Vy A C:=⟨h.g.trans k.g,fun i=>(k.m i).trans (h.m i),fun i=>(k.w i).trans (h.w i),k.len.trans h.len,fun i=>(k.u i).trans (h.u i)⟩
theorem zh3 {W:Q8} {g:Int} {x:ZD} (u:x.used=(gi W.groups g).used) (p:x.parent=(gi W.groups g).parent) (n:x.name=(gi W.groups g).name) (m:x.cpus=(gi W.groups g).cpus) (w:x.weight=(gi W.groups g).weight):Vy W (setGr W g x):=
 ⟨⟨List.length_set,fun i=>Yu (f:=ZD.used) _ _ u i,fun i=>Yu (f:=ZD.parent) _ _ p i,fun i=>Yu (f:=ZD.name) _ _ n i⟩,fun i=>Yu (f:=ZD.cpus) _ _ m i,fun i=>Yu (f:=ZD.weight) _ _ w i,rfl,fun _=>rfl⟩
theorem AK (W:Q8) (g c:Int) (s:Mu):Vy W (setSh W g c s):=zh3 rfl rfl rfl rfl rfl
theorem zh2 (W:Q8) (g:Int) (b:Jk):Vy W (setBd W g b):=zh3 rfl rfl rfl rfl rfl
theorem zh5 (W:Q8) (t:Int) (x:Pl):Vy W (setTk W t x):=⟨QR.refl _,fun _=>rfl,fun _=>rfl,rfl,fun _=>rfl⟩
theorem zd3 {W:Q8} {c:Int} {x:OS} (u:x.up=(gi W.cpus c).up):Vy W (setCp W c x):=⟨QR.refl _,fun _=>rfl,fun _=>rfl,List.length_set,fun i=>Yu (f:=OS.up) _ _ u i⟩
theorem KP (W:Q8) (c:Int):Vy W (endW W c):=zd3 rfl
theorem Ew (W:Q8) (c d:Int):∀k:Nat,Vy W (ZN W c d k)
 | 0=>Vy.refl _
 | k+1=>by
  simp only [ZN];split
  ·exact (Ew W c d k).trans (AK _ _ _ _)
  ·exact Ew W c d k
theorem Gv (W:Q8) (c:Int):∀j:Nat,Vy W (XB W c j)
 | 0=>Vy.refl _
 | j+1=>(Gv W c j).trans (Ew _ _ _ _)
theorem AJ (W:Q8):∀c:Nat,Vy W (YG W c)
 | 0=>Vy.refl _
 | c+1=>(AJ W c).trans (Gv (YG W c) (c:Int) 3)
theorem Eu (W:Q8) (k:Int):∀c:Nat,Vy W (Yv W k c)
 | 0=>Vy.refl _
 | c+1=>by
  simp only [Yv];split
  ·exact (Eu W k c).trans (zh2 _ _ _)
  ·exact Eu W k c
theorem Ev (W:Q8):∀k:Nat,Vy W (YN W k)
 | 0=>Vy.refl _
 | k+1=>by
  simp only [YN];split
  ·exact (Ev W k).trans (Eu _ _ _)
  ·exact Ev W k
theorem Gu (W:Q8) (c:Int):∀k:Nat,Vy W (QW W c k)
 | 0=>Vy.refl _
 | k+1=>by
  simp only [QW];split
  ·exact (Gu W c k).trans (AK _ _ _ _)
  ·exact Gu W c k
theorem zlo (W:Q8) (c:Int):Vy W (Vr W c):=by
 have h:=(Gv W c 3).trans (Gu (QJ W c) c 8);unfold Vr;split
 ·exact h.trans (KP _ _)
 ·exact h
theorem zbp (W:Q8):∀c:Nat,Vy W (JB W c)
 | 0=>Vy.refl _
 | c+1=>(zbp W c).trans (zlo (JB W c) (c:Int))
theorem zh4 (W:Q8):Vy W (Qg W):=((AJ W W.cpus.length).trans (Ev (YG W W.cpus.length) 8)).trans (zbp (Lm (YG W W.cpus.length)) W.cpus.length)
theorem Vy.ups {W W':Q8} (h:Vy W W'):J2 W'.cpus=J2 W.cpus:=zd7 h.len fun j _=>h.u j
theorem Vy.pin {W W':Q8} (h:Vy W W') (g u:Int):UU W'.groups g u=UU W.groups g u:=by
 unfold UU;rw [show QU W'.groups g=QU W.groups g from h.g.path 3 g]
 congr 1
 funext s x
 rw [h.m]
theorem Vy.wh {W W':Q8} (h:Vy W W') (g m:Int):Qq W' g m=Qq W g m:=by
 unfold Qq;rw [h.ups,h.pin]
theorem Vy.loc {W W':Q8} (h:Vy W W') (ht:W'.tasks=W.tasks) (hl:BK W):BK W':=fun t t0 t1 n=>by
 rw [XF ht] at n ⊢;rw [h.wh];exact hl t t0 t1 n
theorem AF {K:Int} {W:Q8} (sw:SW K W) (hK:0<=K) (hK2:K+UJ<=100000000000000000) (p:Vu W) (hl:BK W):Xq (Qg W)/\zua (Qg W):=by
 obtain ⟨p1,hf,dn⟩:=zlk sw p hK;exact zs3 (T7 sw hK).1 hK2 p1 ((zh4 W).loc hf.t hl) fun d d0 d1=>dn d d0 (by rw [<-hf.c]; exact d1)
theorem zgq.cong {W W':Q8} {k c:Int} (h:zgq W k c) (e:Qb W' k c=Qb W k c) (ep:k≠0->(Qb W' (gi W'.groups k).parent c).floor=(Qb W (gi W.groups k).parent c).floor):zgq W' k c:=
 ⟨by rw [e]; exact h.s,by rw [e]; exact h.root,fun hz ho=>by
  rw [e] at ho;have:=h.st hz ho;unfold UK at this ⊢;rw [e,ep hz]; exact this⟩
theorem Vu.setTk {W:Q8} (p:Vu W) {t:Int} (t0:0<=t) (t1:t<12) {x:Pl} (hx:x.state=0/\x=VG\/x.state≠0/\GF W x/\0<=x.cpu/\x.cpu<(W.cpus.length:Int))
  (hc:∀c:Int,0<=c->c<(W.cpus.length:Int)->(gi W.cpus c).cur=t->x.state=1->x.cpu=c->x.v - (Qb W x.group c).floor<=Z0 (gi W.cpus c).ran (Qd x.nice)/\∀y∈QU W.groups x.group,UK W y c/\(Qb W y c).v - (Qb W (gi W.groups y).parent c).floor<=Z0 (gi W.cpus c).ran (Qb W y c).w):Vu (setTk W t x):=by
 have hl:=p.a.t;have e:∀i:Int,0<=i->Q7 (Go.Proofs.YtclpmgfpjeaibaaGreat.setTk W t x) i=if t=i then x else Q7 W i:=fun i i0=>Qy _ _ t0 (by omega) i0
 refine ⟨⟨p.a.tk List.length_set,fun i a b => ?_,fun i a b n => ?_,fun k c hu c0 c1 => ?_⟩,fun c c0 c1 => ?_⟩
 ·rw [e i a];split
  ·rcases hx with h | ⟨h1,h2,_⟩
   ·exact .inl h
   ·exact .inr ⟨h1,h2.st,h2.g,h2.n,h2.m,h2.m0,h2.s,h2.u,h2.l1,h2.l2,h2.f⟩
  ·rcases p.t i a b with h | ⟨h1,h2⟩
   ·exact .inl h
   ·exact .inr ⟨h1,h2.st,h2.g,h2.n,h2.m,h2.m0,h2.s,h2.u,h2.l1,h2.l2,h2.f⟩
 ·rw [e i a] at n ⊢;split
  ·rename_i h;rw [if_pos h] at n;rcases hx with h | ⟨_,_,h2⟩
   ·exact absurd h.1 n
   ·exact h2
  ·rename_i h;rw [if_neg h] at n;exact p.l i a b n
 ·exact (p.s k c hu c0 c1).cong rfl fun _=>rfl
 ·have h:=p.c c c0 c1;refine ⟨h.b,h.i,h.c1,h.c2,h.no,h.yes,fun h0 => ?_⟩;rw [e _ h0];split
  ·rename_i he;exact fun h1 h2=>hc c c0 c1 he.symm h1 h2
  ·exact h.q h0
def G8 (p:Nat->Bool):Nat->Int
 | 0 => -1
 | k+1=>if (decide (G8 p k<0)&&p k)=true then (k:Int) else G8 p k
theorem Pu (p:Nat->Bool):∀k:Nat,(G8 p k = -1/\∀j,j<k->p j=false)\/(0<=G8 p k/\G8 p k<(k:Int)/\p (G8 p k).toNat=true/\∀j:Nat,(j:Int)<G8 p k->p j=false)
 | 0=>.inl ⟨rfl,fun j hj=>absurd hj (Nat.not_lt_zero j)⟩
 | k+1=>by
  simp only [G8];rcases Pu p k with ⟨h1,h2⟩ | ⟨h1,h2,h3,h4⟩
  ·cases hp:p k with
   | true=>
    rw [h1,if_pos (by rfl)];exact .inr ⟨by omega,by omega,by simpa using hp,fun j hj=>h2 j (by omega)⟩
   | false=>
    rw [if_neg (by simp),h1];refine .inl ⟨rfl,fun j hj => ?_⟩
    by_cases e:j=k
    ·rw [e]; exact hp
    ·exact h2 j (by omega)
  ·rw [if_neg (by rw [decide_eq_false (by omega:¬G8 p k<0)]; simp)];exact .inr ⟨h1,by omega,h3,h4⟩
theorem zi0 {p:Nat->Bool} {n:Nat} (h:∀j,j<n->p j=false):G8 p n = -1:=by
 rcases Pu p n with ⟨h1,_⟩ | ⟨h1,h2,h3,_⟩
 ·exact h1
 ·rw [h _ (by omega)] at h3; cases h3
theorem ziz {p:Nat->Bool} {n:Nat} {a:Int} (a0:0<=a) (a1:a<(n:Int)) (hp:p a.toNat=true) (hn:∀j:Nat,(j:Int)<a->p j=false):G8 p n=a:=by
 rcases Pu p n with ⟨_,h2⟩ | ⟨h1,h2,h3,h4⟩
 ·rw [h2 _ (by omega)] at hp; cases hp
 ·by_cases l:G8 p n<a
  ·rw [hn _ (by omega)] at h3; cases h3
  ·by_cases g:a<G8 p n
   ·rw [h4 _ (by omega)] at hp; cases hp
   ·omega
def Ov (W:Q8) (j:Nat):Bool:=(Q7 W (j:Int)).state==0
def Vj (W:Q8):Int:=G8 (Ov W) 12
noncomputable def Ou (W:Q8) (g n x:Int):Int:=if Qd n=0\/O1 x=false\/x=0 then 1 else if Q6 W.groups g=false then 2 else if Vj W<0 then 3 else if QG W=false then 10 else 0
def Mh (W:Q8) (g x:Int):Int:=OR W (Qq W g x)
def K2 (W:Q8) (g n x:Int):Pl:=⟨1,g,Mh W g x,n,x,(Qb W g (Mh W g x)).floor,0,0,0⟩
def zmu (W:Q8) (g n x:Int):Q8:=Qg (endW (setTk W (Vj W) (K2 W g n x)) (Mh W g x))
noncomputable def O7 (W:Q8) (bar:Int) (W':Q8) (a:Int):Q8×Int×Int:=if Qz W=false then (PP,-1,1) else if bar≠0 then (W,-1,bar) else (W',a,0)
def Tu (r:Q8×Int×Int) (w:World) (v:Value) (w':World):Prop:=∃n m',v = .tuple #[.agg (Qa r.1 m').toArray,.int .i64 r.2.1,.int .i64 r.2.2]/\Yj n w.heap.size w' r.1 m'/\Q0 [] w w'
structure zte (W:Q8) (g n x:Int):Prop where
 w:Qd n≠0
 m:O1 x=true
 m0:x≠0
 u:Q6 W.groups g=true
 f0:0<=Vj W
 f1:Vj W<12
 f2:(Q7 W (Vj W)).state=0
 r:QG W=true
 sw:SW Qo W
 c0:0<=Mh W g x
 c1:Mh W g x<(W.cpus.length:Int)
 ch:Z4 (Qq W g x) (Mh W g x)=true
 sw2:SW Qo (setTk W (Vj W) (K2 W g n x))
theorem ziy {W:Q8} {g n x:Int} (hW:Qz W=true) (hb:Ou W g n x=0):zte W g n x:=by
 have wp:=Qi.1 hW;unfold Ou at hb
 split at hb
 ·cases hb
 ·rename_i h1
  split at hb
  ·cases hb
  ·rename_i h2
   split at hb
   ·cases hb
   ·rename_i h3
    split at hb
    ·cases hb
    ·rename_i h4;have h4:QG W=true:=by simpa using h4
     have h2:Q6 W.groups g=true:=by simpa using h2
     have sw:=ON wp (Qi.1 h4)
     have hf:0<=Vj W/\Vj W<12/\Ov W (Vj W).toNat=true:=by
      rcases Pu (Ov W) 12 with ⟨a,_⟩ | ⟨a,b,c,_⟩
      ·unfold Vj at h3; omega
      ·exact ⟨a,b,c⟩
     obtain ⟨c0,c1,ch⟩:=KM wp.a g x;have hs:=sw.s g _ h2 c0 c1;have e:(((Vj W).toNat:Nat):Int)=Vj W:=by omega
     refine ⟨fun h=>h1 (.inl h),?_,fun h=>h1 (.inr (.inr h)),h2,hf.1,hf.2.1,?_,h4,sw,c0,c1,ch,sw.setTk hf.1 hf.2.1 (x:=K2 W g n x) (fun _=>⟨h2,c0,c1⟩) hs.1 hs.2.1⟩
     ·cases hm:O1 x with
      | true=>rfl
      | false=>exact absurd (.inr (.inl hm)) h1
     ·have:=hf.2.2;unfold Ov at this;rw [e] at this;exact eq_of_beq this
section
variable {W W':Q8} {m:MW} {w:World} {bar a:Int}
theorem Tu.bad {w':World} (hW:Qz W=false) (hx:Q0 [] w w'):Tu (O7 W bar W' a) w (.tuple #[.agg (Qa PP zqu).toArray,.int .i64 (-1),.int .i64 1]) w':=by
 rw [show O7 W bar W' a=(PP,-1,1) from if_pos hW];exact ⟨0,zqu,rfl,Yj.zero _ _,hx⟩
theorem Tu.no {n:Nat} {bs:List Nat} {w':World} {m':MW} (hW:Qz W=true) (hb:bar≠0) (hk:Wk n bs w w' W m') {c:Int} (hc:bar=c):Tu (O7 W bar W' a) w (.tuple #[.agg (Qa W m').toArray,.int .i64 (-1),.int .i64 c]) w':=by
 rw [show O7 W bar W' a=(W,-1,c) by unfold O7; rw [if_neg (by rw [hW]; decide),if_pos hb,hc]];exact ⟨n,m',rfl,hk.fin⟩
theorem Tu.ok {n:Nat} {bs:List Nat} {w':World} {m':MW} (hW:Qz W=true) (hb:bar=0) (hk:Wk n bs w w' W' m'):Tu (O7 W bar W' a) w (.tuple #[.agg (Qa W' m').toArray,.int .i64 a,.int .i64 0]) w':=by
 rw [show O7 W bar W' a=(W',a,0) by unfold O7; rw [if_neg (by rw [hW]; decide),if_neg (by simpa using hb)]];exact ⟨n,m',rfl,hk.fin⟩
set_option maxHeartbeats 1000000 in
theorem Ml {g n x:Int} (h:Xa [] w W m) (hl:X7 W) :
  Cz YR #[.agg (Qa W m).toArray,.int .i64 g,.int .i64 n,.int .i64 x] w fun e w'=>∃v,e = .returned v/\Tu (O7 W (Ou W g n x) (zmu W g n x) (Vj W)) w v w':=by
 refine FA W.now m.cO W.cpus.length m.cC m.tO W.tasks.length m.tC m.gO W.groups.length m.gC g n x (R:=fun v w'=>Tu (O7 W (Ou W g n x) (zmu W g n x) (Vj W)) w v w') ?_;intro y hy y1 hy1 wr hx2 hs2;refine Calls.mono (Z2 (h.ext hx2) hl) ?_;rintro e wv (⟨hW,he,hy2⟩ | ⟨hW,m',he,hM,hy2⟩)
 ·exact ⟨_,_,_,_,_,_,_,_,_,_,_,he,Qf hy2 hs2,fun _ wr1 hx3=>Tu.bad hW ((hx2.trans hy2).fresh hx3 fun z hm=>.inl (Yp hy hy1 z hm)),fun g=>by simp at g⟩
 have hK:=Wk.begin hy hy1 hx2 hs2 hM hy2;have hr:=hK.rd;have wp:=Qi.1 hW;have htl:=wp.a.t;refine ⟨_,_,_,_,_,_,_,_,_,_,_,he,Qf hy2 hs2,fun g=>by split at g <;> simp at g,fun _=>⟨_,Zz,_,fun _=>YO,fun g1 wr2 hx3 => ?_,fun g1=>⟨_,Yn hr.g,fun g2 wr3 hx3 => ?_,fun g2=>⟨⟨by omega,by omega⟩,?_⟩⟩⟩⟩
 ·have hb:Ou W g n x=1:=by
   unfold Ou;rw [if_pos];simp only [Bool.or_eq_true,beq_iff_eq,Bool.not_eq_true'] at g1;rcases g1 with (g1 | g1) | g1
   ·exact .inl g1
   ·exact .inr (.inl g1)
   ·exact .inr (.inr g1)
  exact Tu.no hW (by rw [hb]; decide) (hK.step hx3) hb
 ·have n1:¬(Qd n=0\/O1 x=false\/x=0):=by
   simp only [Bool.or_eq_false_iff,beq_eq_false_iff_ne,Bool.not_eq_false',ne_eq] at g1;rintro (h | h | h)
   ·exact g1.1.1 h
   ·rw [g1.1.2] at h; cases h
   ·exact g1.2 h
  have hb:Ou W g n x=2:=by unfold Ou; rw [if_neg n1,if_pos (by simpa using g2)]
  exact Tu.no hW (by rw [hb]; decide) (hK.step hx3) hb
 have n1:¬(Qd n=0\/O1 x=false\/x=0):=by
  simp only [Bool.or_eq_false_iff,beq_eq_false_iff_ne,Bool.not_eq_false',ne_eq] at g1;rintro (h | h | h)
  ·exact g1.1.1 h
  ·rw [g1.1.2] at h; cases h
  ·exact g1.2 h
 have hu:Q6 W.groups g=true:=by simpa using g2
 have n2:¬Q6 W.groups g=false:=by rw [hu]; decide
 refine ⟨fun vs w1=>∃a t:Int,vs=[.int .i64 a,.int .i64 t]/\-1<=t/\t<12/\(a = -1/\(∀j:Nat,t<(j:Int)->j<12->Ov W j=false)\/t<a/\a<12/\Ov W a.toNat=true/\∀j:Nat,t<(j:Int)->(j:Int)<a->Ov W j=false)/\Q0 [y,y1] wv w1,
  fun vs _=>(Y3 1 vs+1).toNat,fun w1 hx0 _=>⟨-1,_,rfl,by omega,by omega,.inl ⟨rfl,fun j h1 h2=>by omega⟩,hx0⟩,?_⟩
 rintro av tv wv1 hs3 ⟨a,t,he2,ht0,ht1,hcond,hxw⟩;simp only [List.cons.injEq,Value.int.injEq,true_and,and_true] at he2;obtain ⟨rfl,rfl⟩:=he2;have hK1:=hK.step hxw;have hr1:=hK1.rd;refine ⟨fun hlt => ?_,fun hge => ?_⟩
 ·have hlt:=of_decide_eq_true hlt;have e:((tv.toNat:Nat):Int)=tv:=by omega
  have hst:Ov W tv.toNat=((Q7 W tv).state==0):=by unfold Ov; rw [e]
  refine ⟨hr1.t.ix QE hlt (by omega),_,hr1.t.f hlt (by omega) (j:=0) rfl,fun g3=>⟨⟨by omega,by omega⟩,fun wr5 hx5 _=>⟨⟨tv,tv - 1,rfl,by omega,by omega,.inr ⟨by omega,ht1,by rw [hst]; exact g3,fun j h1 h2=>by omega⟩,hxw.trans hx5⟩,?_⟩⟩,fun g3=>⟨⟨by omega,by omega⟩,fun wr6 hx6 _=>⟨⟨av,tv - 1,rfl,by omega,by omega,?_,hxw.trans hx6⟩,?_⟩⟩⟩
  ·simp only [Y3,List.getElem?_cons_zero,List.getElem?_cons_succ]; omega
  ·have g3:Ov W tv.toNat=false:=by rw [hst]; exact g3
   have one:∀j:Nat,tv - 1<(j:Int)->¬tv<(j:Int)->Ov W j=false:=fun j h1 h2=>by
    have:j=tv.toNat:=by omega
    rw [this]; exact g3
   rcases hcond with ⟨h1,h2⟩ | ⟨h1,h2,h3,h4⟩
   ·exact .inl ⟨h1,fun j j1 j2=>if h:tv<(j:Int) then h2 j h j2 else one j j1 h⟩
   ·exact .inr ⟨by omega,h2,h3,fun j j1 j2=>if h:tv<(j:Int) then h4 j h j2 else one j j1 h⟩
  ·simp only [Y3,List.getElem?_cons_zero,List.getElem?_cons_succ]; omega
 ·have hge:=of_decide_eq_false hge;have ht:tv = -1:=by omega
  subst ht
  have hfree:av=Vj W:=by
   rcases hcond with ⟨h1,h2⟩ | ⟨h1,h2,h3,h4⟩
   ·rw [h1]; exact (zi0 fun j hj=>h2 j (by omega) hj).symm
   ·exact (ziz (by omega) h2 h3 fun j hj=>h4 j (by omega) hj).symm
  subst hfree;refine ⟨fun g4 wr7 hx7 => ?_,fun g4=>⟨fun g5 wr8 hx8 => ?_,fun g5 => ?_⟩⟩
  ·have g4:=of_decide_eq_true g4;have hb:Ou W g n x=3:=by unfold Ou; rw [if_neg n1,if_neg n2,if_pos g4]
   exact Tu.no hW (by rw [hb]; decide) (hK1.step hx7) hb
  ·have g4:=of_decide_eq_false g4;have hr0:¬QG W=true:=fun hr=>by rw [if_pos hr] at g5; simp at g5
   have hb:Ou W g n x=10:=by unfold Ou; rw [if_neg n1,if_neg n2,if_neg g4,if_pos (by simpa using hr0)]
   rw [if_neg hr0];exact Tu.no hW (by rw [hb]; decide) (hK1.step hx8) hb
  have g4:=of_decide_eq_false g4;have hr0:QG W=true:=Decidable.byContradiction fun hr=>by rw [if_neg hr] at g5; simp at g5
  have hb:Ou W g n x=0:=by unfold Ou; rw [if_neg n1,if_neg n2,if_neg g4,if_neg (by rw [hr0]; decide)]
  have hf:=ziy hW hb;obtain ⟨u0,u1,_⟩:=Q5.1 hu;have hsl:=wp.a.sl hu;have c0:=hf.c0;have c1:=hf.c1;have f0:=hf.f0;have f1:=hf.f1;have hset:Wk 8 [y,y1] w (sto wv1 m'.tO (Int.toNat (Vj W)*9) (YQ (K2 W g n x))) (setTk W (Vj W) (K2 W g n x)) m':=hK1.sto (hK1.own.stoT f0 (by rw [htl]; exact f1) (j:=0) (vs:=YQ (K2 W g n x)) (x:=K2 W g n x) (by simp [YQ]) (by simp [YQ])) Lf;refine ⟨_,XA hr1 wp.a.c2 wp.a.tree hu,_,Mm hr1 wp.a (zng wp),hr1.g.ix u0 u1,_,_,_,hr1.g.shelf u0 u1,(hr1.g.shelves g u0 u1).ix ZJ c0 (by rw [hsl]; exact c1),(Qb W g (Mh W g x)).floor,zgn.f (hr1.g.shelves g u0 u1) c0 (by rw [hsl]; exact c1) (j:=0) rfl,hr1.t.ix QE f0 (by rw [htl]; exact f1),zeg hK1.own hK1.nb f0 (by rw [htl]; exact f1) (j:=0) (k:=9) (by decide),fun wr9 hx9 hs9 => ?_⟩;have e5:Qa (setTk W (Vj W) (K2 W g n x)) m'=Qa W m':=Hl _ _ _ _;have hK4:=hset.step hx9;have hcall2:=Zm hK4.own c0 (show Mh W g x<((setTk W (Vj W) (K2 W g n x)).cpus.length:Int) from c1);rw [e5] at hcall2;refine Calls.mono hcall2 ?_;rintro e2 wv2 ⟨he2,hy4⟩;refine ⟨_,_,_,_,_,_,_,_,_,_,he2,hK4.kept hy4 hs9,fun wr10 hx10 hs10 => ?_⟩;have hK7:=(hK4.deed hy4 hs9).step hx10;have hcall3:=Qp hK7.own (hf.sw2.endW c0 c1) (by decide) (by decide) hK7.base;refine Calls.mono hcall3 ?_;rintro e3 wv3 ⟨m2,he3,hy5⟩;exact ⟨_,_,_,_,_,_,_,_,_,_,he3,hK7.kept hy5 hs10,fun wr8 hx8=>Tu.ok hW hb ((hK7.deed hy5 hs10).step hx8)⟩
end
section
variable {base pb:Nat} {W W':Q8} {m:MW} {w:World}
end
structure XK (W:Q8):Prop where
 wp:Xq W
 fl:zua W
theorem Zi {K:Int} {W:Q8} (sw:SW K W) (hK:0<=K) (hK2:K+UJ<=100000000000000000) (p:Vu W) (hl:BK W):XK (Qg W):=by
 obtain ⟨a,b⟩:=AF sw hK hK2 p hl;exact ⟨a,b⟩
theorem BK.endW {W:Q8} (h:BK W) (c:Int):BK (endW W c):=(KP W c).loc rfl h
theorem BK.setTk {W:Q8} (h:BK W) (ha:WA W) {t:Int} (t0:0<=t) (t1:t<12) {x:Pl} (hx:x.state≠0->Z4 (Qq W x.group x.mask) x.cpu=true):BK (setTk W t x):=fun i i0 i1 n=>by
 have hl:=ha.t;have e:Q7 (Go.Proofs.YtclpmgfpjeaibaaGreat.setTk W t x) i=if t=i then x else Q7 W i:=Qy _ _ t0 (by omega) i0;rw [e] at n ⊢;rw [(zh5 W t x).wh]
 split at n
 ·rename_i he;rw [if_pos he]; exact hx n
 ·rename_i he;rw [if_neg he]; exact h i i0 i1 n
theorem zpp (W:Q8) (t c:Int) (x:Pl):endW (setTk W t x) c=setTk (endW W c) t x:=rfl
theorem Te {W:Q8} (p:Vu W) {t:Int} (t0:0<=t) (t1:t<12) (n:(Q7 W t).state≠0):GF W (Q7 W t):=by
 rcases p.t t t0 t1 with h | h
 ·exact absurd h.1 n
 ·exact h.2
theorem zkr {W:Q8} {t:Int} (hW:Qz W=true) (hb:VJ W t=0):XK (zgu W t):=by
 have wp:=Qi.1 hW;obtain ⟨h1,h2,sw,sw2⟩:=zek hW hb;obtain ⟨t0,t1,n⟩:=Yy h1;have hl:=wp.a.t;have p:=X3 wp;have h:=Te p t0 (by omega) n;have hloc:=U0 wp;refine Zi sw2 (by decide) (by decide) (p.setTk t0 (by omega) (.inr ⟨by show (2:Int)≠0; decide,⟨.inr rfl,h.g,h.n,h.m,h.m0,h.s,h.u,h.l1,h.l2,fun h=>by cases h⟩,p.l t t0 (by omega) n⟩) fun c c0 c1 _ hs _=>by cases hs) (hloc.setTk wp.a t0 (by omega) fun _=>hloc t t0 (by omega) n)
theorem zm4 {W:Q8} {t:Int} (hW:Qz W=true) (hb:TR W t=0):XK (Ny W t):=by
 have wp:=Qi.1 hW;obtain ⟨h1,_,sw,_,sw2⟩:=zc0 hW hb;obtain ⟨t0,t1,n⟩:=Yy h1;have hl:=wp.a.t;have p:=X3 wp;obtain ⟨c0,c1⟩:=p.l t t0 (by omega) n
 have key:Vu (QQ W t)/\BK (QQ W t):=by
  unfold QQ;split
  ·exact ⟨p.endW c0 c1,(U0 wp).endW _⟩
  ·exact ⟨p,U0 wp⟩
 exact Zi sw2 (by decide) (by decide) (key.1.setTk t0 (by omega) (.inl ⟨rfl,rfl⟩) fun c c0 c1 _ hs _=>by cases hs) (key.2.setTk key.1.a t0 (by omega) fun h=>absurd rfl h)
theorem BD {W:Q8} (p:Vu W) {t c:Int} (t0:0<=t) (t1:t<12) {x:Pl} (n:x.state≠0) (hx:GF W x) (hc:x.cpu=c) (c0:0<=c) (c1:c<(W.cpus.length:Int)):Vu (endW (setTk W t x) c):=by
 rw [zpp];have hl:(endW W c).cpus.length=W.cpus.length:=List.length_set;refine (p.endW c0 c1).setTk t0 t1 (.inr ⟨n,⟨hx.st,hx.g,hx.n,hx.m,hx.m0,hx.s,hx.u,hx.l1,hx.l2,hx.f⟩,by rw [hl,hc]; exact ⟨c0,c1⟩⟩) fun d d0 d1 hcur _ hd => ?_
 rw [hc] at hd;subst hd;have e1:gi (endW W c).cpus c=Xo (gi W.cpus c):=(Qy _ _ c0 c1 c0).trans (if_pos rfl);rw [e1] at hcur;have hcur:(-1:Int)=t:=hcur;omega
theorem zso (f v w:Int):f<=f+X1 (v - f) w/\f+X1 (v - f) w - f<=Zn w:=by
 have:=ZP (v - f) w;omega
theorem zm6 {W:Q8} {t n:Int} (hW:Qz W=true) (hb:OH W t n=0):XK (Lx W t n):=by
 have wp:=Qi.1 hW;have hq:=zjg hW hb;obtain ⟨t0,t1,tn⟩:=Yy hq.th;have hl:=wp.a.t;have p:=X3 wp;have hw:Qd n≠0:=fun h=>by unfold OH at hb; rw [if_pos h] at hb; cases hb
 have h:=Te p t0 (by omega) tn;obtain ⟨c0,c1⟩:=p.l t t0 (by omega) tn;have hloc:=U0 wp;have hL:BK (setTk W t (XD W t n)):=hloc.setTk wp.a t0 (by omega) fun _=>hloc t t0 (by omega) tn
 have hT:GF W (XD W t n):=⟨h.st,h.g,hw,h.m,h.m0,h.s,h.u,h.l1,h.l2,fun hs=>by
  have hs:(Q7 W t).state=1:=hs;rw [zjf hs];exact zso _ _ _⟩
 have hK:K1+UJ<=100000000000000000:=by simp only [K1,Qk,UJ]; decide
 have hK0:0<=K1:=by simp only [K1,Qk]; decide
 unfold Lx;split
 ·rename_i hs
  have hlv:QQ (setTk W t (XD W t n)) t=if (gi W.cpus (Q7 W t).cpu).cur=t then endW (setTk W t (XD W t n)) (Q7 W t).cpu else setTk W t (XD W t n):=by
   unfold QQ;rw [EC t0 t1]; rfl
  have s2:=hq.s2;rw [hlv] at s2 ⊢;split
  ·rename_i hcur;rw [if_pos hcur] at s2;exact Zi s2 hK0 hK (BD p t0 (by omega) tn hT rfl c0 c1) (hL.endW _)
  ·rename_i hcur;rw [if_neg hcur] at s2;refine Zi s2 hK0 hK (p.setTk t0 (by omega) (.inr ⟨tn,hT,c0,c1⟩) fun d d0 d1 hd _ hx => ?_) hL;have hx:(Q7 W t).cpu=d:=hx;rw [hx] at hcur;exact absurd hd hcur
 ·rename_i hs;exact Zi hq.s1 hK0 hK (p.setTk t0 (by omega) (.inr ⟨tn,hT,c0,c1⟩) fun d d0 d1 hd hx _=>absurd hx hs) hL
theorem zm8 {W:Q8} {t:Int} (hW:Qz W=true) (hb:PN W t=0):XK (AT W t):=by
 have wp:=Qi.1 hW;obtain ⟨h1,h2,_,sf,c0,c1⟩:=zj3 hW hb;obtain ⟨t0,t1,tn⟩:=Yy h1;have hl:=wp.a.t;have p:=X3 wp;have h:=Te p t0 (by omega) tn;have hloc:=U0 wp
 have hT:GF W (Vt W t (OP W t)):=⟨.inl rfl,h.g,h.n,h.m,h.m0,h.s,h.u,h.l1,h.l2,fun _=>by
  have:=ZP ((Q7 W t).v - (Qb W (Q7 W t).group (Q7 W t).cpu).floor) (Qd (Q7 W t).nice);show (Qb W (Q7 W t).group (OP W t)).floor<=(Qb W (Q7 W t).group (OP W t)).floor+DZ W t/\(Qb W (Q7 W t).group (OP W t)).floor+DZ W t - (Qb W (Q7 W t).group (OP W t)).floor<=Zn (Qd (Q7 W t).nice);unfold DZ;exact ⟨by omega,by omega⟩⟩
 have hwh:Z4 (Qq W (Q7 W t).group (Q7 W t).mask) (OP W t)=true:=by
  unfold OP;split
  ·exact (KM wp.a _ _).2.2
  ·exact hloc t t0 (by omega) tn
 exact Zi ((zeb sf t0 t1 tn c0 c1).endW c0 c1).w (by simp only [Qk]; decide) (by simp only [Qk,UJ]; decide) (BD p t0 (by omega) (show (1:Int)≠0 by decide) hT rfl c0 c1) ((hloc.setTk wp.a t0 (by omega) (x:=Vt W t (OP W t)) fun _=>hwh).endW _)
def H6 (l u:Int):Int:=if Yh l 0 8000000=true/\Yh u 0 1000000=true then l - Int.tdiv l 8+u else 0
def CB (x:Pl):Pl:={ x with used:=0,load:=ZU (H6 x.load (ZU x.used 1000000)) 8000000 }
def Tx (W:Q8):Nat->Q8
 | 0=>W
 | t+1=>setTk (Tx W t) (t:Int) (CB (Q7 (Tx W t) (t:Int)))
def Ke (next p now:Int):Nat->Int
 | 0=>next
 | i+1=>if Ke next p now i<=now+((i:Int)+1) then Ke next p now i+p else Ke next p now i
structure zl3 (next p now v:Int):Prop where
 gt:now<v
 at':∃j:Nat,v=next+p*(j:Int)/\(j=0\/v - p<=now)
theorem Gh {next p now:Int} (hp:1<=p) (hn:now<next):∀i:Nat,zl3 next p (now+(i:Int)) (Ke next p now i)
 | 0=>⟨by simp only [Ke]; omega,0,by simp only [Ke]; omega,.inl rfl⟩
 | i+1=>by
  obtain ⟨h1,j,h2,h3⟩:=Gh hp hn i;simp only [Ke]
  push_cast
  split
  ·refine ⟨by omega,j+1,?_,.inr (by omega)⟩;rw [h2]; push_cast; rw [Int.mul_add,Int.mul_one,Int.add_assoc]
  ·exact ⟨by omega,j,h2,h3.imp id fun h=>by omega⟩
theorem zp9 {next p now v v':Int} (hp:1<=p) (h:zl3 next p now v) (h':zl3 next p now v'):v=v':=by
 obtain ⟨h1,j,h2,h3⟩:=h;obtain ⟨k1,k,k2,k3⟩:=h'
 have key:∀a b:Nat,a<b->p*(a:Int)+p<=p*(b:Int):=fun a b hab=>by
  have:p*((a:Int)+1)<=p*(b:Int):=Int.mul_le_mul_of_nonneg_left (by omega) (by omega);rw [Int.mul_add,Int.mul_one] at this;exact this
 rcases Nat.lt_trichotomy j k with h | h | h
 ·have:=key j k h; omega
 ·subst h; omega
 ·have:=key k j h; omega
def Xi (now:Int) (n:Nat) (G:ZD):ZD:=if (G.used&&(G.band.quota != 0))=true/\G.next<=now+(n:Int) then { G with next:=Ke G.next G.period now n,band:=JP G.band } else G
theorem zho {now:Int} {G:ZD} (h:G.band.quota≠0->now<G.next):Xi now 0 G=G:=by
 unfold Xi;rw [if_neg];rintro ⟨h1,h2⟩;simp only [Bool.and_eq_true,bne_iff_ne,ne_eq] at h1;have:=h h1.2;simp at h2;omega
def Vo (W:Q8) (n:Nat):Nat->Q8
 | 0=>{ W with now:=W.now+(n:Int) }
 | k+1=>setGr (Vo W n k) (k:Int) (Xi W.now n (gi W.groups (k:Int)))
def ZA (W:Q8) (n:Nat):Q8:=Vo W n 8
noncomputable def Kr (W:Q8) (n:Int):Int:=if Yh n 1 1000=false then 1 else if QG W=false then 10 else 0
def zgf (W:Q8) (n:Int):Q8:=Qg (Tx (ZA W n.toNat) 12)
theorem KK (now:Int) (n:Nat) (G:ZD):(Xi now n G).used=G.used/\(Xi now n G).parent=G.parent/\(Xi now n G).name=G.name/\(Xi now n G).shelves=G.shelves/\(Xi now n G).weight=G.weight/\(Xi now n G).cpus=G.cpus/\(Xi now n G).sum=G.sum/\(Xi now n G).period=G.period/\(Xi now n G).band.quota=G.band.quota:=by
 unfold Xi; split <;> exact ⟨rfl,rfl,rfl,rfl,rfl,rfl,rfl,rfl,rfl⟩
theorem T4 (W:Q8) (n:Nat):∀k:Nat,(Vo W n k).groups.length=W.groups.length/\(Vo W n k).now=W.now+(n:Int)/\(Vo W n k).cpus=W.cpus/\(Vo W n k).tasks=W.tasks
 | 0=>⟨rfl,rfl,rfl,rfl⟩
 | k+1=>by
  obtain ⟨a,b,c,d⟩:=T4 W n k;exact ⟨by show (List.set _ _ _).length=_; rw [List.length_set]; exact a,b,c,d⟩
theorem PI (W:Q8) (n:Nat):∀k:Nat,k<=W.groups.length->∀i:Int,0<=i->gi (Vo W n k).groups i=if i<(k:Int) then Xi W.now n (gi W.groups i) else gi W.groups i
 | 0,_,i,i0=>by rw [if_neg (by omega)]; rfl
 | k+1,hk,i,i0=>by
  have ih:=PI W n k (by omega) i i0;have hl:=(T4 W n k).1;show gi (setGr (Vo W n k) (k:Int) _).groups i=_;rw [Yf (by omega) (by omega) i0]
  by_cases e:(k:Int)=i
  ·subst e;rw [if_pos rfl,if_pos (by omega)]
  ·rw [if_neg e,ih]
   by_cases h:i<(k:Int)
   ·rw [if_pos h,if_pos (by omega)]
   ·rw [if_neg h,if_neg (by omega)]
theorem zit (W:Q8):∀k:Nat,(Tx W k).groups=W.groups/\(Tx W k).now=W.now/\(Tx W k).cpus=W.cpus/\(Tx W k).tasks.length=W.tasks.length
 | 0=>⟨rfl,rfl,rfl,rfl⟩
 | k+1=>by
  obtain ⟨a,b,c,d⟩:=zit W k;exact ⟨a,b,c,by show (List.set _ _ _).length=_; rw [List.length_set]; exact d⟩
theorem ziu {K:Int} {W:Q8} (h:SW K W):∀k:Nat,k<=12->SW K (Tx W k)
 | 0,_=>h
 | k+1,hk=>by
  have ih:=ziu h k (by omega);have hv:=ih.tv (k:Int) (by omega) (by omega);exact ih.setTk (by omega) (by omega) (x:=CB (Q7 (Tx W k) (k:Int))) (fun hs=>ih.t (k:Int) (by omega) (by omega) hs) hv.1 hv.2
theorem zew {b:Jk} (h:Vx b):Vx (JP b)/\(JP b).locals.length=b.locals.length:=by
 have hd:=h.dl;refine ⟨⟨h.q1,h.q2,by simp only [JP,List.length_replicate]; have:=h.l1; omega,by simp only [JP,List.length_replicate]; have:=h.l2; omega,by simp [JP],by simp only [JP]; have:=h.q1; omega,Int.le_refl _,by simp [JP],by simp only [JP]; have:=h.q1; omega,fun c c0 c1 => ?_,?_⟩,by simp [JP,hd]⟩
 ·simp only [JP,List.length_replicate] at c1 ⊢;rw [TH _ _ c0 c1,TH _ _ c0 c1];have:=h.q1;exact ⟨Int.le_refl _,by omega,fun h=>by cases h⟩
 ·simp only [JP,List.length_replicate];rw [Ey _ _ (Nat.le_refl _)]; omega
theorem zn1 {W W':Q8} {n:Nat} {k:Int} {G:ZD} (hg:zgp W k G) (hu:G.used=true) (hn:W'.now=W.now+(n:Int)) (hc:W'.cpus.length=W.cpus.length):zgp W' k (Xi W.now n G):=by
 obtain ⟨_,_,_,u4,u5,u6,u7,u8,u9⟩:=KK W.now n G;refine ⟨by rw [u5]; exact hg.w1,by rw [u5]; exact hg.w2,by rw [u6]; exact hg.m,by rw [u6]; exact hg.m0,by rw [u7]; exact hg.s,by rw [u4,hc]; exact hg.len,fun h=>by rw [u5,u6,u9]; exact hg.root h,fun hq => ?_,fun hq => ?_⟩
 ·rw [u9] at hq
  have:Xi W.now n G=G:=by
   unfold Xi;rw [if_neg];rintro ⟨h1,_⟩;simp only [Bool.and_eq_true,bne_iff_ne,ne_eq] at h1;exact h1.2 hq
  rw [this];exact hg.none hq
 ·rw [u9] at hq;obtain ⟨b1,b2,b3,b4,b5,b6⟩:=hg.band hq;rw [hn,hc];unfold Xi;split
  ·obtain ⟨f1,f2⟩:=zew b1;have hj:=Gh b3 b5 n;refine ⟨f1,by show (JP G.band).locals.length=_; rw [f2]; exact b2,b3,b4,hj.gt,?_⟩;obtain ⟨h1,j,h2,h3⟩:=hj;show Ke G.next G.period W.now n - (W.now+(n:Int))<=G.period;rcases h3 with rfl | h3
   ·simp at h2; omega
   ·omega
  ·rename_i hcnd;have hlt:W.now+(n:Int)<G.next:=Int.not_le.1 fun hle=>hcnd ⟨by rw [hu]; simpa using hq,hle⟩
   exact ⟨b1,b2,b3,b4,hlt,by omega⟩
theorem Gq (W:Q8) (n:Nat):∀k:Nat,k<=W.groups.length->QR W.groups (Vo W n k).groups
 | 0,_=>QR.refl _
 | k+1,hk=>by
  have ih:=Gq W n k (by omega);have hl:=(T4 W n k).1;have e:=PI W n k (by omega) (k:Int) (by omega);rw [if_neg (by omega)] at e;obtain ⟨u1,u2,u3,_⟩:=KK W.now n (gi W.groups (k:Int));exact ih.trans (J9 (W:=Vo W n k) (g:=(k:Int)) (x:=Xi W.now n (gi W.groups (k:Int))) (by omega) (by omega) (by rw [u1,e]) (by rw [u2,e]) (by rw [u3,e]))
theorem zn2 {K:Int} {W:Q8} {n:Nat} (h:SW K W) (h1:W.now+(n:Int)<=100000000000000000):SW K (ZA W n):=by
 have hl:=h.a.gl;have hT:=Gq W n 8 (by omega);obtain ⟨l1,l2,l3,l4⟩:=T4 W n 8
 have e:∀i:Int,0<=i->i<8->gi (ZA W n).groups i=Xi W.now n (gi W.groups i):=fun i a b=>by
  have:=PI W n 8 (by omega) i a
  rwa [if_pos (show i<((8:Nat):Int) by omega)] at this
 have n1:=h.a.n1;have et:∀t:Int,Q7 (ZA W n) t=Q7 W t:=fun t=>by unfold Q7; rw [show (ZA W n).tasks=W.tasks from l4]
 have ec:(ZA W n).cpus=W.cpus:=l3;have hT:QR W.groups (ZA W n).groups:=hT;refine ⟨⟨by rw [show (ZA W n).now=_ from l2]; omega,by rw [show (ZA W n).now=_ from l2]; exact h1,by rw [ec]; exact h.a.c1,by rw [ec]; exact h.a.c2,by rw [show (ZA W n).tasks=W.tasks from l4]; exact h.a.t,hT.tree h.a.tree,by rw [ec]; exact h.a.ups,fun k a b => ?_⟩,fun t a b hs => ?_,fun t a b => ?_,fun k c u a b => ?_,fun c a b => ?_⟩
 ·have hg:=h.a.grp k a b;obtain ⟨u1,u2,u3,u4,u5,u6,u7,u8,u9⟩:=KK W.now n (gi W.groups k);unfold P5;rw [e k a b];refine ⟨fun hu => ?_,fun hu => ?_⟩
  ·rw [u1] at hu
   have:Xi W.now n (gi W.groups k)=gi W.groups k:=by
    unfold Xi;rw [if_neg];rintro ⟨h1,_⟩;rw [hu] at h1;cases h1
   rw [this];exact hg.1 hu
  ·rw [u1] at hu;exact zn1 (hg.2 hu) hu l2 (by rw [ec])
 ·rw [et] at hs ⊢;rw [hT.usd,ec];exact h.t t a b hs
 ·rw [et]; exact h.tv t a b
 ·rw [hT.usd] at u;rw [ec] at b;have hk:=Q5.1 u
  have:Qb (ZA W n) k c=Qb W k c:=by
   unfold Qb;rw [e k hk.1 (by omega),(KK W.now n (gi W.groups k)).2.2.2.1]
  rw [this];exact h.s k c u a b
 ·rw [ec] at b ⊢;exact h.cu c a b
theorem zsy {W:Q8} (ha:WA W):ZA W 0=W:=by
 have hl:=ha.gl;obtain ⟨l1,l2,l3,l4⟩:=T4 W 0 8
 have hg:(ZA W 0).groups=W.groups:=zmw l1 fun k hk=>by
  have hk8:k<8:=by have:(ZA W 0).groups.length=W.groups.length:=l1; omega
  have:=PI W 0 8 (by omega) (k:Int) (by omega);rw [if_pos (by omega)] at this;refine this.trans (zho fun hq => ?_);have hgp:=ha.grp (k:Int) (by omega) (by omega)
  cases hu:(gi W.groups (k:Int)).used with
  | true=>exact ((hgp.2 hu).band hq).2.2.2.2.1
  | false=>
   have:=(hgp.1 hu).b;exact absurd (by unfold T3 at this; simp only [Bool.and_eq_true,beq_iff_eq] at this; exact this.1.1.1.1) hq
 have h2:(ZA W 0).now=W.now:=by rw [show (ZA W 0).now=_ from l2]; simp
 have h3:(ZA W 0).cpus=W.cpus:=l3;have h4:(ZA W 0).tasks=W.tasks:=l4;generalize ZA W 0=V at hg h2 h3 h4;cases V;cases W;simp only at hg h2 h3 h4;subst hg; subst h2; subst h3; subst h4;rfl
theorem zjz {W:Q8} {n:Int} (hW:Qz W=true) (hb:Kr W n=0):Yh n 1 1000=true/\QG W=true/\SW Qo W/\W.now<=Qo/\SW Qo (ZA W n.toNat)/\SW Qo (Tx (ZA W n.toNat) 12):=by
 have wp:=Qi.1 hW;unfold Kr at hb
 split at hb
 ·cases hb
 ·rename_i h1
  split at hb
  ·cases hb
  ·rename_i h3;have h1:Yh n 1 1000=true:=by simpa using h1
   have h3:QG W=true:=by simpa using h3
   have hr:=Qi.1 h3;have sw:=ON wp hr;have hn:=hr.n;have hi:=Qn.1 h1;have hh:Qo=50000000000000000:=rfl;have s1:=zn2 (n:=n.toNat) sw (by omega);exact ⟨h1,h3,sw,hn,s1,ziu s1 12 (Nat.le_refl _)⟩
section
variable {W W':Q8} {m:MW} {w:World} {bar:Int}
theorem zph {l u:Int} (h1:Yh l 0 8000000=true) (h2:Yh u 0 1000000=true):0<=Int.tdiv l 8/\Int.tdiv l 8<=l:=by
 have:=Qn.1 h1;rw [Int.tdiv_eq_ediv_of_nonneg this.1];omega
theorem DR {bs:List Nat} {l u:Int}:PX bs V7 #[.int .i64 l,.int .i64 u] w (.int .i64 (H6 l u)):=
 Eg l u fun wr hx=>⟨_,Qh,_,fun _=>Qh,fun g=>(by
  unfold H6;rw [if_neg];rintro ⟨h1,h2⟩;rw [h1,h2] at g
  cases g),fun g=>by
  have h1:Yh l 0 8000000=true:=by cases h:Yh l 0 8000000 <;> simp_all
  have h2:Yh u 0 1000000=true:=by cases h:Yh u 0 1000000 <;> simp_all
  have hb:=zph h1 h2;have i1:=Qn.1 h1;have i2:=Qn.1 h2;refine ⟨⟨by decide,by omega,by omega⟩,⟨by omega,by omega⟩,⟨by omega,by omega⟩,?_⟩;unfold H6;rw [if_pos ⟨h1,h2⟩]⟩
theorem zh0 {W:Q8} {k:Int} (h0:0<=k) (h1:k<(W.groups.length:Int)):setGr W k (gi W.groups k)=W:=by
 unfold setGr;rw [zf2 h0 h1]
set_option maxHeartbeats 1000000 in
theorem FW {n:Int} (h:Xa [] w W m) (hl:X7 W) :
  Cz VS #[.agg (Qa W m).toArray,.int .i64 n] w fun e w'=>∃v,e = .returned v/\QD (Xn W (Kr W n) (zgf W n)) w v w':=by
 refine FF W.now m.cO W.cpus.length m.cC m.tO W.tasks.length m.tC m.gO W.groups.length m.gC n (R:=fun v w'=>QD (Xn W (Kr W n) (zgf W n)) w v w') ?_;intro x hx x1 hx1 wr hx2 hs2;refine Calls.mono (Z2 (h.ext hx2) hl) ?_;rintro e wv (⟨hW,he,hy⟩ | ⟨hW,m',he,hM,hy⟩)
 ·exact ⟨_,_,_,_,_,_,_,_,_,_,_,he,Qf hy hs2,false,fun g=>by simp at g,fun _ wr1 hx3=>QD.bad hW ((hx2.trans hy).fresh hx3 fun y hm=>.inl (Yp hx hx1 y hm)),fun g=>by simp at g⟩
 have hK:=Wk.begin hx hx1 hx2 hs2 hM hy;have hc1:((if QG W=true then 0 else 10:Int)==1)=false:=by split <;> rfl
 refine ⟨_,_,_,_,_,_,_,_,_,_,_,he,Qf hy hs2,_,fun _=>Qh,fun g wr1 hx3 => ?_,fun g=>⟨fun g3 wr2 hx3 => ?_,fun g3 => ?_⟩⟩
 ·rw [hc1] at g;have g:Yh n 1 1000=false:=by simpa using g
  have hb:Kr W n=1:=by unfold Kr; rw [if_pos g]
  exact QD.no hW (by rw [hb]; decide) (hK.step hx3) hb
 ·rw [hc1] at g;have g:Yh n 1 1000=true:=by simpa using g
  have hr0:¬QG W=true:=fun hr=>by rw [if_pos hr] at g3; simp at g3
  have hb:Kr W n=10:=by unfold Kr; rw [if_neg (by rw [g]; decide),if_pos (by simpa using hr0)]
  rw [if_neg hr0];exact QD.no hW (by rw [hb]; decide) (hK.step hx3) hb
 rw [hc1] at g;have g:Yh n 1 1000=true:=by simpa using g
 have hr0:QG W=true:=Decidable.byContradiction fun hr=>by rw [if_neg hr] at g3; simp at g3
 have hb:Kr W n=0:=by unfold Kr; rw [if_neg (by rw [g]; decide),if_neg (by rw [hr0]; decide)]
 obtain ⟨_,_,sw,hnow,sp,sd⟩:=zjz hW hb;have hn:=Qn.1 g;obtain ⟨N,rfl⟩:=Int.eq_ofNat_of_zero_le (show 0<=n by omega);have hE:zgf W (N:Int)=Qg (Tx (ZA W N) 12):=by unfold zgf; rw [Int.toNat_natCast]
 rw [Int.toNat_natCast] at sp sd;rw [hE];have hgl:=sw.a.gl;have htl:=sw.a.t;have hn1:=sw.a.n1;have hh:Qo=50000000000000000:=rfl;refine ⟨⟨by omega,by omega⟩,?_⟩;refine OF W.groups.length 0 rfl (fun k w2=>k<=8/\∃m2,Wk 8 [x,x1] w w2 (Vo W N k) m2/\m2={ m' with ms:=m2.ms }) (fun w2 hx3 _=>⟨by decide,m',(show Wk 8 [x,x1] w wv (Vo W N 0) m' from ⟨hK.s,⟨⟨hK.own.c,hK.own.t,hK.own.g,hK.own.len⟩,hK.nb⟩⟩).step hx3,rfl⟩) fun k w2 hs3 ⟨hk8,m2,hK2,hd2⟩ => ?_
 obtain ⟨l1,l2,l3,l4⟩:=T4 W N k;have eG:=PI W N k (by omega) (k:Int) (by omega);rw [if_neg (by omega)] at eG;have hdef:Vo W N (k+1)=setGr (Vo W N k) (k:Int) (Xi W.now N (gi W.groups (k:Int))):=rfl;have hend:k=8->ZA W N=Vo W N k:=fun e=>by rw [e]; rfl
 have hself:(k:Int)<(W.groups.length:Int)->setGr (Vo W N k) (k:Int) (gi W.groups (k:Int))=Vo W N k:=fun hlt=>by
  have:=zh0 (W:=Vo W N k) (k:=(k:Int)) (by omega) (by omega)
  rwa [eG] at this
 have emg:m2.gO=m'.gO:=by rw [hd2]
 have emc:m2.gC=m'.gC:=by rw [hd2]
 refine ⟨fun hlt => ?_,fun hge => ?_⟩
 ·have hlt:=of_decide_eq_true hlt;generalize Vo W N k=V at hK2 l1 l2 l3 l4 eG hdef hend hself;have hr:=hK2.rd;have hltV:(k:Int)<(V.groups.length:Int):=by omega
  have hix:Ix m'.gO W.groups.length (k:Int):=by have:=hr.g.ix (i:=(k:Int)) (by omega) hltV; rwa [l1,emg] at this
  have hcs:=hr.g.cells (k:Int) (by omega) hltV;rw [eG,emg] at hcs;refine ⟨hix,_,_,_,_,_,_,_,_,_,_,_,_,_,_,_,_,_,_,_,_,hcs,fun b2 hb2=>⟨fun g4=>⟨⟨by omega,by omega⟩,fun w3 hx3 _=>QY (by omega) ⟨by omega,m2,?_,hd2⟩⟩,fun g4 wr5 hx5 hs5 => ?_⟩⟩
  ·have:Xi W.now N (gi W.groups (k:Int))=gi W.groups (k:Int):=by
    unfold Xi;rw [if_neg];rintro ⟨a,b⟩;simp only [Bool.or_eq_true,Bool.not_eq_true',beq_iff_eq,decide_eq_true_eq] at g4;simp only [Bool.and_eq_true,bne_iff_ne,ne_eq] at a;rcases g4 with (h1 | h1) | h1
    ·rw [a.1] at h1; cases h1
    ·exact a.2 h1
    ·omega
   rw [hdef,this,hself hlt];exact hK2.step hx3
  ·simp only [Bool.or_eq_false_iff,Bool.not_eq_false',beq_eq_false_iff_ne,ne_eq,decide_eq_false_iff_not] at g4;obtain ⟨⟨hu,hq⟩,hdue⟩:=g4;have hgu:=(sw.a.grp (k:Int) (by omega) (by omega)).2 hu;obtain ⟨hbd,hbl,hp1,hp2,hnx,hnp⟩:=hgu.band hq
   have hP:Xi W.now N (gi W.groups (k:Int))={ gi W.groups (k:Int) with next:=Ke (gi W.groups (k:Int)).next (gi W.groups (k:Int)).period W.now N,band:=JP (gi W.groups (k:Int)).band }:=by
    unfold Xi;rw [if_pos ⟨by rw [hu]; simpa using hq,by omega⟩]
   have hJ:=Gh hp1 hnx N;have hK3:=(hK2.add hb2).step (hx5.mono fun y hy=>List.mem_append_left _ hy);have hr5:=hK3.o.rd0;have hLo:=hr5.g.locals (k:Int) (by omega) hltV;have hDo:=hr5.g.dry (k:Int) (by omega) hltV;rw [eG] at hLo hDo;refine Calls.mono (J5 (op:=⟨4,0,0⟩) hbd hLo hDo) ?_;rintro e wv2 ⟨pb,he,hO,hy2⟩;have hbdE:YB (gi W.groups (k:Int)).band ⟨4,0,0⟩=(JP (gi W.groups (k:Int)).band,0):=by unfold YB; rw [if_pos rfl]
   rw [hbdE] at he hO
   dsimp only at he hO
   refine ⟨_,_,_,_,_,_,_,_,_,_,he,Qf hy2 hs5,fun b3 hb3 => ?_⟩;have hK4:=(hK3.call0 hy2).add hb3
   have hOb:∀y∈ZI pb,y∉QL 8 m2/\y∉[x,x1]++[b2]++[b3]:=fun y hy=>by
    have:=hO.lt y hy;refine ⟨fun hm=>by have:=(hK3.own.lt y hm).2; omega,fun hm => ?_⟩;rcases List.mem_append.1 hm with h1 | h1
    ·have:=hs5 y h1; omega
    ·have:y=b3:=by simpa using h1
     omega
   have hO4:QV w.heap.size wv2 (JP (gi W.groups (k:Int)).band) pb:=hO.mono hK3.base;refine ⟨fun vs w'=>∃v:Int,vs=Yr { gi W.groups (k:Int) with next:=v,band:=JP (gi W.groups (k:Int)).band } (OL (m2.ms k) pb)/\(∃j:Nat,v=(gi W.groups (k:Int)).next+(gi W.groups (k:Int)).period*(j:Int)/\(j=0\/v - (gi W.groups (k:Int)).period<=W.now+(N:Int)))/\0<=v/\Wk 8 ([x,x1]++[b2]++[b3]) w w' V m2/\QV w.heap.size w' (JP (gi W.groups (k:Int)).band) pb,fun vs _=>(W.now+(N:Int)+1 - Y3 6 vs).toNat,fun wr7 hx7 hs7=>⟨(gi W.groups (k:Int)).next,by simp [Yr,OL],⟨0,by simp,.inl rfl⟩,by omega,hK4.step (hx7.mono fun y hy=>List.mem_append_left _ hy),hO4.ext hx7 fun y hy hm=>(hOb y hy).2 (List.mem_append_left _ hm)⟩,?_⟩;rintro l0 a1 a2 a3 a4 a5 a6 a7 a8 a9 a10 a11O a11L a11C a12O a12L a12C a13O a13L a13C wv4 hs4 ⟨v,hv,hj,hv0,hK5,hO5⟩;simp only [Yr,Z3,List.cons_append,List.nil_append,List.cons.injEq,Value.bool.injEq,Value.int.injEq,Value.string.injEq,Value.slice.injEq,true_and,and_true] at hv;obtain ⟨rfl,rfl,rfl,rfl,rfl,rfl,rfl,rfl,rfl,rfl,rfl,⟨rfl,rfl,rfl⟩,⟨rfl,rfl,rfl⟩,rfl,rfl,rfl⟩:=hv;refine ⟨fun hle => ?_,fun hgt => ?_⟩
   ·have hle:=of_decide_eq_true hle;refine ⟨⟨by omega,by omega⟩,fun wr8 hx8 hs8=>⟨⟨a6+(gi W.groups (k:Int)).period,rfl,?_,by omega,hK5.step hx8,hO5.ext hx8 fun y hy=>(hOb y hy).2⟩,?_⟩⟩
    ·obtain ⟨j,h1,_⟩:=hj;exact ⟨j+1,by rw [h1]; push_cast; rw [Int.mul_add,Int.mul_one,Int.add_assoc],.inr (by omega)⟩
    ·show (_ - (a6+(gi W.groups (k:Int)).period)).toNat<(_ - a6).toNat;omega
   ·have hgt:=of_decide_eq_false hgt;have hv6:a6=Ke (gi W.groups (k:Int)).next (gi W.groups (k:Int)).period W.now N:=zp9 hp1 ⟨by omega,hj⟩ hJ;have hwr:=zao hK5.own hK5.nb (i:=(k:Int)) (by omega) (by omega) (j:=0) (k:=14) (by decide);rw [emg] at hwr;refine ⟨hix,hwr,⟨by omega,by omega⟩,fun wr9 hx9 hs9=>QY (by omega) ⟨by omega,O3 m2 k (OL (m2.ms k) pb),?_,by rw [hd2]; rfl⟩⟩;rw [hdef];have hK6:=hK5.gr (g:=(k:Int)) (by omega) (by omega) (G:=Xi W.now N (gi W.groups (k:Int))) (p:=pb) (j:=0) (vs:=Yr (Xi W.now N (gi W.groups (k:Int))) (OL (m2.ms k) pb)) (by rw [hP]; exact hO5) hOb (by rw [eG]; exact (KK _ _ _).2.2.2.1) (by simp [Yr]) (by simp [Yr]);refine (hK6.step (w':=wr9) ?_).sub fun y hy=>List.mem_append_left _ (List.mem_append_left _ hy)
    rw [hP,<-hv6,emg];exact hx9
 ·have hge:=of_decide_eq_false hge;rw [<-hend (by omega)] at hK2 l1 l2 l3 l4;have emt:m2.tO=m'.tO:=by rw [hd2]
  refine OF W.tasks.length 0 rfl (fun t w2=>t<=12/\Wk 8 [x,x1] w w2 (Tx (ZA W N) t) m2) (fun w2 hx3 _=>⟨by decide,hK2.step hx3⟩) fun t w2 hs4 ⟨ht12,hK3⟩ => ?_
  obtain ⟨q1,q2,q3,q4⟩:=zit (ZA W N) t;have hdef2:Tx (ZA W N) (t+1)=setTk (Tx (ZA W N) t) (t:Int) (CB (Q7 (Tx (ZA W N) t) (t:Int))):=rfl;have hend2:t=12->Tx (ZA W N) 12=Tx (ZA W N) t:=fun e=>by rw [e]
  generalize hU:Tx (ZA W N) t=U at hK3 q1 q2 q3 q4 hdef2 hend2;have hr:=hK3.rd;refine ⟨fun hlt => ?_,fun hge2 wr12 hx12 hs12 => ?_⟩
  ·have hlt:=of_decide_eq_true hlt;have t1:(t:Int)<(U.tasks.length:Int):=by rw [q4,l4]; exact hlt
   have hix:Ix m'.tO W.tasks.length (t:Int):=by have:=hr.t.ix QE (i:=(t:Int)) (by omega) t1; rwa [q4,l4,emt] at this
   have hcs:=hr.t (t:Int) (by omega) t1;rw [emt] at hcs;have hwr:=zeg hK3.own hK3.nb (i:=(t:Int)) (by omega) t1 (j:=0) (k:=9) (by decide);rw [emt] at hwr;refine ⟨hix,_,_,_,_,_,_,_,_,_,hcs,fun b4 hb4=>⟨_,XS,_,DR,_,XS,hix,hwr,⟨by omega,by omega⟩,fun wr11 hx11 hs11=>QY (by omega) ⟨by omega,?_⟩⟩⟩;rw [hdef2];have hset:=hK3.own.stoT (i:=(t:Int)) (by omega) t1 (j:=0) (vs:=YQ (CB (Q7 U (t:Int)))) (x:=CB (Q7 U (t:Int))) (by simp [YQ]) (by simp [YQ]);have hK4:=hK3.sto hset Lf;rw [emt] at hK4;exact hK4.step hx11
  ·have hge2:=of_decide_eq_false hge2;rw [hend2 (by omega)] at sd ⊢;have hK4:=hK3.step hx12;have hcall:=Qp hK4.own sd (by decide) (by decide) hK4.base
   have e5:Qa U m2=[.int .i64 (W.now+(N:Int)),.slice m'.cO W.cpus.length m'.cC,.slice m'.tO W.tasks.length m'.tC,.slice m'.gO W.groups.length m'.gC]:=by
    unfold Qa;rw [q2,q3,q4,q1,l1,l2,l3,l4,hd2]
   rw [e5] at hcall;refine Calls.mono hcall ?_;rintro e2 wv2 ⟨m3,he2,hy2⟩;exact ⟨_,_,_,_,_,_,_,_,_,_,he2,hK4.kept hy2 hs12,fun wr13 hx13=>QD.ok hW hb ((hK4.deed hy2 hs12).step hx13)⟩
section
variable {base pb:Nat} {w0 w':World} {m0 m':MW}
end
end
theorem Vu.same {W W':Q8} (p:Vu W) (ha:WA W') (ht:W'.tasks=W.tasks) (hc:W'.cpus=W.cpus) (hT:QR W.groups W'.groups) (hs:∀k c:Int,Qb W' k c=Qb W k c):Vu W':=by
 have est:∀k c:Int,UK W' k c↔UK W k c:=fun k c=>by
  unfold UK;rw [hT.p,hs,hs]
 refine ⟨⟨ha,fun t t0 t1 => ?_,fun t t0 t1 n=>by rw [XF ht] at n ⊢; rw [hc]; exact p.l t t0 t1 n,fun k c hk c0 c1 => ?_⟩,fun c c0 c1 => ?_⟩
 ·rw [XF ht];rcases p.t t t0 t1 with h | ⟨h1,h2⟩
  ·exact .inl h
  ·exact .inr ⟨h1,h2.st,by rw [hT.usd]; exact h2.g,h2.n,h2.m,h2.m0,h2.s,h2.u,h2.l1,h2.l2,fun h=>by rw [hs]; exact h2.f h⟩
 ·rw [hT.usd] at hk;rw [hc] at c1;exact (p.s k c hk c0 c1).cong (hs _ _) fun _=>by rw [hT.p,hs]
 ·rw [hc] at c1;have h:=p.c c c0 c1;refine ⟨by rw [hc]; exact h.b,by rw [hc]; exact h.i,by rw [hc]; exact h.c1,by rw [hc]; exact h.c2,by rw [hc]; exact h.no,by rw [hc]; exact h.yes,fun h0 h1 h2 => ?_⟩;rw [hc,XF ht] at *;obtain ⟨q1,q2⟩:=h.q h0 h1 h2;refine ⟨by rw [hs]; exact q1,fun y hy => ?_⟩;rw [Vp hT] at hy;rw [est,hT.p,hs,hs];exact q2 y hy
theorem zrh {W W':Q8} (hT:QR W.groups W'.groups) (hm:∀i:Int,(gi W'.groups i).cpus=(gi W.groups i).cpus) (hu:J2 W'.cpus=J2 W.cpus) (g m:Int):Qq W' g m=Qq W g m:=by
 unfold Qq
 have hp:UU W'.groups g (J2 W.cpus)=UU W.groups g (J2 W.cpus):=by
  unfold UU;rw [show QU W'.groups g=QU W.groups g from hT.path 3 g]
  congr 1
  funext s x
  rw [hm]
 rw [hu,hp]
theorem BK.same {W W':Q8} (h:BK W) (ht:W'.tasks=W.tasks) (hT:QR W.groups W'.groups) (hm:∀i:Int,(gi W'.groups i).cpus=(gi W.groups i).cpus) (hu:J2 W'.cpus=J2 W.cpus):BK W':=fun t t0 t1 n=>by
 rw [XF ht] at n ⊢;rw [zrh hT hm hu];exact h t t0 t1 n
theorem zh1 {W:Q8} {g:Int} {x:ZD} (s:x.shelves=(gi W.groups g).shelves) (k c:Int):Qb (setGr W g x) k c=Qb W k c:=by
 unfold Qb;rw [show (gi (setGr W g x).groups k).shelves=(gi W.groups k).shelves from Yu (f:=ZD.shelves) _ _ s k]
theorem zp2 {W:Q8} {g q p:Int} (hW:Qz W=true) (hb:zhf W g q p=0):XK (zsq W g q p):=by
 have wp:=Qi.1 hW;obtain ⟨hu,hz,_,_,sw,sw2⟩:=znh hW hb;obtain ⟨u0,u1,_⟩:=Q5.1 hu;have h:=zdd (W:=W) (g:=g) (q:=q) (p:=p);have hT:=J9 (W:=W) (x:=Ph W g q p) u0 u1 h.1 h.2.1 h.2.2.1;exact Zi sw2 (by decide) (by decide) ((X3 wp).same sw2.a rfl rfl hT (zh1 h.2.2.2.1)) ((U0 wp).same rfl hT (fun i=>Yu (f:=ZD.cpus) _ _ h.2.2.2.2.2.1 i) rfl)
theorem zm7 {W:Q8} {n:Int} (hW:Qz W=true) (hb:Kr W n=0):XK (zgf W n):=by
 have wp:=Qi.1 hW;obtain ⟨_,_,sw,_,sp,sd⟩:=zjz hW hb;have hgl:=wp.a.gl;obtain ⟨l1,l2,l3,l4⟩:=T4 W n.toNat 8;have hT:QR W.groups (ZA W n.toNat).groups:=Gq W n.toNat 8 (by omega)
 have key:∀i:Int,(gi (ZA W n.toNat).groups i).shelves=(gi W.groups i).shelves/\(gi (ZA W n.toNat).groups i).cpus=(gi W.groups i).cpus:=fun i=>by
  have hu:=KK W.now n.toNat (gi W.groups ((i.toNat:Nat):Int));have e:=PI W n.toNat 8 (by omega) ((i.toNat:Nat):Int) (by omega);rw [NH (ZA W n.toNat).groups i,NH W.groups i];unfold ZA;rw [e];split
  ·exact ⟨hu.2.2.2.1,hu.2.2.2.2.2.1⟩
  ·exact ⟨rfl,rfl⟩
 have p1:Vu (ZA W n.toNat):=(X3 wp).same sp.a l4 l3 hT fun k c=>by unfold Qb; rw [(key k).1]
 have q1:BK (ZA W n.toNat):=(U0 wp).same l4 hT (fun i=>(key i).2) (by rw [show (ZA W n.toNat).cpus=W.cpus from l3])
 have all:∀k:Nat,k<=12->Vu (Tx (ZA W n.toNat) k)/\BK (Tx (ZA W n.toNat) k):=by
  intro k
  induction k with
  | zero=>exact fun _=>⟨p1,q1⟩
  | succ k ih=>
   intro hk;obtain ⟨a,b⟩:=ih (by omega);show Vu (setTk (Tx (ZA W n.toNat) k) (k:Int) (CB (Q7 (Tx (ZA W n.toNat) k) (k:Int))))/\BK (setTk (Tx (ZA W n.toNat) k) (k:Int) (CB (Q7 (Tx (ZA W n.toNat) k) (k:Int))));generalize Tx (ZA W n.toNat) k=V at a b
   by_cases hs:(Q7 V (k:Int)).state=0
   ·have hz:Q7 V (k:Int)=VG:=by
     rcases a.t (k:Int) (by omega) (by omega) with h | h
     ·exact h.2
     ·exact absurd hs h.1
    rw [hz];have hd:CB VG=VG:=by decide
    rw [hd];exact ⟨a.setTk (by omega) (by omega) (.inl ⟨rfl,rfl⟩) fun c _ _ _ h _=>(by cases h),b.setTk a.a (by omega) (by omega) fun h=>absurd rfl h⟩
   ·have h:=Te a (t:=(k:Int)) (by omega) (by omega) hs;have hlo:=a.l (k:Int) (by omega) (by omega) hs
    have hld:0<=(CB (Q7 V (k:Int))).load/\(CB (Q7 V (k:Int))).load<=8000000:=by
     have h1:=h.l1;have h2:=h.l2;have h3:=ZV.1 h.u
     have ht:0<=Int.tdiv (Q7 V (k:Int)).load 8/\Int.tdiv (Q7 V (k:Int)).load 8<=(Q7 V (k:Int)).load:=by
      rw [Int.tdiv_eq_ediv_of_nonneg h1];omega
     show 0<=ZU (H6 (Q7 V (k:Int)).load (ZU (Q7 V (k:Int)).used 1000000)) 8000000/\ZU (H6 (Q7 V (k:Int)).load (ZU (Q7 V (k:Int)).used 1000000)) 8000000<=8000000;have hm:0<=ZU (Q7 V (k:Int)).used 1000000:=by unfold ZU; split <;> omega
     have hbt:0<=H6 (Q7 V (k:Int)).load (ZU (Q7 V (k:Int)).used 1000000):=by unfold H6; split <;> omega
     generalize H6 (Q7 V (k:Int)).load (ZU (Q7 V (k:Int)).used 1000000)=y at hbt;unfold ZU
     split <;> omega
    refine ⟨a.setTk (by omega) (by omega) (.inr ⟨hs,⟨h.st,h.g,h.n,h.m,h.m0,h.s,by show Zx 0=true; decide,hld.1,hld.2,h.f⟩,hlo⟩) fun c c0 c1 hcur h1 h2 => ?_,b.setTk a.a (by omega) (by omega) fun _=>b (k:Int) (by omega) (by omega) hs⟩;have hc:=(a.c c c0 c1).q (by rw [hcur]; omega);rw [hcur] at hc;exact hc h1 h2
 obtain ⟨p2,q2⟩:=all 12 (Nat.le_refl _);exact Zi sd (by decide) (by decide) p2 q2
theorem Ax {W:Q8} (p:Vu W) {t g c:Int} (t0:0<=t) (t1:t<12) (n:(Q7 W t).state≠0) (hg:Q6 W.groups g=true) (c0:0<=c) (c1:c<(W.cpus.length:Int)):Vu (UH W t g c):=by
 have h:=Te p t0 t1 n
 have hT:GF W (Pj W t g c):=⟨h.st,hg,h.n,h.m,h.m0,h.s,h.u,h.l1,h.l2,fun _=>by
  have:=ZP ((Q7 W t).v - (Qb W (Q7 W t).group (Q7 W t).cpu).floor) (Qd (Q7 W t).nice);show (Qb W g c).floor<=(Qb W g c).floor+DZ W t/\(Qb W g c).floor+DZ W t - (Qb W g c).floor<=Zn (Qd (Q7 W t).nice);unfold DZ;exact ⟨by omega,by omega⟩⟩
 unfold UH;split
 ·exact BD p t0 t1 n hT rfl c0 c1
 ·rename_i hs;exact p.setTk t0 t1 (.inr ⟨n,hT,c0,c1⟩) fun d _ _ _ h _=>absurd h hs
theorem BH (W:Q8) (t g c:Int):Vy W (UH W t g c):=by
 unfold UH;split
 ·exact (zh5 _ _ _).trans (KP _ _)
 ·exact zh5 _ _ _
theorem zhu {W:Q8} (hl:W.tasks.length=12) {t g c:Int} (t0:0<=t) (t1:t<12) {i:Int} (i0:0<=i):Q7 (UH W t g c) i=if t=i then Pj W t g c else Q7 W i:=by
 have e:Q7 (setTk W t (Pj W t g c)) i=if t=i then Pj W t g c else Q7 W i:=Qy _ _ t0 (by omega) i0;unfold UH;split
 ·exact e
 ·exact e
theorem zjn {W:Q8} (p:Vu W):∀k:Nat,k<=12->Vu (JA W k)/\Vy W (JA W k)/\(∀t:Int,0<=t->t<(k:Int)->(Q7 (JA W k) t).state≠0->Z4 (Qq (JA W k) (Q7 (JA W k) t).group (Q7 (JA W k) t).mask) (Q7 (JA W k) t).cpu=true)
 | 0,_=>⟨p,Vy.refl _,fun t a b=>by omega⟩
 | k+1,hk=>by
  obtain ⟨a,b,d⟩:=zjn p k (by omega);simp only [JA];generalize JA W k=V at a b d;have hl:=a.a.t;split
  ·rename_i hm;unfold Kc at hm;simp only [Bool.and_eq_true,bne_iff_ne,ne_eq] at hm;have h:=Te a (t:=(k:Int)) (by omega) (by omega) hm.1;have hf:=KU a.a (Q7 V (k:Int)).group (Q7 V (k:Int)).mask;have hw:=Kw a.a (Q7 V (k:Int)).group (Q7 V (k:Int)).mask;refine ⟨Ax a (by omega) (by omega) hm.1 h.g hf.1 hf.2,b.trans (BH _ _ _ _),fun t t0 t1 n => ?_⟩;rw [(BH V _ _ _).wh];rw [zhu hl (by omega) (by omega) t0] at n ⊢
   split at n
   ·rename_i he;rw [if_pos he];exact HD hw.1 hw.2
   ·rename_i he;rw [if_neg he];exact d t t0 (by omega) n
  ·rename_i hm;refine ⟨a,b,fun t t0 t1 n => ?_⟩
   by_cases he:t=(k:Int)
   ·subst he;have hm:Kc V (k:Int)=false:=by simpa using hm
    unfold Kc at hm;rw [show ((Q7 V (k:Int)).state != 0)=true by simpa using n,Bool.true_and] at hm
    simpa using hm
   ·exact d t t0 (by omega) n
theorem BG {W:Q8} (sf:SF Qo (Qo+Qk) W) (p:Vu W):XK (Qg (Le W)):=by
 obtain ⟨a,b,d⟩:=zjn p 12 (Nat.le_refl _);exact Zi (KN sf (Int.le_refl _)).1.w (by simp only [Qk]; decide) (by simp only [Qk,UJ]; decide) a d
theorem zp6 {W:Q8} {t x:Int} (hW:Qz W=true) (hb:HQ W t x=0):XK (zq2 W t x):=by
 have wp:=Qi.1 hW;obtain ⟨h1,_,sf⟩:=zn7 hW hb;obtain ⟨t0,t1,tn⟩:=Yy h1;have hl:=wp.a.t;have p:=X3 wp;have h:=Te p t0 (by omega) tn
 have hx:O1 x=true/\x≠0:=by
  unfold HQ at hb
  split at hb
  ·cases hb
  ·rename_i hn;exact ⟨by cases hm:O1 x with | true=>rfl | false=>exact absurd (.inl hm) hn,fun e=>hn (.inr e)⟩
 refine BG sf (p.setTk t0 (by omega) (.inr ⟨tn,⟨h.st,h.g,h.n,hx.1,hx.2,h.s,h.u,h.l1,h.l2,h.f⟩,p.l t t0 (by omega) tn⟩) fun c c0 c1 hcur h1 h2 => ?_);have hc:=(p.c c c0 c1).q (by rw [hcur]; omega);rw [hcur] at hc;exact hc h1 h2
theorem zp1 {W:Q8} {g x:Int} (hW:Qz W=true) (hb:zg7 W g x=0):XK (zpv W g x):=by
 have wp:=Qi.1 hW;obtain ⟨hu,_,_,sf,hT⟩:=zmy hW hb;exact BG sf ((X3 wp).same sf.w.a rfl rfl hT (zh1 rfl))
theorem GF.gr {W W':Q8} {x:Pl} (h:GF W x) (e:W'.groups=W.groups):GF W' x:=
 ⟨h.st,by rw [e]; exact h.g,h.n,h.m,h.m0,h.s,h.u,h.l1,h.l2,fun hs=>by unfold Qb; rw [e]; exact h.f hs⟩
theorem zsg {W:Q8} {c:Int} (hW:Qz W=true) (hb:UY W c false 0=0):XK (zud W c):=by
 have wp:=Qi.1 hW;obtain ⟨c0,c1,_,sf⟩:=zrt hW hb;have p:=X3 wp;refine BG sf ⟨⟨sf.w.a,fun t t0 t1=>(p.t t t0 t1).imp id fun h=>⟨h.1,h.2.gr rfl⟩,fun t t0 t1 n => ?_,fun k d hk d0 d1 => ?_⟩,fun d d0 d1 => ?_⟩
 ·have:=p.l t t0 t1 n;show _/\_<(((W.cpus.set c.toNat _).length:Nat):Int);rw [List.length_set]; exact this
 ·have d1:d<(((W.cpus.set c.toNat (Mt (gi W.cpus c) true)).length:Nat):Int):=d1;rw [List.length_set] at d1;exact (p.s k d hk d0 d1).cong rfl fun _=>rfl
 ·have d1:d<(((W.cpus.set c.toNat (Mt (gi W.cpus c) true)).length:Nat):Int):=d1;rw [List.length_set] at d1;have h:=p.c d d0 d1;have e:gi (setCp W c (Mt (gi W.cpus c) true)).cpus d=if c=d then Mt (gi W.cpus c) true else gi W.cpus d:=Qy _ _ c0 c1 d0
  have eb:(gi (setCp W c (Mt (gi W.cpus c) true)).cpus d).cur=(gi W.cpus d).cur/\(gi (setCp W c (Mt (gi W.cpus c) true)).cpus d).ran=(gi W.cpus d).ran/\(gi (setCp W c (Mt (gi W.cpus c) true)).cpus d).busy=(gi W.cpus d).busy/\(gi (setCp W c (Mt (gi W.cpus c) true)).cpus d).idle=(gi W.cpus d).idle/\((gi W.cpus d).up=true->(gi (setCp W c (Mt (gi W.cpus c) true)).cpus d).up=true):=by
   rw [e];split
   ·rename_i he; subst he; exact ⟨rfl,rfl,rfl,rfl,fun _=>rfl⟩
   ·exact ⟨rfl,rfl,rfl,rfl,id⟩
  obtain ⟨e1,e2,e3,e4,e5⟩:=eb;refine ⟨by rw [e3]; exact h.b,by rw [e4]; exact h.i,by rw [e1]; exact h.c1,by rw [e1]; exact h.c2,by rw [e1,e2]; exact h.no,fun h0 => ?_,?_⟩
  ·rw [e1] at h0;have:=h.yes h0;exact ⟨e5 this.1,by rw [e2]; exact this.2⟩
  ·rw [e1,e2]; exact h.q
theorem zp5 {W:Q8} {c:Int} (hW:Qz W=true) (hb:UY W c true (L8 W)=0):XK (zqv W c):=by
 have wp:=Qi.1 hW;obtain ⟨c0,c1,_,sf⟩:=zny hW hb;have p:=X3 wp;have hl:(setCp W c (Mt (gi W.cpus c) false)).cpus.length=W.cpus.length:=List.length_set;have sfE:=sf.endW c0 (by rw [hl]; exact c1)
 have hcs:endW (setCp W c (Mt (gi W.cpus c) false)) c=setCp W c (Xo (Mt (gi W.cpus c) false)):=by
  have e:gi (setCp W c (Mt (gi W.cpus c) false)).cpus c=Mt (gi W.cpus c) false:=(Qy _ _ c0 c1 c0).trans (if_pos rfl);unfold endW;rw [e];simp [setCp,List.set_set]
 show XK (Qg (Le (endW (setCp W c (Mt (gi W.cpus c) false)) c)));rw [hcs] at sfE ⊢;refine BG sfE ⟨⟨sfE.w.a,fun t t0 t1=>(p.t t t0 t1).imp id fun h=>⟨h.1,h.2.gr rfl⟩,fun t t0 t1 n => ?_,fun k d hk d0 d1 => ?_⟩,fun d d0 d1 => ?_⟩
 ·have:=p.l t t0 t1 n;show _/\_<(((W.cpus.set c.toNat _).length:Nat):Int);rw [List.length_set]; exact this
 ·have d1:d<(((W.cpus.set c.toNat (Xo (Mt (gi W.cpus c) false))).length:Nat):Int):=d1;rw [List.length_set] at d1;exact (p.s k d hk d0 d1).cong rfl fun _=>rfl
 ·have d1:d<(((W.cpus.set c.toNat (Xo (Mt (gi W.cpus c) false))).length:Nat):Int):=d1;rw [List.length_set] at d1;have h:=p.c d d0 d1;have e:gi (setCp W c (Xo (Mt (gi W.cpus c) false))).cpus d=if c=d then Xo (Mt (gi W.cpus c) false) else gi W.cpus d:=Qy _ _ c0 c1 d0
  by_cases he:c=d
  ·subst he;have e:=e.trans (if_pos rfl);refine ⟨by rw [e]; exact h.b,by rw [e]; exact h.i,by rw [e]; show (-1:Int)<=-1; decide,by rw [e]; show (-1:Int)<12; decide,fun _=>by rw [e]; rfl,fun h0 => ?_,fun h0 => ?_⟩
   ·rw [e] at h0;have h0:(0:Int)<=-1:=h0;omega
   ·rw [e] at h0;have h0:(0:Int)<=-1:=h0;omega
  ·have e:=e.trans (if_neg he);exact ⟨by rw [e]; exact h.b,by rw [e]; exact h.i,by rw [e]; exact h.c1,by rw [e]; exact h.c2,by rw [e]; exact h.no,by rw [e]; exact h.yes,by rw [e]; exact h.q⟩
def AU (W:Q8) (g c x:Int):Mu:={ Qb W g c with v:=if (Qb W g c).on=true then (Qb W (gi W.groups g).parent c).floor+X1 ((Qb W g c).v - (Qb W (gi W.groups g).parent c).floor) x else (Qb W g c).v,w:=x }
def zec (W:Q8) (g c:Int):Bool:=decide ((gi W.cpus c).cur>=0)&&Jt 3 W.groups g (Q7 W (gi W.cpus c).cur).group
def Jn (W:Q8) (g c x:Int):Q8:=setSh W g c (AU W g c x)
def Md (W:Q8) (g c x:Int):Q8:=if (Qb W g c).w=x then W else if zec (Jn W g c x) g c=true then endW (Jn W g c x) c else Jn W g c x
def LD (W:Q8):Prop:=∀c:Int,0<=c->c<(W.cpus.length:Int)->(gi W.cpus c).cur>=0->Q6 W.groups (Q7 W (gi W.cpus c).cur).group=true
theorem zis {W:Q8} (wp:Xq W):LD W:=fun c c0 c1 h=>by
 have hc:=wp.c c c0 c1;have hy:=hc.yes h;have hl:=hy.2.2.2.2.1;have c2:=hc.c2;have ht:=wp.a.t;unfold Zp at hl;simp only [Bool.and_eq_true,beq_iff_eq] at hl;rcases wp.t (gi W.cpus c).cur h (by omega) with h1 | h1
 ·rw [h1.1] at hl; exact absurd hl.1 (by decide)
 ·exact h1.2.g
theorem LD.setSh {W:Q8} (h:LD W) {g c:Int} {s:Mu} (u0:0<=g) (u1:g<(W.groups.length:Int)):LD (setSh W g c s):=fun d d0 d1 hc=>by
 rw [(Xk u0 u1).usd];exact h d d0 d1 hc
theorem LD.endW {W:Q8} (h:LD W) {c:Int} (c0:0<=c) (c1:c<(W.cpus.length:Int)):LD (endW W c):=fun d d0 d1 hc=>by
 have d1:d<(((W.cpus.set c.toNat (Xo (gi W.cpus c))).length:Nat):Int):=d1;rw [List.length_set] at d1;have hg:gi (Go.Proofs.YtclpmgfpjeaibaaGreat.endW W c).cpus d=if c=d then Xo (gi W.cpus c) else gi W.cpus d:=Qy _ _ c0 c1 d0;rw [hg] at hc ⊢
 split at hc
 ·exact absurd hc (by show ¬(-1:Int)>=0; decide)
 ·rename_i hn;rw [if_neg hn];exact h d d0 d1 hc
theorem zrf {F K:Int} {W:Q8} (h:SF F K W) (hk:F+Qk<=K) {g c x:Int} (hu:Q6 W.groups g=true) (hz:g≠0) (c0:0<=c) (c1:c<(W.cpus.length:Int)) (x1:1<=x) (x2:x<=20):SF F K (Jn W g c x):=by
 have hp:=h.w.a.up hu hz;have s1:=h.w.s g c hu c0 c1;have s2:=h.w.s _ c hp c0 c1;have f1:=h.f g c hu c0 c1;have f2:=h.f _ c hp c0 c1;have lc:=ZP ((Qb W g c).v - (Qb W (gi W.groups g).parent c).floor) x;have lm:=ZM x;refine h.setSh hu c0 c1 s1.1 f1 (by show (Qb W g c).floor<=K; omega) ?_ ?_ x1 x2
 ·simp only [AU]; split <;> omega
 ·simp only [AU]; simp only [Qk] at hk; split <;> omega
theorem zj4 {F K:Int} {W:Q8} (h:SF F K W) (hk:F+Qk<=K) (hc:LD W) {g c x:Int} (hu:Q6 W.groups g=true) (hz:g≠0) (c0:0<=c) (c1:c<(W.cpus.length:Int)) (x1:1<=x) (x2:x<=20):SF F K (Md W g c x)/\Fr W (Md W g c x)/\LD (Md W g c x):=by
 obtain ⟨u0,u1,_⟩:=Q5.1 hu;have hv:=zrf h hk hu hz c0 c1 x1 x2;have hf:Fr W (Jn W g c x):=(PH u0 u1).fr;have hc2:LD (Jn W g c x):=hc.setSh u0 u1;unfold Md;split
 ·exact ⟨h,Fr.refl _,hc⟩
 ·split
  ·exact ⟨hv.endW c0 c1,hf.trans (NF _ _),hc2.endW c0 c1⟩
  ·exact ⟨hv,hf,hc2⟩
def Kv (W:Q8) (g x:Int):Nat->Q8
 | 0=>W
 | c+1=>Md (Kv W g x c) g (c:Int) x
theorem zed {F K:Int} {W:Q8} (h:SF F K W) (hk:F+Qk<=K) (hc:LD W) {g x:Int} (hu:Q6 W.groups g=true) (hz:g≠0) (x1:1<=x) (x2:x<=20):∀c:Nat,c<=W.cpus.length->SF F K (Kv W g x c)/\Fr W (Kv W g x c)/\LD (Kv W g x c)
 | 0,_=>⟨h,Fr.refl _,hc⟩
 | c+1,hn=>by
  obtain ⟨a,b,d⟩:=zed h hk hc hu hz x1 x2 c (by omega);obtain ⟨a2,b2,d2⟩:=zj4 a hk d (g:=g) (c:=(c:Int)) (x:=x) (by rw [b.g.usd]; exact hu) hz (by omega) (by rw [b.c]; omega) x1 x2;exact ⟨a2,b.trans b2,d2⟩
def PO (W:Q8) (g x:Int):ZD:={ gi W.groups g with weight:=x }
noncomputable def zic (W:Q8) (g x:Int):Int:=Pb W g (Yh x 1 20)
def zrg (W:Q8) (g x:Int):Q8:=Qg (Kv (setGr W g (PO W g x)) g x W.cpus.length)
theorem zo1 {W:Q8} {g x:Int} (hW:Qz W=true) (hb:zic W g x=0):Yh x 1 20=true/\g≠0/\Q6 W.groups g=true/\QG W=true/\SF Qo (Qo+Qk) W/\SF Qo (Qo+Qk) (setGr W g (PO W g x))/\LD (setGr W g (PO W g x))/\QR W.groups (setGr W g (PO W g x)).groups:=by
 obtain ⟨h1,h2,h3,h4⟩:=zc6 hb;have wp:=Qi.1 hW;have sw:=ON wp (Qi.1 h4);obtain ⟨u0,u1,hg⟩:=wp.a.u h3;have hx:=Qn.1 h1;have hl:=wp.a.gl;have s1:=sw.setGr (x:=PO W g x) h3 rfl rfl rfl rfl ⟨hx.1,hx.2,hg.m,hg.m0,hg.s,hg.len,fun h=>absurd h h2,hg.none,hg.band⟩;have hT:QR W.groups (setGr W g (PO W g x)).groups:=J9 u0 (by omega) rfl rfl rfl;refine ⟨h1,h2,h3,h4,sw.sf.mono (Int.le_refl _) (by simp only [Qk]; decide),s1.sf.mono (Int.le_refl _) (by simp only [Qk]; decide),fun d d0 d1 hc => ?_,hT⟩;rw [hT.usd];exact zis wp d d0 d1 hc
theorem zoy {gs:List ZD} (ht:ZQ gs) {g h:Int} (u1:Q6 gs g=true) (u2:Q6 gs h=true):TO gs g h=Jt 3 gs g h:=by
 unfold TO;rw [u1,u2,show P1 gs=true from @decide_eq_true _ (Classical.propDecidable _) ht];rfl
section
variable {base:Nat} {W W':Q8} {m:MW} {w:World} {bar:Int}
set_option maxHeartbeats 1000000 in
theorem PA {F K:Int} (h:Yj 8 base w W m) (hsw:SF F K W) (hk:F+Qk<=K) (hK:K<=1000000000000000000) (hcu:LD W) {g c x:Int} (hu:Q6 W.groups g=true) (hz:g≠0) (c0:0<=c) (c1:c<(W.cpus.length:Int)) :
  Cz Jf #[.agg (Qa W m).toArray,.int .i64 g,.int .i64 c,.int .i64 x] w fun e w'=>e = .returned (.agg (Qa W m).toArray)/\Mv 8 base [] w m w' (Md W g c x) m:=by
 refine (DD W.now m.cO W.cpus.length m.cC m.tO W.tasks.length m.tC m.gO W.groups.length m.gC g c x (R:=fun v w'=>v = .agg (Qa W m).toArray/\Mv 8 base [] w m w' (Md W g c x) m) ?_).mono fun e w' ⟨v,he,hv,h3⟩=>⟨by rw [he,hv],h3⟩
 intro y hy y1 hy1;obtain ⟨u0,u1,_⟩:=Q5.1 hu;have hgl:=hsw.w.a.gl;have htl:=hsw.w.a.t;have hsl:=hsw.w.a.sl hu;have hp:=hsw.w.a.up hu hz;obtain ⟨p0,p1,_⟩:=Q5.1 hp;have hpl:=hsw.w.a.sl hp;have s1:=hsw.w.s g c hu c0 c1;have s2:=hsw.w.s _ c hp c0 c1;have lc:=ZP ((Qb W g c).v - (Qb W (gi W.groups g).parent c).floor) x;have lm:=ZM x;have hM:=Mv.two h hy hy1;have hr:=(Mv.start h).rd;have hix:=hr.g.ix (i:=g) u0 u1;have hixS:=(hr.g.shelves g u0 u1).ix ZJ c0 (by omega);have hcx:=hr.c.ix ZX c0 c1;have hwr:=zrx h (by simp) (i:=g) (bs:=[]) u0 (by omega) c0 (by omega) (j:=0) (k:=5) (by decide);have hcr:=hsw.w.cu c c0 c1;have cur1:decide ((gi W.cpus c).cur>=0)=true->(gi W.cpus c).cur<(W.tasks.length:Int):=fun _=>by omega
 have hT:QR W.groups (Jn W g c x).groups:=Xk u0 u1
 have hE:(decide ((gi W.cpus c).cur>=0)&&TO (Jn W g c x).groups g (gi W.tasks (gi W.cpus c).cur).group)=zec (Jn W g c x) g c:=by
  unfold zec;show _=(decide ((gi W.cpus c).cur>=0)&&Jt 3 (Jn W g c x).groups g (Q7 W (gi W.cpus c).cur).group)
  by_cases hc:(gi W.cpus c).cur>=0
  ·rw [zoy (hT.tree hsw.w.a.tree) (by rw [hT.usd]; exact hu) (by rw [hT.usd]; exact hcu c c0 c1 hc)]; rfl
  ·rw [decide_eq_false hc]; rfl
 have hlen:(Jn W g c x).groups.length=W.groups.length:=hT.len;have hfr:Fr W (Jn W g c x):=(PH u0 u1).fr;have eW:Qa (Jn W g c x) m=Qa W m:=TW hfr;have eE:Qa (endW (Jn W g c x) c) m=Qa W m:=TW (hfr.trans (NF _ _));refine ⟨hix,_,_,_,hr.g.shelf u0 u1,hixS,_,_,_,_,_,(hr.g.shelves g u0 u1) c c0 (by omega),fun b2 hb2=>⟨fun g1 wr hx=>⟨rfl,?_⟩,fun g1=>⟨fun g2 => ?_,fun g2 => ?_⟩⟩⟩
 ·have g1:(Qb W g c).w=x:=eq_of_beq g1;unfold Md;rw [if_pos g1];exact (Mv.start h).call0 hx
 ·have hss:AU W g c x=⟨(Qb W g c).floor,(Qb W g c).on,(Qb W (gi W.groups g).parent c).floor+X1 ((Qb W g c).v - (Qb W (gi W.groups g).parent c).floor) x,x,(Qb W g c).sum⟩:=by
   unfold AU;rw [if_pos (show (Qb W g c).on=true from g2)]
  have hset:=A2 hsw h hk hu rfl c0 c1 (AU W g c x);rw [hss] at hset;have hM2:=((hM.add hb2).deed hset (Bo (by omega)));have hV:setSh W g c ⟨(Qb W g c).floor,(Qb W g c).on,(Qb W (gi W.groups g).parent c).floor+X1 ((Qb W g c).v - (Qb W (gi W.groups g).parent c).floor) x,x,(Qb W g c).sum⟩=Jn W g c x:=by unfold Jn; rw [hss]
  rw [hV] at hM2;have hr2:=hM2.rd;have hM2':=hM2.close;have hr0:=hM2'.rd;refine ⟨hix,_,hr.g.parent u0 u1,hr.g.ix p0 p1,_,_,_,hr.g.shelf p0 p1,(hr.g.shelves _ p0 p1).ix ZJ c0 (by omega),_,zgn.f (hr.g.shelves _ p0 p1) c0 (by omega) (j:=0) rfl,⟨by show _<=(Qb W g c).v - (Qb W (gi W.groups g).parent c).floor; omega,by show (Qb W g c).v - (Qb W (gi W.groups g).parent c).floor<=_; omega⟩,_,Pg,⟨by show _<=(Qb W (gi W.groups g).parent c).floor+X1 ((Qb W g c).v - (Qb W (gi W.groups g).parent c).floor) x; omega,by show (Qb W (gi W.groups g).parent c).floor+X1 ((Qb W g c).v - (Qb W (gi W.groups g).parent c).floor) x<=_; omega⟩,hix,_,_,_,hr.g.shelf u0 u1,hixS,hwr,hcx,(gi W.cpus c).cur,?_⟩;refine ⟨zti.f hr0.c c0 c1 (j:=1) rfl,fun gc=>hr0.t.ix QE (of_decide_eq_true gc) (cur1 gc),_,fun gc=>zo4.f hr0.t (of_decide_eq_true gc) (cur1 gc) (j:=1) rfl,_,fun gc=>by rw [<-hlen]; exact T1 hr0.g (by have:=Zj; omega),fun gc wr1 hx3 hs3 => ?_,fun gc wr3 hx3 => ?_⟩
  ·have he:zec (Jn W g c x) g c=true:=by rw [<-hE]; exact gc
   have hM3:=hM2.step (hx3.of_nil);have hcall:=Zm hM3.own c0 c1;rw [eW,eE] at hcall;refine Calls.mono hcall ?_;rintro e wv ⟨he1,hy2⟩;refine ⟨_,_,_,_,_,_,_,_,_,_,he1,hM3.kept hy2 hs3,fun wr2 hx4=>⟨rfl,?_⟩⟩;unfold Md;rw [if_neg (show ¬(Qb W g c).w=x from ne_of_beq_false g1),if_pos he];exact ((hM3.call hy2 hs3).step hx4).close
  ·have he:zec (Jn W g c x) g c=false:=by rw [<-hE]; exact gc
   refine ⟨rfl,?_⟩;unfold Md;rw [if_neg (show ¬(Qb W g c).w=x from ne_of_beq_false g1),if_neg (by rw [he]; decide)];exact (hM2.step hx3.of_nil).close
 ·have hss:AU W g c x=⟨(Qb W g c).floor,(Qb W g c).on,(Qb W g c).v,x,(Qb W g c).sum⟩:=by
   unfold AU;rw [if_neg (by rw [show (Qb W g c).on=false from g2]; decide)]
  have hset:=A2 hsw h hk hu rfl c0 c1 (AU W g c x);rw [hss] at hset;have hM2:=((hM.add hb2).deed hset (Bo (by omega)));have hV:setSh W g c ⟨(Qb W g c).floor,(Qb W g c).on,(Qb W g c).v,x,(Qb W g c).sum⟩=Jn W g c x:=by unfold Jn; rw [hss]
  rw [hV] at hM2;have hr2:=hM2.rd;have hM2':=hM2.close;have hr0:=hM2'.rd;refine ⟨hix,_,_,_,hr.g.shelf u0 u1,hixS,hwr,hcx,(gi W.cpus c).cur,?_⟩;refine ⟨zti.f hr0.c c0 c1 (j:=1) rfl,fun gc=>hr0.t.ix QE (of_decide_eq_true gc) (cur1 gc),_,fun gc=>zo4.f hr0.t (of_decide_eq_true gc) (cur1 gc) (j:=1) rfl,_,fun gc=>by rw [<-hlen]; exact T1 hr0.g (by have:=Zj; omega),fun gc wr1 hx3 hs3 => ?_,fun gc wr3 hx3 => ?_⟩
  ·have he:zec (Jn W g c x) g c=true:=by rw [<-hE]; exact gc
   have hM3:=hM2.step (hx3.of_nil);have hcall:=Zm hM3.own c0 c1;rw [eW,eE] at hcall;refine Calls.mono hcall ?_;rintro e wv ⟨he1,hy2⟩;refine ⟨_,_,_,_,_,_,_,_,_,_,he1,hM3.kept hy2 hs3,fun wr2 hx4=>⟨rfl,?_⟩⟩;unfold Md;rw [if_neg (show ¬(Qb W g c).w=x from ne_of_beq_false g1),if_pos he];exact ((hM3.call hy2 hs3).step hx4).close
  ·have he:zec (Jn W g c x) g c=false:=by rw [<-hE]; exact gc
   refine ⟨rfl,?_⟩;unfold Md;rw [if_neg (show ¬(Qb W g c).w=x from ne_of_beq_false g1),if_neg (by rw [he]; decide)];exact (hM2.step hx3.of_nil).close
theorem Hv {g x:Int} (h:Xa [] w W m) (hl:X7 W) :
  Cz UB #[.agg (Qa W m).toArray,.int .i64 g,.int .i64 x] w fun e w'=>∃v,e = .returned v/\QD (Xn W (zic W g x) (zrg W g x)) w v w':=by
 refine Hb W.now m.cO W.cpus.length m.cC m.tO W.tasks.length m.tC m.gO W.groups.length m.gC g x (R:=fun v w'=>QD (Xn W (zic W g x) (zrg W g x)) w v w') ?_;intro y hy y1 hy1;refine ⟨_,J1,fun wr hx2 hs2 => ?_⟩;refine Calls.mono (Uk (g:=g) (ok:=Yh x 1 20) (h.ext hx2) hl) ?_;rintro e wv (⟨hW,he,hy2⟩ | ⟨hW,m',he,hM,hy2⟩)
 ·exact ⟨_,_,_,_,_,_,_,_,_,_,_,he,Qf hy2 hs2,fun _ wr1 hx3=>QD.bad hW ((hx2.trans hy2).fresh hx3 fun z hm=>.inl (Yp hy hy1 z hm)),fun g=>by simp at g⟩
 have hK:=Wk.begin hy hy1 hx2 hs2 hM hy2;refine ⟨_,_,_,_,_,_,_,_,_,_,_,he,Qf hy2 hs2,fun g1 wr1 hx3=>QD.no hW (by simpa [zic] using g1) (hK.step hx3) rfl,fun g1 => ?_⟩;have hb:zic W g x=0:=by simpa [zic] using g1
 have hr:=hK.rd;obtain ⟨hix1,hz,hu,hroom,_,sf,hcu,hT⟩:=zo1 hW hb;have hxr:=Qn.1 hix1;obtain ⟨u0,u1,_⟩:=Q5.1 hu;have hgl:W.groups.length=8:=by have:=sf.w.a.gl; rwa [hT.len] at this
 have hix:=hr.g.ix (i:=g) u0 u1;have hset:Wk 8 [y,y1] w (sto wv m'.gO (Int.toNat g*14+3) [.int .i64 x]) (setGr W g (PO W g x)) m':=hK.sto (hK.own.stoG0 u0 (by omega) (g:=PO W g x) rfl rfl rfl (j:=3) (vs:=[.int .i64 x]) rfl (by simp)) Ex;have hwr:=zao hK.own hK.nb (i:=g) u0 (by omega) (j:=3) (k:=1) (by decide);have e0:Qa (setGr W g (PO W g x)) m'=Qa W m':=by simp [Qa,setGr]
 have huV:Q6 (setGr W g (PO W g x)).groups g=true:=by rw [hT.usd]; exact hu
 have hcl:(setGr W g (PO W g x)).cpus.length=W.cpus.length:=rfl;have hE:zrg W g x=Qg (Kv (setGr W g (PO W g x)) g x W.cpus.length):=rfl;rw [hE];have hc4:=sf.w.a.c2;generalize setGr W g (PO W g x)=V at hset sf hcu hT e0 huV hcl hc4;refine ⟨hix,hwr,fun vs w1=>∃(k:Nat),vs = .int .i64 (k:Int)::Qa W m'/\k<=W.cpus.length/\Wk 8 [y,y1] w w1 (Kv V g x k) m',Zk W.cpus.length 0,fun w1 hx0 _=>⟨0,rfl,Nat.zero_le _,hset.step hx0⟩,?_⟩;rintro c1 l l1O l1L l1C l2O l2L l2C l3O l3L l3C wv2 hs3 ⟨k,he2,hk,hK2⟩;obtain ⟨hS,hf,hc2⟩:=zed sf (Int.le_refl _) hcu huV hz hxr.1 hxr.2 k (by omega);have hdef:Kv V g x (k+1)=Md (Kv V g x k) g (k:Int) x:=rfl;have hend:k=W.cpus.length->Kv V g x W.cpus.length=Kv V g x k:=fun e=>by rw [e]
 have eU:Qa (Kv V g x k) m'=Qa W m':=(TW hf).trans e0;have hcU:=hf.c;have huU:Q6 (Kv V g x k).groups g=true:=by rw [hf.g.usd]; exact huV
 simp only [Qa,List.cons.injEq,Value.int.injEq,Value.slice.injEq,true_and,and_true] at he2;obtain ⟨rfl,rfl,⟨rfl,rfl,rfl⟩,⟨rfl,rfl,rfl⟩,rfl,rfl,rfl⟩:=he2;generalize Kv V g x k=U at hK2 hS hf hc2 hdef hend eU hcU huU;refine ⟨fun hlt wr3 hx3 hs4 => ?_,fun hge wr5 hx5 hs5 => ?_⟩
 ·have hlt:=of_decide_eq_true hlt;have hK3:=hK2.step hx3;have hcall:=PA hK3.own hS (Int.le_refl _) (by simp only [Qk]; decide) hc2 (g:=g) (c:=(k:Int)) (x:=x) huU hz (by omega) (by omega);rw [eU] at hcall;refine Calls.mono hcall ?_;rintro e wv3 ⟨he3,hy3⟩;refine ⟨_,_,_,_,_,_,_,_,_,_,he3,hK3.kept hy3 hs4,⟨by omega,by omega⟩,fun wr4 hx4 _=>⟨⟨k+1,rfl,by omega,?_⟩,?_⟩⟩
  ·rw [hdef];exact (hK3.deed hy3 hs4).step hx4
  ·simp only [Zk,XV,Y3,List.getElem?_cons_zero]; omega
 ·have hge:=of_decide_eq_false hge;rw [hend (by omega)];have hK5:=hK2.step hx5;have hcall:=Qp hK5.own hS.w (by simp only [Qk]; decide) (by simp only [Qk]; decide) hK5.base;rw [eU] at hcall;refine Calls.mono hcall ?_;rintro e2 wv2 ⟨m2,he2,hy2⟩;exact ⟨_,_,_,_,_,_,_,_,_,_,he2,hK5.kept hy2 hs5,fun wr4 hx5=>QD.ok hW hb ((hK5.deed hy2 hs5).step hx5)⟩
section
variable {pb:Nat}
end
end
end Go.Proofs.YtclpmgfpjeaibaaGreat
