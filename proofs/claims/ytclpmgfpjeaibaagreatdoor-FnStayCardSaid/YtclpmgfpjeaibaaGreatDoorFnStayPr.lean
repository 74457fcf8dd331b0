/- Part 18 of what the law FnStay needs: the engine, the functions' propositions, the contracts. -/
import Derived.Test.YtclpmgfpjeaibaaGreatDoorFnStayPq
namespace Go.Proofs.YtclpmgfpjeaibaaGreatDoor
open Go.RowKit
set_option linter.unusedVariables false
set_option linter.unusedSimpArgs false
set_option maxRecDepth 10000
structure Cr (W:Wld):Prop where
 iv:Inv W
 nq:NoQ W
structure Nq (W:Wld):Prop where
 q:NoQ W
 l:W.groups.length=8
section
variable {W:Wld} {g c x n p:Int} {name:ByteArray}
theorem Cr.w (h:Cr W):zbi W=true:=zbp.2 h.iv.wp
theorem Cr.nn (h:Cr W):Nq W:=⟨h.nq,h.iv.wp.a.gl⟩
theorem Nq.gr (h:Nq W) (u0:0<=g) (u1:g<8) {G:Grp} (hx:G.band.quota=0):Nq (setGr W g G):=by
 refine ⟨fun i i0 i1 => ?_,?_⟩
 ·rw [zex u0 (by rw [h.l]; exact u1) i0]
  split
  ·exact hx
  ·exact h.q i i0 i1
 ·have:=h.l
  simp [setGr]; exact this
theorem Nq.sh (h:Nq W) (u0:0<=g) (u1:g<8) {s:Shf}:Nq (setSh W g c s):=h.gr u0 u1 (h.q g u0 u1)
theorem Nq.wei (h:Nq W) (u0:0<=g) (u1:g<8):Nq (weiW W g c x):=by
 unfold weiW
 split
 ·exact h
 ·have k:Nq (weiV W g c x):=h.sh u0 u1
  split
  ·exact ⟨k.q,k.l⟩
  ·exact k
theorem Nq.weiN (h:Nq W) (u0:0<=g) (u1:g<8):∀c:Nat,Nq (weiN W g x c)
 | 0=>h
 | c+1=>(Nq.weiN h u0 u1 c).wei u0 u1
theorem zajn {n:Nat} (n0:1<=n) (n1:n<=4):Cr (newW n):=⟨zacc n0 n1,fun i i0 i1=>by
 rw [znl i i0 i1]
 split <;> rfl⟩
theorem zajm (h:Cr W) (hb:makB W p name=0):Cr (makW W p name):=by
 have hm:=(zacr hb).1
 refine ⟨zag0 h.iv hm,?_⟩
 exact (h.nn.gr (by have:=hm.a1; omega) hm.a8 (G:=newG W.cpus.length p name) rfl).q
theorem zajo (h:Cr W) (hb:wghB W g x=0):Cr (wghW W g x):=by
 refine ⟨zaib h.w hb,?_⟩
 obtain ⟨h1,h2,h3,_,_,h5,h6,h7⟩:=z9z h.w hb
 have hx:=za6.1 h1
 obtain ⟨u0,u1,_⟩:=zac.1 h3
 have hgl:=h.iv.wp.a.gl
 obtain ⟨a,b,_⟩:=zyx h5 (Int.le_refl _) h6 (g:=g) (x:=x) (by rw [h7.usd]; exact h3) h2 hx.1 hx.2 W.cpus.length (Nat.le_refl _)
 have k:Nq (setGr W g (wghG W g x)):=h.nn.gr u0 (by omega) (h.nq g u0 (by omega))
 exact zlj a.w (by simp only [lagB]; decide) (k.weiN u0 (by omega) W.cpus.length).q
theorem zahr (h:Cr W) (hb:zmm W g n x=0):Cr (zaad W g n x):=by
 refine ⟨zafe h.w hb,?_⟩
 have hf:=z26 h.w hb
 exact zlj (hf.sw2.endW hf.c0 hf.c1) (by decide) fun i i0 i1=>h.nq i i0 i1
theorem zagw (h:Cr W) (hb:runB W c n=0):Cr (runW W c n):=⟨zaia h.iv hb,zaip h.w h.nq hb⟩
theorem zagv (h:Cr W) {bar:Int} {W':Wld} (hb:bar=0->Cr W'):Cr (ansD W bar W').1:=by
 unfold ansD
 rw [if_neg (by rw [h.w]; decide)]
 split
 ·exact h
 ·rename_i e
  exact hb (by simpa using e)
theorem zabl (h:Cr W) {bar a:Int} {W':Wld} (hb:bar=0->Cr W'):Cr (zol W bar W' a).1:=by
 unfold zol
 rw [if_neg (by rw [h.w]; decide)]
 split
 ·exact h
 ·rename_i e
  exact hb (by simpa using e)
end
theorem zack (l k:Int):zd6 l k<=l\/zd6 l k=0:=by
 have:=zc8 k
 unfold zd6
 by_cases h1:zcq k<l
 ·simp only [h1,if_true]
  split
  ·exact .inl (by omega)
  ·exact .inr rfl
 ·simp only [h1,if_false]
  split
  ·exact .inl (by omega)
  ·exact .inr rfl
section
variable {K:Int} {W:Wld}
theorem zafo (h:SF K K W) {k c d:Int} (hu:zae W.groups k=true) (hd:dep 3 W.groups k=d) (d1:1<=d) (c0:0<=c) (c1:c<(W.cpus.length:Int)):SF K K (setSh W k c (zda W k c)):=by
 have hz:k≠0:=fun e=>by subst e; rw [zcv] at hd; omega
 have hp:=h.w.a.up hu hz
 have s1:=h.w.s k c hu c0 c1
 have s2:=h.w.s _ c hp c0 c1
 have lc:=zeh ((shf W k c).v - (shf W (gi W.groups k).parent c).floor) (shf W k c).w
 have lu:=zack ((shf W k c).v - (shf W (gi W.groups k).parent c).floor) (shf W k c).w
 refine h.setSh hu c0 c1 s1.1 s1.2.1 s1.2.1 ?_ ?_ s1.2.2.2.2.1 s1.2.2.2.2.2
 ·simp only [zda]; split <;> omega
 ·simp only [zda]; split
  ·rcases lu with e | e <;> omega
  ·omega
theorem z87 (h:SF K K W) {c d:Int} (d1:1<=d) (c0:0<=c) (c1:c<(W.cpus.length:Int)):∀k:Nat,k<=8->SF K K (zcd W c d k)/\zgt W (zcd W c d k)
 | 0,_=>⟨h,zgt.refl _⟩
 | k+1,hk8=>by
  obtain ⟨ih,io⟩:=z87 h (d:=d) d1 c0 c1 k (by omega)
  have hl:=ih.w.a.gl
  simp only [zcd]
  split
  ·rename_i hc
   have hu:zae (zcd W c d k).groups (k:Int)=true:=zac.2 ⟨by omega,by omega,hc.1⟩
   exact ⟨zafo ih hu hc.2 d1 c0 (by rw [io.c]; exact c1),io.trans (zhf (by omega) (by omega))⟩
  ·exact ⟨ih,io⟩
theorem zxn (h:SF K K W) {c:Int} (c0:0<=c) (c1:c<(W.cpus.length:Int)):∀j:Nat,j<=3->SF K K (zdz W c j)/\zgt W (zdz W c j)
 | 0,_=>⟨h,zgt.refl _⟩
 | j+1,hj=>by
  obtain ⟨a1,b1⟩:=zxn h c0 c1 j (by omega)
  obtain ⟨a2,b2⟩:=z87 a1 (c:=c) (d:=3 - (j:Int)) (by omega) c0 (by rw [b1.c]; exact c1) 8 (by omega)
  exact ⟨a2,b1.trans b2⟩
theorem z50 (h:SF K K W):∀c:Nat,c<=W.cpus.length->SF K K (zbq W c)/\zgt W (zbq W c)
 | 0,_=>⟨h,zgt.refl _⟩
 | c+1,hc=>by
  obtain ⟨a,b⟩:=z50 h c (by omega)
  obtain ⟨a2,b2⟩:=zxn a (c:=(c:Int)) (by omega) (by rw [b.c]; omega) 3 (Nat.le_refl _)
  exact ⟨a2,b.trans b2⟩
theorem zage (h:SW K W) (hK:0<=K) {c:Int} (c0:0<=c) (c1:c<(W.cpus.length:Int)):SW K (zhl W c)/\Fr W (zhl W c):=by
 obtain ⟨a1,b1⟩:=zxn h.sf c0 c1 3 (Nat.le_refl _)
 obtain ⟨a2,b2⟩:=zjp a1.w hK c0 (c:=c) (by rw [b1.c]; exact c1) 8 (by omega)
 have hf:=b1.fr.trans b2.fr
 unfold zhl
 split
 ·exact ⟨SW.endW a2 c0 (by show c<((za3 (zdz W c 3) c 8).cpus.length:Int); rw [hf.c]; exact c1),hf.trans (z5r _ _)⟩
 ·exact ⟨a2,hf⟩
theorem z9s (h:SW K W) (hK:0<=K):∀c:Nat,c<=W.cpus.length->SW K (zeo W c)/\Fr W (zeo W c)
 | 0,_=>⟨h,Fr.refl _⟩
 | c+1,hc=>by
  obtain ⟨a,b⟩:=z9s h hK c (by omega)
  obtain ⟨a2,b2⟩:=zage a hK (c:=(c:Int)) (by omega) (by rw [b.c]; omega)
  exact ⟨a2,b.trans b2⟩
theorem zadr (h:SW K W) (hK:0<=K):SW K (zah W)/\Fr W (zah W):=by
 obtain ⟨a1,b1⟩:=z50 h.sf W.cpus.length (Nat.le_refl _)
 obtain ⟨a2,b2⟩:=zh9 a1 8 (by omega)
 have hf:=b1.fr.trans b2.fr
 obtain ⟨a3,b3⟩:=z9s a2.w hK W.cpus.length (by show W.cpus.length<=(zdm (zbq W W.cpus.length) 8).cpus.length; rw [hf.c]; exact Nat.le_refl _)
 exact ⟨a3,hf.trans b3⟩
end
structure LwX (K S:Int) (W:Wld):Prop where
 sw:SW K W
 rb:RB S W
 i:∀c:Int,0<=c->c<(W.cpus.length:Int)->(gi W.cpus c).idle<=S
 nw:W.now<=S
 up:∀c:Int,0<=c->c<(W.cpus.length:Int)->(gi W.cpus c).up=true
section
variable {K K' S S':Int} {W W':Wld}
theorem LwX.mono (h:LwX K S W) (hk:K<=K') (hs:S<=S'):LwX K' S' W:=⟨h.sw.mono hk,h.rb.mono hs,fun c a b=>Int.le_trans (h.i c a b) hs,Int.le_trans h.nw hs,h.up⟩
theorem LwX.sum (h:LwX K S W) (k:SumC W W') (hT:zb6 W.groups W'.groups) (hl:W'.cpus.length=W.cpus.length) (sw:SW K' W'):LwX K' S W':=⟨sw,h.rb.sum k hT hl,fun c a b=>by rw [hl] at b; rw [k.i]; exact h.i c a b,by rw [k.n]; exact h.nw,fun c a b=>by rw [hl] at b; rw [k.u]; exact h.up c a b⟩
theorem LwX.settle (h:LwX K S W) (hK:0<=K):LwX K S (zah W):=by
 obtain ⟨s,f⟩:=zadr h.sw hK
 exact h.sum (z1q W) f.g f.c s
theorem LwX.endW (h:LwX K S W) {c:Int} (c0:0<=c) (c1:c<(W.cpus.length:Int)):LwX K S (endW W c):=h.sum (z4t W c) (zb6.refl _) List.length_set (h.sw.endW c0 c1)
theorem zaki (W:Wld) {g:Int} {x:Grp} (h1:x.sum=(gi W.groups g).sum) (h2:x.shelves=(gi W.groups g).shelves):SumC W (setGr W g x):=
 ⟨rfl,rfl,fun i d=>zb8 (f:=fun G:Grp=>(gi G.shelves d).sum) W.groups g (x:=x) (by rw [h2]) i,fun i=>zb8 (f:=Grp.sum) W.groups g (x:=x) h1 i,fun _=>rfl,fun _=>rfl,fun _=>rfl,fun _=>.inl rfl⟩
theorem zagf (W:Wld) (g c x:Int):SumC W (weiW W g c x):=by
 unfold weiW
 split
 ·exact SumC.refl _
 ·split
  ·exact (z9u W (g:=g) (c:=c) (s:=weiS W g c x) rfl).trans (z4t _ _)
  ·exact z9u W (g:=g) (c:=c) (s:=weiS W g c x) rfl
theorem z9v (W:Wld) (g x:Int):∀c:Nat,SumC W (weiN W g x c)
 | 0=>SumC.refl _
 | c+1=>(z9v W g x c).trans (zagf _ _ _ _)
theorem zaih {n:Nat} (n0:1<=n) (n1:n<=4):LwX 0 0 (newW n):=by
 have hl:(newW n).cpus.length=n:=by simp [newW]
 have wp:=(zacc n0 n1).wp
 refine ⟨⟨wp.a,fun t a b h => ?_,fun t a b => ?_,fun k c u a b => ?_,fun c a b => ?_⟩,⟨by show (0:Int)<=_; decide,fun t a b => ?_,fun k c u a b => ?_,fun k u => ?_,fun c a b => ?_⟩,fun c a b => ?_,Int.le_refl _,fun c a b => ?_⟩
 ·rw [z6f t a b] at h; exact absurd rfl h
 ·rw [z6f t a b]; exact ⟨Int.le_refl _,Int.le_refl _⟩
 ·rw [(zacz k).1 u,zacx c a (by omega)]; simp only [newS]; decide
 ·rw [z09 c a (by omega)]; simp only []; decide
 ·rw [z6f t a b]; simp only [zn6]; decide
 ·rw [(zacz k).1 u,zacx c a (by omega)]; simp only [newS]; decide
 ·rw [(zacz k).1 u,znl 0 (by decide) (by decide),if_pos rfl]; simp only [newG]; decide
 ·rw [z09 c a (by omega)]; simp only []; decide
 ·rw [z09 c a (by omega)]; exact Int.le_refl _
 ·rw [z09 c a (by omega)]
theorem zaj2 (h:LwX K S W) (iv:Inv W) {a p:Int} {name:ByteArray} (hm:MkW W a p name) (K0:0<=K) (S0:0<=S):LwX K S (mkW W a p name):=by
 have ha:=iv.wp.a
 refine ⟨⟨(zag0 iv hm).wp.a,fun t x y n => ?_,h.sw.tv,fun k c u x y => ?_,h.sw.cu⟩,⟨h.rb.n,h.rb.t,fun k c u x y => ?_,fun k u => ?_,h.rb.c⟩,h.i,h.nw,h.up⟩
 ·have:=h.sw.t t x y n
  exact ⟨(zl0 ha hm).2 (.inl this.1),this.2⟩
 ·rcases (zl0 ha hm).1 u with e | e
  ·rw [znj ha hm e]; exact h.sw.s k c e x y
  ·rw [e,z30 ha hm x y]
   simp only [newS]; omega
 ·rcases (zl0 ha hm).1 u with e | e
  ·rw [znj ha hm e]; exact h.rb.s k c e x y
  ·rw [e,z30 ha hm x y]
   simp only [newS]; omega
 ·rcases (zl0 ha hm).1 u with e | e
  ·rw [ztk ha hm e]; exact h.rb.g k e
  ·rw [e,zq6 ha hm]
   simp only [newG]; omega
theorem zaij (h:LwX K S W) (hW:zbi W=true) {g x:Int} (hb:wghB W g x=0) (K0:0<=K):LwX (K+lagB) S (wghW W g x):=by
 obtain ⟨h1,h2,h3,_,_,_,h6,h7⟩:=z9z hW hb
 have wp:=zbp.1 hW
 have hx:=za6.1 h1
 obtain ⟨u0,u1,hg⟩:=wp.a.u h3
 have s1:=h.sw.setGr (x:=wghG W g x) h3 rfl rfl rfl rfl ⟨hx.1,hx.2,hg.m,hg.m0,hg.s,hg.len,fun h=>absurd h h2,hg.none,hg.band⟩
 obtain ⟨a,b,_⟩:=zyx (s1.sf.mono (Int.le_refl _) (by simp only [lagB]; omega)) (Int.le_refl _) h6 (g:=g) (x:=x) (by rw [h7.usd]; exact h3) h2 hx.1 hx.2 W.cpus.length (Nat.le_refl _)
 have k:=h.sum ((zaki W (g:=g) (x:=wghG W g x) rfl rfl).trans (z9v (setGr W g (wghG W g x)) g x W.cpus.length)) (h7.trans b.g) b.c a.w
 exact k.settle (by simp only [lagB]; omega)
theorem zafs (h:LwX K S W) (hW:zbi W=true) {g n x:Int} (hb:zmm W g n x=0) (K0:0<=K) (S0:0<=S):LwX K S (zaad W g n x):=by
 have hf:=z26 hW hb
 have wp:=zbp.1 hW
 have hs:=h.sw.s g (zsf W g x) hf.u hf.c0 hf.c1
 have s1:LwX K S (setTk W (zlf W) (zpr W g n x)):=⟨h.sw.setTk hf.f0 hf.f1 (x:=zpr W g n x) (fun _=>⟨hf.u,hf.c0,hf.c1⟩) hs.1 hs.2.1,h.rb.setTk wp.a.t hf.f0 hf.f1 (x:=zpr W g n x) (by simp only [zpr]; omega),h.i,h.nw,h.up⟩
 exact (s1.endW hf.c0 hf.c1).settle K0
theorem zaii (h:LwX K S W) (hW:zbi W=true) (hq:NoQ W) {c n:Int} (hb:runB W c n=0) (K0:0<=K) (S0:0<=S) (hS:S+500<=50000000000000000):LwX (K+5*lagB) (S+500) (runW W c n):=by
 obtain ⟨hn,_,_,_,hI⟩:=zyh hW hb
 have hn:=za6.1 hn
 have c0:=hI.c0
 have c1:=hI.c1
 have hcu:=h.sw.cu c c0 c1
 have hr:=h.rb.c c c0 c1
 have hri:=h.i c c0 c1
 have hlg:0<=lagB:=by decide
 by_cases hp:zaf W c<0
 ·show LwX _ _ (runN c 400 W n)
  rw [zli (by omega) hp]
  have hlen:(setCp W c (idlC W c n)).cpus.length=W.cpus.length:=List.length_set
  have hg:∀d:Int,0<=d->gi (setCp W c (idlC W c n)).cpus d=if c=d then idlC W c n else gi W.cpus d:=fun d d0=>za4 _ _ c0 c1 d0
  have s1:LwX K (S+500) (setCp W c (idlC W c n)):=by
   refine ⟨h.sw.setCp c0 c1 (z68 (c:=c) (by rw [List.length_set]; exact h.sw.a.c2) c0 (by rw [List.length_set]; exact c1) (by rw [show gi (W.cpus.set c.toNat (idlC W c n)) c=idlC W c n from (za4 _ _ c0 c1 c0).trans (if_pos rfl)]; exact hI.up)) hcu.1 hcu.2,(h.rb.mono (by omega)).setCp c0 c1 ⟨hr.1,by show (gi W.cpus c).busy<=_; omega,by show 0<=(gi W.cpus c).idle+n; omega,by show (gi W.cpus c).idle+n<=_; omega,hr.2.2.2.2.1,hr.2.2.2.2.2⟩,fun d a b => ?_,by have:=h.nw; show W.now<=S+500; omega,fun d a b => ?_⟩
   ·rw [hlen] at b
    rw [hg d a]
    split
    ·show (gi W.cpus c).idle+n<=_; omega
    ·have:=h.i d a b; omega
   ·rw [hlen] at b
    rw [hg d a]
    split
    ·exact hI.up
    ·exact h.up d a b
  exact ((s1.endW c0 (by rw [hlen]; exact c1)).settle K0).mono (by omega) (Int.le_refl _)
 ·have hR:=zrk hI (by omega) hp
  obtain ⟨_,_,e3,_⟩:=z8c hI hq (by omega) hp
  have t0:=hR.line.t0
  have t1:=hR.line.t1
  obtain ⟨s1,r1,u1,ran1,_,l1⟩:=zpy h.sw h.rb c0 c1 hI.up t0 t1
  have hx:=zwc (t:=zaf W c) (n:=n) s1 r1 (by omega) c0 (by rw [l1]; exact c1) u1 ran1 t0 t1 hR.us (by omega) (by omega)
  have hcp:(chL c n (pthR (zbu W c (zaf W c)) (zaf W c)) (setTk (zbu W c (zaf W c)) (zaf W c) (chT (zbu W c (zaf W c)) (zaf W c) n))).cpus=(zbu W c (zaf W c)).cpus:=hx.2.2.2.2.2.2.2.2.cp
  have hlen:(chW (zbu W c (zaf W c)) c (zaf W c) n).cpus.length=W.cpus.length:=by rw [hx.2.2.2.2.1,l1]
  have hidle:∀d:Int,(gi (chW (zbu W c (zaf W c)) c (zaf W c) n).cpus d).idle=(gi W.cpus d).idle:=fun d=>by
   show (gi ((chL c n (pthR (zbu W c (zaf W c)) (zaf W c)) (setTk (zbu W c (zaf W c)) (zaf W c) (chT (zbu W c (zaf W c)) (zaf W c) n))).cpus.set c.toNat (chC (zbu W c (zaf W c)) c n)) d).idle=_
   rw [hcp,zb8 (f:=Cpu.idle) (zbu W c (zaf W c)).cpus c (x:=chC (zbu W c (zaf W c)) c n) rfl d]
   exact zb8 (f:=Cpu.idle) W.cpus c (x:=zdb W c (zaf W c)) (by unfold zdb; split <;> rfl) d
  have hup:∀d:Int,(gi (chW (zbu W c (zaf W c)) c (zaf W c) n).cpus d).up=(gi W.cpus d).up:=fun d=>by
   show (gi ((chL c n (pthR (zbu W c (zaf W c)) (zaf W c)) (setTk (zbu W c (zaf W c)) (zaf W c) (chT (zbu W c (zaf W c)) (zaf W c) n))).cpus.set c.toNat (chC (zbu W c (zaf W c)) c n)) d).up=_
   rw [hcp,zb8 (f:=Cpu.up) (zbu W c (zaf W c)).cpus c (x:=chC (zbu W c (zaf W c)) c n) rfl d]
   exact zb8 (f:=Cpu.up) W.cpus c (x:=zdb W c (zaf W c)) (by unfold zdb; split <;> rfl) d
  have k:LwX (K+5*lagB) (S+500) (chW (zbu W c (zaf W c)) c (zaf W c) n):=⟨hx.1,hx.2.1,fun d a b=>by rw [hlen] at b; rw [hidle]; have:=h.i d a b; omega,by rw [hx.2.2.2.1]; have:=h.nw; show W.now<=_; omega,fun d a b=>by rw [hlen] at b; rw [hup]; exact h.up d a b⟩
  show LwX _ _ (runN c 400 W n)
  rw [zj6 (by omega) hp,e3,zl4 (f:=398) (Int.le_refl 0)]
  exact (k.settle (by omega)).settle (by omega)
end
def Lw (n:Nat) (W:Wld):Prop:=LwX ((n:Int)*200000000000) ((n:Int)*500) W
section
variable {n m:Nat} {W:Wld}
theorem Lw.mono (h:Lw n W) (hm:n<=m):Lw m W:=LwX.mono h (by omega) (by omega)
theorem zakx (h:Lw n W) (iv:Inv W) {a p:Int} {name:ByteArray} (hm:MkW W a p name):Lw n (mkW W a p name):=zaj2 h iv hm (by omega) (by omega)
theorem zaj1 (h:Lw n W) (hW:zbi W=true) {g x:Int} (hb:wghB W g x=0):Lw (n+1) (wghW W g x):=(zaij h hW hb (by omega)).mono (by simp only [lagB]; omega) (by omega)
theorem zaig (h:Lw n W) (hW:zbi W=true) {g c x:Int} (hb:zmm W g c x=0):Lw n (zaad W g c x):=zafs h hW hb (by omega) (by omega)
theorem zaj0 (h:Lw n W) (hW:zbi W=true) (hq:NoQ W) {c x:Int} (hb:runB W c x=0) (hn:n<=10000):Lw (n+1) (runW W c x):=(zaii h hW hq hb (by omega) (by omega) (by omega)).mono (by simp only [lagB]; omega) (by omega)
end
structure CrS (rb:Nat) (c:Option Addr) (L N:Nat) (bs:List Nat) (w0 w:World) (W:Wld) (m:MW):Prop where
 cr:Cr W
 lw:Lw N W
 s:Sc w0 (rb::bs) w
 r:RS rb c L N bs w
 o:OW 8 w0.heap.size (rb::bs) w W m
section
variable {rb b:Nat} {c:Option Addr} {L N:Nat} {bs cs:List Nat} {w0 w w':World} {W W':Wld} {m m':MW}
theorem CrS.step (h:CrS rb c L N bs w0 w W m) (hx:ExtX bs w w'):CrS rb c L N bs w0 w' W m:=⟨h.cr,h.lw,h.s.stepB hx,h.r.step hx,h.o.step (hx.mono fun _ hm=>List.mem_cons_of_mem _ hm)⟩
theorem CrS.put (h:CrS rb c L N bs w0 w W m) (hx:ExtX bs w w') (hb:w.heap.size<=b):CrS rb c L N (bs++[b]) w0 w' W m:=⟨h.cr,h.lw,h.s.putB hx hb,h.r.put hx hb,h.o.put (hx.mono fun _ hm=>List.mem_cons_of_mem _ hm) hb⟩
theorem CrS.sub (h:CrS rb c L N bs w0 w W m) (hs:∀x∈cs,x∈bs):CrS rb c L N cs w0 w W m:=by
 have k:∀x∈rb::cs,x∈rb::bs:=fun x hx=>by
  rcases List.mem_cons.1 hx with h1 | h1
  ·rw [h1]; exact List.mem_cons_self
  ·exact List.mem_cons_of_mem _ (hs x h1)
 exact ⟨h.cr,h.lw,h.s.sub k,h.r.sub hs,h.o.sub k⟩
theorem CrS.mono {M:Nat} (h:CrS rb c L N bs w0 w W m) (hm:N<=M):CrS rb c L M bs w0 w W m:=⟨h.cr,h.lw.mono hm,h.s,h.r.mono hm,h.o⟩
theorem CrS.rd (h:CrS rb c L N bs w0 w W m):RdW [] w W m:=h.o.rd0
theorem CrS.pick (h:CrS rb c L N bs w0 w W m) (hN:N<=1000000000000) (hs:∀x∈bs,x<w.heap.size) {n:Int} :
  Calls Tryz.prog zag #[.pointer (some ⟨rb,0,none⟩),.int .i64 n] w fun e w'=>∃v,e = .returned (.int .i64 v)/\Kept bs w w'/\z1u n v/\CrS rb c L (N+1) bs w0 w' W m:=
 (zag2 h.r.rd hN).mono fun e w' ⟨v,he,hp,hr,hx⟩=>⟨v,he,zag3 h.r hx hs,hp,h.cr,h.lw.mono (by omega),h.s.stepR hx,h.r.upd hr,h.o.step (hx.mono fun x hm=>by
  have:x=rb:=by simpa using hm
  subst this; exact List.mem_cons_self)⟩
theorem CrS.deed {n M:Nat} (h:CrS rb c L N bs w0 w W m) (hs:∀x∈bs,x<w.heap.size) (hM:MWd n w.heap.size w' W' m') (hx:ExtX [] w w') (hc:Cr W') (hN:N<=M) (hl:Lw M W'):CrS rb c L M bs w0 w' W' m':=by
 have hn:n=8:=hM.len.symm.trans hc.iv.wp.a.gl
 subst hn
 have hb:∀x∈rb::bs,x<w.heap.size:=fun x hm=>by
  rcases List.mem_cons.1 hm with h1 | h1
  ·rw [h1]; exact h.r.rd.lt
  ·exact hs x h1
 exact ⟨hc,hl,h.s.call0 hx,(h.r.call0 hx).mono hN,(OW.of hM hb).mono h.s.ext.size⟩
theorem zag4 {W W':Wld} {M:Nat} (h:Cr W) (hl:Lw M W) {bar:Int} (hb:bar=0->Lw M W'):Lw M (ansD W bar W').1:=by
 unfold ansD
 rw [if_neg (by rw [h.w]; decide)]
 split
 ·exact hl
 ·rename_i e
  exact hb (by simpa using e)
theorem zacp {W W':Wld} {M:Nat} (h:Cr W) (hl:Lw M W) {bar a:Int} (hb:bar=0->Lw M W'):Lw M (zol W bar W' a).1:=by
 unfold zol
 rw [if_neg (by rw [h.w]; decide)]
 split
 ·exact hl
 ·rename_i e
  exact hb (by simpa using e)
theorem zacl {V:Wld} (ha:WA V):LenW V:=by
 have h1:=ha.c2
 have h2:=ha.t
 have h3:=ha.gl
 have hm:=zcx
 have hn1:=ha.n1
 have hn2:=ha.n2
 refine ⟨by omega,by omega,by omega,fun i a b => ?_⟩
 have hb:=zqe ha a (by omega)
 have hg:=ha.grp i a (by omega)
 have hz:(⟨[].toArray⟩:ByteArray).size=0:=rfl
 refine ⟨?_,?_,by omega,by omega,by omega⟩
 ·cases hu:(gi V.groups i).used with
  | false=>rw [(hg.1 hu).n,hz]; omega
  | true=>
   by_cases e:i=0
   ·rw [e,ha.tree.rn,hz]; omega
   ·have:=(zn9.1 (ha.tree.nm i (by omega) (by omega) hu)).1
    omega
 cases hu:(gi V.groups i).used with
 | false=>rw [(hg.1 hu).ne]; exact ⟨by decide,by decide⟩
 | true=>
  have hg:=hg.2 hu
  by_cases hq:(gi V.groups i).band.quota=0
  ·rw [(hg.none hq).2.2]; exact ⟨by decide,by decide⟩
  ·have:=hg.band hq
   exact ⟨by omega,by omega⟩
theorem CrS.len (h:CrS rb c L N bs w0 w W m):LenW W:=zacl h.cr.iv.wp.a
theorem CrS.mak {p:Int} {name:ByteArray} (h:CrS rb c L N bs w0 w W m) (hs:∀x∈bs,x<w.heap.size) :
  Calls Tryz.prog zav #[.agg (encW W m).toArray,.int .i64 p,.string name] w fun e w'=>∃(W':Wld) (m':MW) (a d:Int),e = .returned (.tuple #[.agg (encW W' m').toArray,.int .i64 a,.int .i64 d])/\Kept bs w w'/\CrS rb c L N bs w0 w' W' m':=
 (zuc h.rd h.len).mono fun e w' ⟨v,he,n,m',hv,hM,hx⟩=>by subst hv; exact ⟨_,m',_,_,he,zaz hx hs,h.deed hs hM hx (zabl h.cr (zajm h.cr)) (Nat.le_refl _) (zacp h.cr h.lw fun hb=>zakx h.lw h.cr.iv (zacr hb).1)⟩
theorem CrS.wgh {g x:Int} (h:CrS rb c L N bs w0 w W m) (hs:∀x∈bs,x<w.heap.size) :
  Calls Tryz.prog ze7 #[.agg (encW W m).toArray,.int .i64 g,.int .i64 x] w fun e w'=>∃(W':Wld) (m':MW) (d:Int),e = .returned (.tuple #[.agg (encW W' m').toArray,.int .i64 d])/\Kept bs w w'/\CrS rb c L (N+1) bs w0 w' W' m':=
 (zsh h.rd h.len).mono fun e w' ⟨v,he,n,m',hv,hM,hx⟩=>by subst hv; exact ⟨_,m',_,he,zaz hx hs,h.deed hs hM hx (zagv h.cr (zajo h.cr)) (Nat.le_succ _) (zag4 h.cr (h.lw.mono (Nat.le_succ _)) fun hb=>zaj1 h.lw h.cr.w hb)⟩
theorem CrS.fork {g n x:Int} (h:CrS rb c L N bs w0 w W m) (hs:∀x∈bs,x<w.heap.size) :
  Calls Tryz.prog zge #[.agg (encW W m).toArray,.int .i64 g,.int .i64 n,.int .i64 x] w fun e w'=>∃(W':Wld) (m':MW) (a d:Int),e = .returned (.tuple #[.agg (encW W' m').toArray,.int .i64 a,.int .i64 d])/\Kept bs w w'/\CrS rb c L N bs w0 w' W' m':=
 (zxa h.rd h.len).mono fun e w' ⟨v,he,n,m',hv,hM,hx⟩=>by subst hv; exact ⟨_,m',_,_,he,zaz hx hs,h.deed hs hM hx (zabl h.cr (zahr h.cr)) (Nat.le_refl _) (zacp h.cr h.lw fun hb=>zaig h.lw h.cr.w hb)⟩
theorem CrS.run {q n:Int} (h:CrS rb c L N bs w0 w W m) (hN:N<=10000) (hs:∀x∈bs,x<w.heap.size) :
  Calls Tryz.prog zdn #[.agg (encW W m).toArray,.int .i64 q,.int .i64 n] w fun e w'=>∃(W':Wld) (m':MW) (d:Int),e = .returned (.tuple #[.agg (encW W' m').toArray,.int .i64 d])/\Kept bs w w'/\CrS rb c L (N+1) bs w0 w' W' m':=
 (zj1 h.rd h.len).mono fun e w' ⟨v,he,n,m',hv,hM,hx⟩=>by subst hv; exact ⟨_,m',_,he,zaz hx hs,h.deed hs hM hx (zagv h.cr (zagw h.cr)) (Nat.le_succ _) (zag4 h.cr (h.lw.mono (Nat.le_succ _)) fun hb=>zaj0 h.lw h.cr.w h.cr.nq hb hN)⟩
end
section
variable {rb b b2:Nat} {c:Option Addr} {L N:Nat} {bs:List Nat} {w0 w w':World} {W:Wld} {m:MW}
theorem CrS.put2 (h:CrS rb c L N bs w0 w W m) (hx:ExtX bs w w') (hb:w.heap.size<=b) (hb2:w.heap.size<=b2):CrS rb c L N (bs++[b]++[b2]) w0 w' W m:=by
 have k:=h.put (ExtX.refl _ _) hb
 have k2:=k.put (ExtX.refl _ _) hb2
 have hx':ExtX (rb::(bs++[b]++[b2])) w w':=hx.mono fun x hm=>by simp [hm]
 exact ⟨h.cr,h.lw,k2.s.step hx',k2.r.step (hx.mono fun x hm=>by simp [hm]),k2.o.step hx'⟩
def CrM (rb:Nat) (c:Option Addr) (L N:Nat) (bs0:List Nat) (w0:World) (vs:List Value) (bs:List Nat) (w:World):Prop:=
 bs=[]/\∃(W:Wld) (m:MW),vs=encW W m/\CrS rb c L N bs0 w0 w W m
end
theorem pv {n:Nat} {v:Int} (hp:z1u (n:Int) v) (hn:1<=n):0<=v/\v<(n:Int):=⟨hp.1,hp.2.2 (by omega)⟩
theorem el4 {v:Int} {P:Int->Prop} (hp:z1u 4 v) (h:∀x,P x):∃x:Int,(0<=v/\([.int .i64 0,.int .i64 0,.int .i64 1,.int .i64 2]:List Value)[Int.toNat v+0]? = some (.int .i64 x))/\P x:=by
 have h0:=hp.1
 have h1:=hp.2.2 (by decide)
 have:v=0\/v=1\/v=2\/v=3:=by omega
 rcases this with rfl | rfl | rfl | rfl
 ·exact ⟨0,⟨h0,rfl⟩,h _⟩
 ·exact ⟨0,⟨h0,rfl⟩,h _⟩
 ·exact ⟨1,⟨h0,rfl⟩,h _⟩
 ·exact ⟨2,⟨h0,rfl⟩,h _⟩
theorem el3 {v:Int} {P:ByteArray->Prop} (hp:z1u 3 v) (h:∀x,P x):∃x:ByteArray,(0<=v/\([.string (ByteArray.mk [97].toArray),.string (ByteArray.mk [98].toArray),.string (ByteArray.mk [119,101,98].toArray)]:List Value)[Int.toNat v+0]? = some (.string x))/\P x:=by
 have h0:=hp.1
 have h1:=hp.2.2 (by decide)
 have:v=0\/v=1\/v=2:=by omega
 rcases this with rfl | rfl | rfl
 ·exact ⟨_,⟨h0,rfl⟩,h _⟩
 ·exact ⟨_,⟨h0,rfl⟩,h _⟩
 ·exact ⟨_,⟨h0,rfl⟩,h _⟩
set_option maxHeartbeats 4000000 in
theorem zz5 {c:Option Addr} {L C:Nat} {w:World} (h:z1s c L w) (hC:L<=C) :
  Calls Tryz.prog zjt #[.slice c L C] w fun e w'=>∃(W:Wld) (m:MW),e = .returned (.agg (encW W m).toArray)/\(Cr W/\Lw 200 W)/\MWd 8 w.heap.size w' W m/\ExtX [] w w':=by
 refine (zzm c L C (R:=fun v w'=>∃(W:Wld) (m:MW),v = .agg (encW W m).toArray/\(Cr W/\Lw 200 W)/\MWd 8 w.heap.size w' W m/\ExtX [] w w') ?_).mono fun e w' ⟨v,he,W,m,hv,h3⟩=>⟨W,m,by rw [he,hv],h3⟩
 intro b hb wr hx hs
 refine (zaah (h.ext hx) hC).mono ?_
 rintro e wv ⟨rb,c',L',he,hrb,hR,hx1,hblk⟩
 have hRS:RS rb c' L' 0 [b] wv:=⟨hR,fun hm=>by
  have:=hs rb hm
  omega,fun a' ha'=>by
  rcases hblk a' ha' with h0 | ⟨h0,a,ha,hab⟩
  ·exact .inr h0
  ·refine .inl fun hm => ?_
   obtain ⟨a0,x0,ha0,_,_,h30⟩:=h 0 h0
   have hlt2:=World.block_lt_of_cell? w _ h30
   rw [zb2] at hlt2
   rw [ha] at ha0; cases ha0
   have:a'.block=b:=by simpa using hm
   omega⟩
 have s1:Sc w (rb::[b]) wv:=⟨hx.trans hx1,fun x hm=>by
  rcases List.mem_cons.1 hm with h1 | h1
  ·have:=hx.size; omega
  ·have:x=b:=by simpa using h1
   omega⟩
 refine ⟨_,he,zaz hx1 hs,fun wr1 hx2 hs2 => ?_⟩
 have hRS1:=hRS.step hx2
 refine (zag2 hRS1.rd (by decide)).mono ?_
 rintro e1 wv1 ⟨v,he1,hp,hR1,hx3⟩
 have hv0:=hp.1
 have hv2:=hp.2.2 (by decide)
 refine ⟨_,he1,zag3 hRS1 hx3 hs2,⟨by omega,by omega⟩,fun wr2 hx4 hs4 => ?_⟩
 have hRS2:=(hRS1.upd hR1).step hx4
 have s2:=((s1.stepB hx2).stepR hx3).stepB hx4
 obtain ⟨n,hn⟩:∃n:Nat,1+v=(n:Int):=⟨(1+v).toNat,by omega⟩
 rw [hn]
 refine (zxb (n:=n) (by omega) (by omega)).mono ?_
 rintro e2 wv2 ⟨m,he2,hM,hx5⟩
 have hb2:∀x∈rb::[b],x<wr2.heap.size:=fun x hm=>by
  rcases List.mem_cons.1 hm with h1 | h1
  ·rw [h1]; exact hRS2.rd.lt
  ·exact hs4 x h1
 have hK:CrS rb c' L' 1 [b] w wv2 (newW n) m:=⟨zajn (by omega) (by omega),Lw.mono (n:=0) (LwX.mono (zaih (by omega) (by omega)) (by decide) (by decide)) (by omega),s2.call0 hx5,hRS2.call0 hx5,(OW.of hM hb2).mono s2.ext.size⟩
 refine ⟨_,_,_,_,_,_,_,_,_,_,_,he2,zaz hx5 hs4,fun b1 hb1 wr3 hx6 hs6 => ?_⟩
 refine ((hK.put hx6 hb1).pick (by decide) hs6).mono ?_
 rintro e3 wv3 ⟨v1,he3,hk3,hp1,hK1⟩
 have hv10:=hp1.1
 have hv12:=hp1.2.2 (by decide)
 refine ⟨_,he3,hk3,?_⟩
 refine ⟨fun vs w2=>∃(k N:Nat) (W:Wld) (m:MW),vs = .int .i64 (k:Int)::encW W m/\(k:Int)<=v1/\N<=2+4*k/\CrS rb c' L' N [b,b1] w w2 W m,zd5 v1.toNat 0,fun wr8 hx8 _=>⟨0,2,newW n,m,rfl,hv10,by omega,hK1.step hx8⟩,?_⟩
 clear hK1 hk3 he3 hs6 hx6 hM hK he2 hx5
 rintro i1 l l1O l1L l1C l2O l2L l2C l3O l3L l3C wv8 hs8 ⟨k,N,W,m,he8,hk,hN,hK⟩
 simp only [encW,List.cons.injEq,Value.int.injEq,Value.slice.injEq,true_and,and_true] at he8
 obtain ⟨rfl,rfl,⟨rfl,rfl,rfl⟩,⟨rfl,rfl,rfl⟩,rfl,rfl,rfl⟩:=he8
 refine ⟨fun hlt=>⟨CrM rb c' L' (N+2) [b,b1] w,?_,?_⟩,fun hge => ?_⟩
 ·have hlt:=of_decide_eq_true hlt
  repeat' first
   | exact rfl
   | (refine pv (n:=4) ?_ (by decide); assumption)
   | (refine pv (n:=3) ?_ (by decide); assumption)
   | (refine And.intro ?_ ?_)
   | (refine el4 (by assumption) fun x => ?_)
   | (refine el3 (by assumption) fun x => ?_)
   | (intro (b:Nat) hb)
   | (intro (wr:World) hx hs; refine (CrS.pick (CrS.step (by assumption) hx) ?_ hs).mono ?_; rotate_left; rintro e w2 ⟨v,he,hk,hp,hC⟩; refine ⟨_,he,hk,?_⟩)
   | (intro (wr:World) hx hs; refine (CrS.pick (CrS.put (by assumption) hx (by assumption)) ?_ hs).mono ?_; rotate_left; rintro e w2 ⟨v,he,hk,hp,hC⟩; refine ⟨_,he,hk,?_⟩)
   | (intro (wr:World) hx hs; refine (CrS.pick (CrS.put2 (by assumption) hx (by assumption) (by assumption)) ?_ hs).mono ?_; rotate_left; rintro e w2 ⟨v,he,hk,hp,hC⟩; refine ⟨_,he,hk,?_⟩)
   | (intro (wr:World) hx hs; refine (CrS.mak (CrS.step (by assumption) hx) hs).mono ?_; rintro e w2 ⟨W',m',a,d,he,hk,hC⟩; refine ⟨_,_,_,_,_,_,_,_,_,_,_,_,he,hk,?_⟩)
   | (intro (wr:World) hx hs; refine (CrS.mak (CrS.put (by assumption) hx (by assumption)) hs).mono ?_; rintro e w2 ⟨W',m',a,d,he,hk,hC⟩; refine ⟨_,_,_,_,_,_,_,_,_,_,_,_,he,hk,?_⟩)
   | (intro (wr:World) hx hs; refine (CrS.mak (CrS.put2 (by assumption) hx (by assumption) (by assumption)) hs).mono ?_; rintro e w2 ⟨W',m',a,d,he,hk,hC⟩; refine ⟨_,_,_,_,_,_,_,_,_,_,_,_,he,hk,?_⟩)
   | (intro (wr:World) hx hs; exact ⟨rfl,_,_,rfl,(CrS.step (by assumption) hx).sub (by simp)⟩)
   | omega
 ·have hlt:=of_decide_eq_true hlt
  rintro l4 l5O l5L l5C l6O l6L l6C l7O l7L l7C wv37 hs37 ⟨-,W2,m2,hv,hC⟩
  simp only [encW,List.cons.injEq,Value.int.injEq,Value.slice.injEq,true_and,and_true] at hv
  obtain ⟨rfl,⟨rfl,rfl,rfl⟩,⟨rfl,rfl,rfl⟩,rfl,rfl,rfl⟩:=hv
  refine ⟨⟨by omega,by omega⟩,fun wr49 hx49 hs49 => ?_⟩
  refine ((hC.step hx49).pick (by omega) hs49).mono ?_
  rintro e4 w38 ⟨v2,he4,hk4,hp4,hC2⟩
  have h1:=hp4.1
  have h2:=hp4.2.2 (by decide)
  refine ⟨_,he4,hk4,rfl,⟨by omega,by omega⟩,fun wr50 hx50 hs50 => ?_⟩
  refine ((hC2.step hx50).wgh hs50).mono ?_
  rintro e5 w39 ⟨W3,m3,d,he5,hk5,hC3⟩
  exact ⟨_,_,_,_,_,_,_,_,_,_,_,he5,hk5,⟨by omega,by omega⟩,fun wr51 hx51 _=>⟨⟨k+1,N+2+1+1,W3,m3,by simp [encW],by omega,by omega,hC3.step hx51⟩,zb0 (k:=k) rfl rfl (by omega)⟩⟩
 ·have hge:=of_decide_eq_false hge
  intro wr52 hx52 hs52
  refine ((hK.step hx52).pick (by omega) hs52).mono ?_
  rintro e6 w40 ⟨v3,he6,hk6,hp6,hC6⟩
  have h1:=hp6.1
  have h2:=hp6.2.2 (by decide)
  refine ⟨_,he6,hk6,⟨by omega,by omega⟩,?_⟩
  refine ⟨fun vs w2=>∃(k N:Nat) (W:Wld) (m:MW),vs = .int .i64 (k:Int)::encW W m/\(k:Int)<=1+v3/\N<=20+2*k/\CrS rb c' L' N [b,b1] w w2 W m,zd5 (1+v3).toNat 0,fun wr8 hx8 _=>⟨0,N+1,W,m,rfl,by omega,by omega,hC6.step hx8⟩,?_⟩
  clear hK hC6 hk6 he6 hs52 hx52
  rintro i3 l8 l9O l9L l9C l10O l10L l10C l11O l11L l11C wv45 hs45 ⟨k3,N3,W3,m3,he9,hk3,hN3,hK3⟩
  simp only [encW,List.cons.injEq,Value.int.injEq,Value.slice.injEq,true_and,and_true] at he9
  obtain ⟨rfl,rfl,⟨rfl,rfl,rfl⟩,⟨rfl,rfl,rfl⟩,rfl,rfl,rfl⟩:=he9
  refine ⟨fun hlt3=>⟨⟨by omega,by omega⟩,fun wr58 hx58 hs58 => ?_⟩,fun hge3 wr62 hx62 hs62 => ?_⟩
  ·have hlt3:=of_decide_eq_true hlt3
   refine ((hK3.step hx58).pick (by omega) hs58).mono ?_
   rintro e7 w46 ⟨v4,he7,hk7,hp7,hC7⟩
   refine ⟨_,he7,hk7,rfl,fun wr59 hx59 hs59 => ?_⟩
   refine ((hC7.step hx59).pick (by omega) hs59).mono ?_
   rintro e8 w47 ⟨v5,he8,hk8,hp8,hC8⟩
   have h3:=hp8.1
   have h4:=hp8.2.2 (by decide)
   refine ⟨_,he8,hk8,rfl,⟨by omega,by omega⟩,fun wr60 hx60 hs60 => ?_⟩
   refine ((hC8.step hx60).fork hs60).mono ?_
   rintro e9 w48 ⟨W4,m4,a,d,he9,hk9,hC9⟩
   exact ⟨_,_,_,_,_,_,_,_,_,_,_,_,he9,hk9,⟨by omega,by omega⟩,fun wr61 hx61 _=>⟨⟨k3+1,N3+1+1,W4,m4,by simp [encW],by omega,by omega,hC9.step hx61⟩,zb0 (k:=k3) rfl rfl (by omega)⟩⟩
  ·have hge3:=of_decide_eq_false hge3
   refine ((hK3.step hx62).pick (by omega) hs62).mono ?_
   rintro e10 w49 ⟨v6,he10,hk10,hp10,hC10⟩
   have h3:=hp10.1
   have h4:=hp10.2.2 (by decide)
   refine ⟨_,he10,hk10,?_⟩
   refine ⟨fun vs w2=>∃(k N:Nat) (W:Wld) (m:MW),vs = .int .i64 (k:Int)::encW W m/\(k:Int)<=v6/\N<=60+3*k/\CrS rb c' L' N [b,b1] w w2 W m,zd5 v6.toNat 0,fun wr8 hx8 _=>⟨0,N3+1,W3,m3,rfl,by omega,by omega,hC10.step hx8⟩,?_⟩
   clear hK3 hC10 hk10 he10 hs62 hx62
   rintro i5 l12 l13O l13L l13C l14O l14L l14C l15O l15L l15C wv54 hs54 ⟨k5,N5,W5,m5,he11,hk5,hN5,hK5⟩
   simp only [encW,List.cons.injEq,Value.int.injEq,Value.slice.injEq,true_and,and_true] at he11
   obtain ⟨rfl,rfl,⟨rfl,rfl,rfl⟩,⟨rfl,rfl,rfl⟩,rfl,rfl,rfl⟩:=he11
   refine ⟨fun hlt5 wr68 hx68 hs68 => ?_,fun hge5 wr72 hx72=>⟨W5,m5,rfl,⟨hK5.cr,hK5.lw.mono (by omega)⟩,?_⟩⟩
   ·have hlt5:=of_decide_eq_true hlt5
    refine ((hK5.step hx68).pick (by omega) hs68).mono ?_
    rintro e12 w55 ⟨v7,he12,hk12,hp12,hC12⟩
    refine ⟨_,he12,hk12,rfl,fun wr69 hx69 hs69 => ?_⟩
    refine ((hC12.step hx69).pick (by omega) hs69).mono ?_
    rintro e13 w56 ⟨v8,he13,hk13,hp13,hC13⟩
    have h5:=hp13.1
    have h6:=hp13.2.2 (by decide)
    refine ⟨_,he13,hk13,rfl,⟨by omega,by omega⟩,fun wr70 hx70 hs70 => ?_⟩
    refine ((hC13.step hx70).run (by omega) hs70).mono ?_
    rintro e14 w57 ⟨W6,m6,d,he14,hk14,hC14⟩
    exact ⟨_,_,_,_,_,_,_,_,_,_,_,he14,hk14,⟨by omega,by omega⟩,fun wr71 hx71 _=>⟨⟨k5+1,N5+1+1+1,W6,m6,by simp [encW],by omega,by omega,hC14.step hx71⟩,zb0 (k:=k5) rfl rfl (by omega)⟩⟩
   ·have hf:=hK5.step hx72
    exact ⟨hf.o.own,hf.s.ext⟩
def BAt (bs:List Nat) (w:World) (c:Option Addr) (L:Nat) (f:Nat->Int):Prop:=∀i:Nat,i<L->0<=f i/\f i<=255/\ziq bs w c i (.int .u8 (f i))
def bD (L:Nat) (f:Nat->Int) (i:Int):Int:=if i<(L:Int) then f i.toNat else Int.tmod (i*37) 251
section
variable {bs cs:List Nat} {w w':World} {c:Option Addr} {L C:Nat} {f:Nat->Int} {i:Int}
theorem zajj (h:z1s c L w):∃f:Nat->Int,BAt [] w c L f:=by
 have h1:∀i:Nat,∃x:Int,i<L->0<=x/\x<=255/\ziq [] w c i (.int .u8 x):=fun i=>by
  by_cases hi:i<L
  ·obtain ⟨a,x,ha,h1,h2,h3⟩:=h i hi
   exact ⟨x,fun _=>⟨h1,h2,a,ha,by simp,h3⟩⟩
  ·exact ⟨0,fun h=>absurd h hi⟩
 exact ⟨fun i=>(h1 i).choose,fun i hi=>(h1 i).choose_spec hi⟩
theorem BAt.ext (h:BAt bs w c L f) (hx:ExtX bs w w'):BAt bs w' c L f:=fun i hi=>⟨(h i hi).1,(h i hi).2.1,(h i hi).2.2.ext hx⟩
theorem BAt.less (h:BAt bs w c L f) (hs:∀x∈cs,x∈bs):BAt cs w c L f:=fun i hi=>by
 obtain ⟨h1,h2,a,ha,hb,h3⟩:=h i hi
 exact ⟨h1,h2,a,ha,fun hm=>hb (hs _ hm),h3⟩
theorem BAt.more (h:BAt bs w c L f) (hb:∀x∈cs,w.heap.size<=x):BAt (bs++cs) w c L f:=fun i hi=>by
 obtain ⟨h1,h2,a,ha,hn,h3⟩:=h i hi
 refine ⟨h1,h2,a,ha,fun hm => ?_,h3⟩
 rcases List.mem_append.1 hm with hm | hm
 ·exact hn hm
 ·have hlt:=World.block_lt_of_cell? w _ h3
  rw [zb2] at hlt
  have:=hb _ hm
  omega
theorem zajk (h:BAt bs w c L f) (i0:0<=i):0<=bD L f i/\bD L f i<=255:=by
 unfold bD
 split
 ·exact ⟨(h i.toNat (by omega)).1,(h i.toNat (by omega)).2.1⟩
 ·exact ⟨Int.tmod_nonneg _ (by omega),by have:=Int.tmod_lt_of_pos (i*37) (show (0:Int)<251 by decide); omega⟩
theorem zqx (h:BAt bs w c L f) (i0:0<=i) (i1:i<=1000):zad bs Tryz.prog zcc #[.slice c L C,.int .i64 i] w (.int .i64 (bD L f i)):=
 z4a c L C i fun wr hx=>by
  have h:=(h.ext hx).less (cs:=[]) (by simp)
  refine ⟨fun hlt => ?_,fun hge=>⟨⟨by omega,by omega⟩,by decide,?_⟩⟩
  ·have hlt:=of_decide_eq_true hlt
   obtain ⟨h1,h2,h3⟩:=h i.toNat (by omega)
   refine ⟨⟨i0,hlt,?_⟩,f i.toNat,zhq (by rw [Nat.mul_one]; exact h3),⟨by omega,by omega⟩,?_⟩
   ·obtain ⟨a,ha,_⟩:=h3
    rw [ha]; rfl
   ·show _=_
    unfold bD
    rw [if_pos hlt]
  ·have hge:=of_decide_eq_false hge
   show _=_
   unfold bD
   rw [if_neg hge]
end
section
variable {bs:List Nat} {w:World} {p q:MG}
theorem z3m {B:Bnd} (h1:RdI bs w p.lO B.locals) (h2:RdB bs w p.dO B.dry) (h3:RdI bs w q.lO B.locals) (h4:RdB bs w q.dO B.dry) (hl:B.dry.length=B.locals.length) (h8:B.locals.length<=1000) :
  zad bs Tryz.prog zkv #[.agg (zdj B p).toArray,.agg (zdj B q).toArray] w (.bool true):=
 z39 B.quota B.pool B.spent p.lO B.locals.length p.lC p.dO B.dry.length p.dC B.quota B.pool B.spent q.lO B.locals.length q.lC q.dO B.dry.length q.dC fun wr hx=>by
  have g1:=(h1.ext hx).less (cs:=[]) (by simp)
  have g2:=(h2.ext hx).less (cs:=[]) (by simp)
  have g3:=(h3.ext hx).less (cs:=[]) (by simp)
  have g4:=(h4.ext hx).less (cs:=[]) (by simp)
  intro b hb b5 hb5
  refine ⟨fun g=>by simp at g,fun _=>zgs B.locals.length 0 rfl (fun k=>k<=B.locals.length) (Nat.zero_le _) fun k hk=>⟨fun hlt => ?_,fun hge=>rfl⟩⟩
  have hlt:=of_decide_eq_true hlt
  refine ⟨g1.ix zf2 (by omega) hlt,_,g1 (k:Int) (by omega) hlt,g3.ix zf2 (by omega) hlt,_,g3 (k:Int) (by omega) hlt,fun _=>g2.ix zqm (by omega) (by omega),_,fun _=>g2 (k:Int) (by omega) (by omega),fun _=>g4.ix zqm (by omega) (by omega),_,fun _=>g4 (k:Int) (by omega) (by omega),fun g=>by simp at g,fun _=>⟨⟨by omega,by omega⟩,zar (by omega) (by omega)⟩⟩
end
theorem zae9:z7b Tryz.prog zba:=⟨by kernel_rfl,by kernel_rfl,by kernel_rfl⟩
theorem zajs (a b:Cpu):zzs Tryz.prog (Tryz.prog.fieldsOf zba).toList 0 (encC a) (encC b)=some ((a.up==b.up)&&((a.cur==b.cur)&&((a.ran==b.ran)&&((a.busy==b.busy)&&((a.idle==b.idle)&&true))))):=by kernel_rfl
theorem zaac:z7b Tryz.prog zbv:=⟨by kernel_rfl,by kernel_rfl,by kernel_rfl⟩
theorem zae8 (a b:Shf):zzs Tryz.prog (Tryz.prog.fieldsOf zbv).toList 0 (encS a) (encS b)=some ((a.floor==b.floor)&&((a.on==b.on)&&((a.v==b.v)&&((a.w==b.w)&&((a.sum==b.sum)&&true))))):=by kernel_rfl
section
variable {bs:List Nat} {w:World} {p q:MG} {W:Wld} {m n:MW}
theorem zz4 {G:Grp} (h1:RdI bs w p.lO G.band.locals) (h2:RdB bs w p.dO G.band.dry) (h5:RdS bs w p.sO G.shelves) (h3:RdI bs w q.lO G.band.locals) (h4:RdB bs w q.dO G.band.dry) (h6:RdS bs w q.sO G.shelves) (hl:G.band.dry.length=G.band.locals.length) (h8:G.band.locals.length<=1000) (h9:G.shelves.length<=1000) :
  zad bs Tryz.prog zjs #[.agg (encG G p).toArray,.agg (encG G q).toArray] w (.bool true):=
 z0d G.used G.parent G.name G.weight G.cpus G.period G.next G.sum G.band.quota G.band.pool G.band.spent p.lO G.band.locals.length p.lC p.dO G.band.dry.length p.dC p.sO G.shelves.length p.sC G.used G.parent G.name G.weight G.cpus G.period G.next G.sum G.band.quota G.band.pool G.band.spent q.lO G.band.locals.length q.lC q.dO G.band.dry.length q.dC q.sO G.shelves.length q.sC fun wr hx=>by
  have g1:=(h1.ext hx).less (cs:=[]) (by simp)
  have g2:=(h2.ext hx).less (cs:=[]) (by simp)
  have g3:=(h3.ext hx).less (cs:=[]) (by simp)
  have g4:=(h4.ext hx).less (cs:=[]) (by simp)
  have g5:=(h5.ext hx).less (cs:=[]) (by simp)
  have g6:=(h6.ext hx).less (cs:=[]) (by simp)
  have e:zcs G.name G.name=true:=zf5.2 rfl
  intro b hb b5 hb5
  refine ⟨true,fun _=>z3m g1 g2 g3 g4 hl h8,fun g => ?_,fun _=>zgs G.shelves.length 0 rfl (fun k=>k<=G.shelves.length) (Nat.zero_le _) fun k hk=>⟨fun hlt => ?_,fun hge=>rfl⟩⟩
  ·rw [e] at g
   simp at g
  ·have hlt:=of_decide_eq_true hlt
   refine ⟨g5.ix ze4 (by omega) hlt,_,_,_,_,_,g5 (k:Int) (by omega) hlt,g6.ix ze4 (by omega) hlt,_,_,_,_,_,g6 (k:Int) (by omega) hlt,_,fun wq=>zst zaac (zae8 _ _) _ _ wq,fun g => ?_,fun _=>⟨⟨by omega,by omega⟩,zar (by omega) (by omega)⟩⟩
   simp at g
structure EqW (W:Wld):Prop where
 c:W.cpus.length<=1000
 t:W.tasks.length<=1000
 g:W.groups.length<=1000
 e:∀i:Int,0<=i->i<(W.groups.length:Int)->(gi W.groups i).band.dry.length=(gi W.groups i).band.locals.length/\(gi W.groups i).band.locals.length<=1000/\(gi W.groups i).shelves.length<=1000
theorem zajq (ha:WA W):EqW W:=⟨by have:=ha.c2; omega,by have:=ha.t; omega,by have:=ha.gl; omega,fun i a b=>by
 have h:=zqe ha a (by have:=ha.gl; omega)
 exact ⟨h.1,by omega,by omega⟩⟩
theorem z3n (h:RdW bs w W m) (k:RdW bs w W n) (hE:EqW W):zad bs Tryz.prog zkw #[.agg (encW W m).toArray,.agg (encW W n).toArray] w (.bool true):=
 z4b W.now m.cO W.cpus.length m.cC m.tO W.tasks.length m.tC m.gO W.groups.length m.gC W.now n.cO W.cpus.length n.cC n.tO W.tasks.length n.tC n.gO W.groups.length n.gC fun wr hx=>by
  have h:=(h.ext hx).less (cs:=[]) (by simp)
  have k:=(k.ext hx).less (cs:=[]) (by simp)
  have c1:=hE.c
  have c2:=hE.t
  have c3:=hE.g
  intro b hb b5 hb5
  refine ⟨fun g=>by simp at g,fun _=>zgs W.cpus.length 0 rfl (fun k=>k<=W.cpus.length) (Nat.zero_le _) fun j hj=>⟨fun hlt => ?_,fun hge=>zgs W.tasks.length 0 rfl (fun k=>k<=W.tasks.length) (Nat.zero_le _) fun j2 hj2=>⟨fun hlt => ?_,fun hge2=>zgs W.groups.length 0 rfl (fun k=>k<=W.groups.length) (Nat.zero_le _) fun j3 hj3=>⟨fun hlt => ?_,fun hge3=>rfl⟩⟩⟩⟩
  ·have hlt:=of_decide_eq_true hlt
   refine ⟨h.c.ix zeg (by omega) hlt,_,_,_,_,_,h.c (j:Int) (by omega) hlt,k.c.ix zeg (by omega) hlt,_,_,_,_,_,k.c (j:Int) (by omega) hlt,_,fun wq=>zst zae9 (zajs _ _) _ _ wq,fun g => ?_,fun _=>⟨⟨by omega,by omega⟩,zar (by omega) (by omega)⟩⟩
   simp at g
  ·have hlt:=of_decide_eq_true hlt
   refine ⟨h.t.ix zce (by omega) hlt,_,_,_,_,_,_,_,_,_,h.t (j2:Int) (by omega) hlt,k.t.ix zce (by omega) hlt,_,_,_,_,_,_,_,_,_,k.t (j2:Int) (by omega) hlt,_,fun wq=>zst zw0 (z7q _ _) _ _ wq,fun g => ?_,fun _=>⟨⟨by omega,by omega⟩,zar (by omega) (by omega)⟩⟩
   simp at g
  ·have hlt:=of_decide_eq_true hlt
   have j0:(0:Int)<=(j3:Int):=by omega
   have he:=hE.e (j3:Int) j0 hlt
   refine ⟨h.g.ix j0 hlt,_,_,_,_,_,_,_,_,_,_,_,_,_,_,_,_,_,_,_,_,h.g.cells (j3:Int) j0 hlt,k.g.ix j0 hlt,_,_,_,_,_,_,_,_,_,_,_,_,_,_,_,_,_,_,_,_,k.g.cells (j3:Int) j0 hlt,true,zz4 (h.g.locals _ j0 hlt) (h.g.dry _ j0 hlt) (h.g.shelves _ j0 hlt) (k.g.locals _ j0 hlt) (k.g.dry _ j0 hlt) (k.g.shelves _ j0 hlt) he.1 he.2.1 he.2.2,fun g=>by simp at g,fun _=>⟨⟨by omega,by omega⟩,zar (by omega) (by omega)⟩⟩
end
end Go.Proofs.YtclpmgfpjeaibaaGreatDoor
namespace Go.Proofs.YtclpmgfpjeaibaaGreatDoor
open Go.RowKit Go.ChangeShapes
set_option linter.unusedVariables false
set_option linter.unusedSimpArgs false
set_option maxRecDepth 10000
theorem zai7:Tryz.prog.underlying z4v=some (.int .u8):=by kernel_rfl
theorem u_sl_uint8:Tryz.prog.underlying ty_sl_uint8=some (.slice z4v):=by kernel_rfl
theorem zahi:Tryz.prog.cellsOf z4v=1:=by kernel_rfl
theorem op_bytes {H:Type} {en:TypeId×Value->H} {w:World} {base:Nat} {spare:Nat->Bool} {held:Bool} {fuel:Nat} {cs:List Value} {x:DataW H×List MemPlace} (h:DataW.trod en Tryz.prog w base spare held fuel ty_sl_uint8 cs=some x) :
  ∃(o:Option Addr) (cap L:Nat),cs=[.slice o L cap]/\z1s o L w/\L<=cap:=by
 obtain ⟨o,len,cap,rfl,h1,_,h3⟩:=zagm u_sl_uint8 h
 refine ⟨o,cap,len,rfl,fun i hi => ?_,h1⟩
 obtain ⟨a,n,y,ec,ho,hc,ht⟩:=h3 i hi
 rw [zahi,Nat.mul_one] at hc
 obtain ⟨v,rfl,_,hw⟩:=DataW.trod_int zai7 ht
 have hv:0<=v/\v<=255:=by simpa [Lit.wf,IntKind.min,IntKind.max,IntKind.signed,IntKind.bits] using hw
 obtain ⟨_,_,hcell⟩:=World.cells?_some hc
 have:=hcell 0 (by decide)
 rw [zf6,Nat.add_zero] at this
 exact ⟨a,v,ho,hv.1,hv.2,this⟩
end Go.Proofs.YtclpmgfpjeaibaaGreatDoor
namespace Go.Proofs.YtclpmgfpjeaibaaGreatDoor
open Go.RowKit
set_option linter.unusedVariables false
set_option linter.unusedSimpArgs false
set_option maxRecDepth 10000
theorem zaa8 {W W':Wld} {bar:Int} (h:zbi W=true) (hb:bar=0):ansD W bar W'=(W',0):=by
 unfold ansD
 rw [if_neg (by rw [h]; decide),if_neg (by rw [hb]; decide)]
theorem z9i {c:Int} {W0:Wld}:∀(f:Nat) {V:Wld} {left:Int},RunI f c W0 V left->(runN c f V left).cpus.length=W0.cpus.length
 | 0,V,left,h=>by
  have:=h.f1
  have:=h.l0
  omega
 | f+1,V,left,h=>by
  have hK:=zi4 h.f2
  have hh0:(0:Int)<=zbr:=by decide
  by_cases hl:left<=0
  ·rw [zl4 hl,(zgq h.sw (by omega)).2.c]
   exact h.len
  ·by_cases hp:zaf V c<0
   ·rw [zli hl hp,(zgq (z5s h).1 (by omega)).2.c]
    show (((V.cpus.set c.toNat _).set c.toNat _).length)=_
    rw [List.length_set,List.length_set]
    exact h.len
   ·rw [zj6 hl hp]
    exact z9i f (zrk h (by omega) hp).nx
theorem zaix {W:Wld} {c n:Int} (hW:zbi W=true) (hb:runB W c n=0):(runW W c n).cpus.length=W.cpus.length:=z9i 400 (zyh hW hb).2.2.2.2
theorem zakl {x n:Int} (h0:0<=x) (h1:0<n):0<=Int.tmod x n/\Int.tmod x n<n:=⟨Int.tmod_nonneg _ h0,Int.tmod_lt_of_pos _ h1⟩
structure StS (w0:World) (n:Nat) (bs:List Nat) (w:World) (W:Wld) (m:MW):Prop where
 cr:Cr W
 len:W.cpus.length=n
 s:Sc w0 bs w
 o:OW 8 w0.heap.size bs w W m
set_option maxHeartbeats 1000000 in
theorem k_FnStay {a b:Option Addr} {La Ca Lb Cb:Nat} {w:World} (ha:z1s a La w) (hca:La<=Ca) (hb:z1s b Lb w) (_:Lb<=Cb) (hg:zp2 w) :
  Calls Tryz.prog zo0 #[.slice a La Ca,.slice b Lb Cb] w fun e w'=>e = .returned (.bool true)/\ExtX [] w w':=by
 refine (z20 a La Ca b Lb Cb (R:=fun v w'=>v = .bool true/\ExtX [] w w') ?_).mono fun e w' ⟨v,he,hv,h3⟩=>⟨by rw [he,hv],h3⟩
 obtain ⟨f,hf⟩:=zajj hb
 refine ⟨fun _ wr hx=>⟨rfl,hx⟩,fun _ wr1 hx1 _ => ?_⟩
 refine (zz5 (ha.ext hx1) hca).mono ?_
 rintro e wv ⟨W,m,he,⟨hC,hLw⟩,hM,hx2⟩
 have s0:Sc w [] wv:=((Sc.start w).call0 hx1).call0 hx2
 have o0:OW 8 w.heap.size [] wv W m:=(OW.of hM (by simp)).mono hx1.size
 have hc1:=hC.iv.wp.a.c1
 have hi0:=zajk hf (show (0:Int)<=0 by decide)
 obtain ⟨c0,c1⟩:=zakl hi0.1 (show (0:Int)<((W.cpus.length:Nat):Int) by omega)
 refine ⟨_,_,_,_,_,_,_,_,_,_,he,ze8,fun b1 hb1=>⟨bD Lb f 0,zqx (hf.ext s0.ext) (by omega) (by omega),by omega,?_⟩⟩
 generalize hn:W.cpus.length=n at c0 c1 ⊢
 generalize Int.tmod (bD Lb f 0) (n:Int)=c at c0 c1 ⊢
 have hB:∀{bs:List Nat} {w':World},Sc w bs w'->BAt bs w' b Lb f:=fun {bs w'} s=>by
  have h1:BAt ([]++bs) w b Lb f:=hf.more s.new
  exact (show BAt bs w b Lb f from h1).ext s.ext.of_nil
 have hS0:∀{wr:World},ExtX [] wv wr->StS w n [b1] wr W m:=fun hx=>⟨hC,hn,s0.put hx hb1,o0.put hx hb1⟩
 refine ⟨fun vs w2=>∃(k:Nat) (W:Wld) (m:MW),vs = .int .i64 (k:Int)::encW W m/\k<=30/\StS w n [b1] w2 W m,zd5 30 0,fun wr hx _=>⟨1,W,m,by rw [<-hn]; rfl,by omega,hS0 hx⟩,?_⟩
 clear hS0 hM hx2 he hC hLw s0 o0 hn hc1 hb1
 clear W m
 rintro i1 l8 l9O l9L l9C l10O l10L l10C l11O l11L l11C wv8 hs8 ⟨k,W,m,he8,hk,hS⟩
 simp only [encW,List.cons.injEq,Value.int.injEq,Value.slice.injEq,true_and,and_true] at he8
 obtain ⟨rfl,rfl,⟨rfl,rfl,rfl⟩,⟨rfl,rfl,rfl⟩,rfl,rfl,rfl⟩:=he8
 have hlen:=zacl hS.cr.iv.wp.a
 have hw:=hS.cr.w
 have hln:=hS.len
 refine ⟨fun hlt => ?_,fun _ wr hx=>⟨rfl,(hS.s.step hx).ext⟩⟩
 have hlt:=of_decide_eq_true hlt
 have hi:=zajk hf (show (0:Int)<=(k:Int) by omega)
 have hm:=zakl hi.1 (show (0:Int)<100 by decide)
 have hbt:∀{bs:List Nat} {w':World},Sc w bs w'->zad bs Tryz.prog zcc #[.slice b Lb Cb,.int .i64 (k:Int)] w' (.int .i64 (bD Lb f (k:Int))):=fun s=>zqx (hB s) (by omega) (by omega)
 have hx0:1<=1+Int.tmod (bD Lb f (k:Int)) 100/\1+Int.tmod (bD Lb f (k:Int)) 100<=100:=by omega
 generalize hx:1+Int.tmod (bD Lb f (k:Int)) 100=x at hx0
 let r:Wld×Int:=ansD W (runB W c x) (runW W c x)
 have hr:Cr r.1/\r.1.cpus.length=n/\(r.2=0\/r.1=W)/\(0<=(gi W.cpus c).cur->(gi W.cpus c).ran<50->(gi r.1.cpus c).cur=(gi W.cpus c).cur):=by
  show Cr (ansD W (runB W c x) (runW W c x)).1/\_
  by_cases hb0:runB W c x=0
  ·rw [show r=(runW W c x,0) from zaa8 hw hb0,zaa8 hw hb0]
   exact ⟨zagw hS.cr hb0,by rw [zaix hw hb0]; exact hln,.inl rfl,fun h1 h2=>zagb hw hS.cr.nq hb0 h1 h2⟩
  ·rw [show r=(W,runB W c x) from z2r hw hb0,z2r hw hb0]
   exact ⟨hS.cr,hln,.inr rfl,fun _ _=>rfl⟩
 have hrd:ansD W (runB W c x) (runW W c x)=r:=rfl
 clear_value r
 obtain ⟨hrc,hrl,_,hst⟩:=hr
 have im:∀{wr:World},Sc w [b1] wr->zp2 wr:=fun s=>hg.ext s.ext
 refine ⟨fun vs bs w2=>∃(bt:Nat) (mX:MW) (nX:Nat),bs=[bt]/\vs = .int .i64 r.2::encW r.1 mX/\Sc w [b1,bt] w2/\OW 8 w.heap.size [b1,bt] w2 W m/\OW nX w.heap.size [b1,bt] w2 r.1 mX,?_,?_⟩
 ·refine ⟨_,hbt hS.s,by decide,⟨by omega,by omega⟩,fun wr12 hx12 hs12 => ?_,fun b8 hb8=>⟨hbt hS.s,rfl,fun wr14 hx14 hs14 => ?_⟩⟩
  ·have s1:=hS.s.step hx12
   have o1:=hS.o.step hx12
   rw [hx]
   refine (zm9 (c:=c) (n:=x) o1.rd0 hlen (hg.ext s1.ext)).mono ?_
   rintro e1 wv1 ⟨v,he1,nG,mG,hv,hG0,hy⟩
   subst hv
   rw [hrd] at he1 hG0
   have s2:=s1.call0 hy
   have oG:=(OW.of hG0 hs12).mono s1.ext.size
   exact ⟨_,_,_,_,_,_,_,_,_,_,_,he1,zaz hy hs12,fun b7 hb7=>⟨hbt s2,rfl,fun wr13 hx13 _=>⟨b7,mG,nG,rfl,rfl,s2.put hx13 hb7,(o1.call0 hy).put hx13 hb7,oG.put hx13 hb7⟩⟩⟩
  ·have s1:=hS.s.put hx14 hb8
   have o1:=hS.o.put hx14 hb8
   rw [hx]
   refine (zm9 (c:=c) (n:=x) o1.rd0 hlen (hg.ext s1.ext)).mono ?_
   rintro e1 wv1 ⟨v,he1,nG,mG,hv,hG0,hy⟩
   subst hv
   rw [hrd] at he1 hG0
   have s2:=s1.call0 hy
   have oG:=(OW.of hG0 hs14).mono s1.ext.size
   exact ⟨_,_,_,_,_,_,_,_,_,_,_,he1,zaz hy hs14,fun wr13 hx13 _=>⟨b8,mG,nG,rfl,rfl,s2.step hx13,(o1.call0 hy).step hx13,oG.step hx13⟩⟩
 rintro k1 l12 l13O l13L l13C l14O l14L l14C l15O l15L l15C b9 wv11 hs11 ⟨bt,mX,nX,hbt9,hv,s3,o3,oX⟩
 have:b9=bt:=by simpa using hbt9
 subst this
 simp only [encW,List.cons.injEq,Value.int.injEq,Value.slice.injEq,true_and,and_true] at hv
 obtain ⟨rfl,rfl,⟨rfl,rfl,rfl⟩,⟨rfl,rfl,rfl⟩,rfl,rfl,rfl⟩:=hv
 refine ⟨fun vs bs w2=>∃(bt:Nat) (mY:MW) (nY:Nat),bs=[bt]/\vs = .int .i64 r.2::encW r.1 mY/\Sc w [b1,b9,bt] w2/\OW 8 w.heap.size [b1,b9,bt] w2 W m/\OW nX w.heap.size [b1,b9,bt] w2 r.1 mX/\OW nY w.heap.size [b1,b9,bt] w2 r.1 mY,?_,?_⟩
 ·refine ⟨_,hbt s3,by decide,⟨by omega,by omega⟩,fun wr12 hx12 hs12 => ?_,fun b8 hb8=>⟨hbt s3,rfl,fun wr14 hx14 hs14 => ?_⟩⟩
  ·have s1:=s3.step hx12
   have o1:=o3.step hx12
   have oX1:=oX.step hx12
   rw [hx]
   refine (zj1 (c:=c) (n:=x) o1.rd0 hlen).mono ?_
   rintro e1 wv1 ⟨v,he1,nG,mG,hv,hG0,hy⟩
   subst hv
   rw [hrd] at he1 hG0
   have s2:=s1.call0 hy
   have oG:=(OW.of hG0 hs12).mono s1.ext.size
   exact ⟨_,_,_,_,_,_,_,_,_,_,_,he1,zaz hy hs12,fun b7 hb7=>⟨hbt s2,rfl,fun wr13 hx13 _=>⟨b7,mG,nG,rfl,rfl,s2.put hx13 hb7,(o1.call0 hy).put hx13 hb7,(oX1.call0 hy).put hx13 hb7,oG.put hx13 hb7⟩⟩⟩
  ·have s1:=s3.put hx14 hb8
   have o1:=o3.put hx14 hb8
   have oX1:=oX.put hx14 hb8
   rw [hx]
   refine (zj1 (c:=c) (n:=x) o1.rd0 hlen).mono ?_
   rintro e1 wv1 ⟨v,he1,nG,mG,hv,hG0,hy⟩
   subst hv
   rw [hrd] at he1 hG0
   have s2:=s1.call0 hy
   have oG:=(OW.of hG0 hs14).mono s1.ext.size
   exact ⟨_,_,_,_,_,_,_,_,_,_,_,he1,zaz hy hs14,fun wr13 hx13 _=>⟨b8,mG,nG,rfl,rfl,s2.step hx13,(o1.call0 hy).step hx13,(oX1.call0 hy).step hx13,oG.step hx13⟩⟩
 rintro w1 l16 l17O l17L l17C l18O l18L l18C l19O l19L l19C b12 wv14 hs14 ⟨bt,mY,nY,hbt9,hv,s4,o4,oX4,oY⟩
 have:b12=bt:=by simpa using hbt9
 subst this
 simp only [encW,List.cons.injEq,Value.int.injEq,Value.slice.injEq,true_and,and_true] at hv
 obtain ⟨rfl,rfl,⟨rfl,rfl,rfl⟩,⟨rfl,rfl,rfl⟩,rfl,rfl,rfl⟩:=hv
 have hY8:nY=8:=oY.own.len.symm.trans hrc.iv.wp.a.gl
 subst hY8
 have c1W:c<(W.cpus.length:Int):=by omega
 have c1R:c<(r.1.cpus.length:Int):=by omega
 refine ⟨true,fun _=>z3n oX4.rd oY.rd (zajq hrc.iv.wp.a),fun g=>by simp at g,fun _=>⟨o4.rd.c.ix zeg c0 c1W,_,o4.rd.c.f c0 c1W (j:=1) rfl,fun _=>oX4.rd.c.ix zeg c0 c1R,_,fun _=>oX4.rd.c.f c0 c1R (j:=1) rfl,fun _=>o4.rd.c.ix zeg c0 c1W,_,fun _=>o4.rd.c.f c0 c1W (j:=2) rfl,fun g => ?_,fun _=>⟨⟨by omega,by omega⟩,fun wr22 hx22 _=>⟨⟨k+1,r.1,mY,by simp [encW],by omega,⟨hrc,hrl,(s4.step hx22).sub (by simp),((oY.step hx22).sub (by simp))⟩⟩,zb0 (k:=k) rfl rfl (by omega)⟩⟩⟩⟩
 simp only [Bool.and_eq_true,decide_eq_true_eq,bne_iff_ne,ne_eq] at g
 exact absurd (hst g.1.1 g.2) g.1.2
end Go.Proofs.YtclpmgfpjeaibaaGreatDoor
