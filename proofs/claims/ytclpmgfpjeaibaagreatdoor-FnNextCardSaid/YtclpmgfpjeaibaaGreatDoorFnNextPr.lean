/- Part 18 of what the law FnNext needs: the engine, the functions' propositions, the contracts. -/
import Derived.Test.YtclpmgfpjeaibaaGreatDoorFnNextPq
namespace Go.Proofs.YtclpmgfpjeaibaaGreatDoor
open Go.RowKit
set_option linter.unusedVariables false
set_option linter.unusedSimpArgs false
set_option maxRecDepth 10000
theorem zaci (l k:Int):zd5 l k<=l\/zd5 l k=0:=by
 have:=zc5 k
 unfold zd5
 by_cases h1:zco k<l
 ·simp only [h1,if_true]
  split
  ·exact .inl (by omega)
  ·exact .inr rfl
 ·simp only [h1,if_false]
  split
  ·exact .inl (by omega)
  ·exact .inr rfl
section
variable {K:Int} {W:Wld}
theorem zafm (h:SF K K W) {k c d:Int} (hu:zae W.groups k=true) (hd:dep 3 W.groups k=d) (d1:1<=d) (c0:0<=c) (c1:c<(W.cpus.length:Int)):SF K K (setSh W k c (zc9 W k c)):=by
 have hz:k≠0:=fun e=>by subst e; rw [zcs] at hd; omega
 have hp:=h.w.a.up hu hz
 have s1:=h.w.s k c hu c0 c1
 have s2:=h.w.s _ c hp c0 c1
 have lc:=zeg ((shf W k c).v - (shf W (gi W.groups k).parent c).floor) (shf W k c).w
 have lu:=zaci ((shf W k c).v - (shf W (gi W.groups k).parent c).floor) (shf W k c).w
 refine h.setSh hu c0 c1 s1.1 s1.2.1 s1.2.1 ?_ ?_ s1.2.2.2.2.1 s1.2.2.2.2.2
 ·simp only [zc9]; split <;> omega
 ·simp only [zc9]; split
  ·rcases lu with e | e <;> omega
  ·omega
theorem z84 (h:SF K K W) {c d:Int} (d1:1<=d) (c0:0<=c) (c1:c<(W.cpus.length:Int)):∀k:Nat,k<=8->SF K K (zcb W c d k)/\zgr W (zcb W c d k)
 | 0,_=>⟨h,zgr.refl _⟩
 | k+1,hk8=>by
  obtain ⟨ih,io⟩:=z84 h (d:=d) d1 c0 c1 k (by omega)
  have hl:=ih.w.a.gl
  simp only [zcb]
  split
  ·rename_i hc
   have hu:zae (zcb W c d k).groups (k:Int)=true:=zac.2 ⟨by omega,by omega,hc.1⟩
   exact ⟨zafm ih hu hc.2 d1 c0 (by rw [io.c]; exact c1),io.trans (zhf (by omega) (by omega))⟩
  ·exact ⟨ih,io⟩
theorem zxw (h:SF K K W) {c:Int} (c0:0<=c) (c1:c<(W.cpus.length:Int)):∀j:Nat,j<=3->SF K K (zdz W c j)/\zgr W (zdz W c j)
 | 0,_=>⟨h,zgr.refl _⟩
 | j+1,hj=>by
  obtain ⟨a1,b1⟩:=zxw h c0 c1 j (by omega)
  obtain ⟨a2,b2⟩:=z84 a1 (c:=c) (d:=3 - (j:Int)) (by omega) c0 (by rw [b1.c]; exact c1) 8 (by omega)
  exact ⟨a2,b1.trans b2⟩
theorem z5w (h:SF K K W):∀c:Nat,c<=W.cpus.length->SF K K (zbr W c)/\zgr W (zbr W c)
 | 0,_=>⟨h,zgr.refl _⟩
 | c+1,hc=>by
  obtain ⟨a,b⟩:=z5w h c (by omega)
  obtain ⟨a2,b2⟩:=zxw a (c:=(c:Int)) (by omega) (by rw [b.c]; omega) 3 (Nat.le_refl _)
  exact ⟨a2,b.trans b2⟩
theorem zagc (h:SW K W) (hK:0<=K) {c:Int} (c0:0<=c) (c1:c<(W.cpus.length:Int)):SW K (zhl W c)/\Fr W (zhl W c):=by
 obtain ⟨a1,b1⟩:=zxw h.sf c0 c1 3 (Nat.le_refl _)
 obtain ⟨a2,b2⟩:=zju a1.w hK c0 (c:=c) (by rw [b1.c]; exact c1) 8 (by omega)
 have hf:=b1.fr.trans b2.fr
 unfold zhl
 split
 ·exact ⟨SW.endW a2 c0 (by show c<((za5 (zdz W c 3) c 8).cpus.length:Int); rw [hf.c]; exact c1),hf.trans (z5n _ _)⟩
 ·exact ⟨a2,hf⟩
theorem z9p (h:SW K W) (hK:0<=K):∀c:Nat,c<=W.cpus.length->SW K (zeo W c)/\Fr W (zeo W c)
 | 0,_=>⟨h,Fr.refl _⟩
 | c+1,hc=>by
  obtain ⟨a,b⟩:=z9p h hK c (by omega)
  obtain ⟨a2,b2⟩:=zagc a hK (c:=(c:Int)) (by omega) (by rw [b.c]; omega)
  exact ⟨a2,b.trans b2⟩
theorem zadq (h:SW K W) (hK:0<=K):SW K (zah W)/\Fr W (zah W):=by
 obtain ⟨a1,b1⟩:=z5w h.sf W.cpus.length (Nat.le_refl _)
 obtain ⟨a2,b2⟩:=zia a1 8 (by omega)
 have hf:=b1.fr.trans b2.fr
 obtain ⟨a3,b3⟩:=z9p a2.w hK W.cpus.length (by show W.cpus.length<=(zdm (zbr W W.cpus.length) 8).cpus.length; rw [hf.c]; exact Nat.le_refl _)
 exact ⟨a3,hf.trans b3⟩
end
theorem zafv {W:Wld} {c:Int} (hW:zbf W=true) (hq:NoQ W) (hb:runB W c 1=0) (hp:¬zaf W c<0):zaf W c<12/\(tkk (runW W c 1) (zaf W c)).sum=(tkk W (zaf W c)).sum+1/\(gi (runW W c 1).cpus c).cur=zaf W c:=by
 obtain ⟨_,_,_,_,hI⟩:=zyq hW hb
 have hR:=zrj hI (by omega) hp
 obtain ⟨e1,e2,e3,hq2⟩:=z79 hI hq (by omega) hp
 have hK:=zi9 hI.f2
 have hh0:(0:Int)<=zbm:=by decide
 have hnx:=hR.nx
 have t0:=hR.line.t0
 have t1:=hR.line.t1
 have hcs:=hI.sw.a.t
 obtain ⟨s1,r1,u1,ran1,cu1,l1⟩:=zn0 hI.sw hI.rb hI.c0 hI.c1 hI.up t0 t1
 have hch:=(hR.ch (by rw [e1])).1
 rw [e1,e2] at hch
 rw [e3] at hnx hq2
 have hKn:0<=runK (399+1)+5*lagB:=by
  have h1:=zi9 (f:=399+1) (by decide)
  simp only [lagB]; omega
 have hx:=zwk (t:=zaf W c) (n:=1) s1 r1 (by have:=zyo hI.f2; omega) hI.c0 (by rw [l1]; exact hI.c1) u1 ran1 t0 t1 hR.us (by omega) (by omega)
 have hin:∀g∈pthR W (zaf W c),0<=g/\g<8:=fun g hg=>by
  have:=zac.1 (hR.pin g hg)
  have:=hI.sw.a.gl
  omega
 have hqS:NoQ (za9 W c (zaf W c)):=hq
 have eT:tkk (chW (za9 W c (zaf W c)) c (zaf W c) 1) (zaf W c)=chT W (zaf W c) 1:=by
  show gi (chL c 1 (pthR W (zaf W c)) (setTk (za9 W c (zaf W c)) (zaf W c) (chT W (zaf W c) 1))).tasks (zaf W c)=_
  rw [show (chL c 1 (pthR W (zaf W c)) (setTk (za9 W c (zaf W c)) (zaf W c) (chT W (zaf W c) 1))).tasks=(setTk (za9 W c (zaf W c)) (zaf W c) (chT W (zaf W c) 1)).tasks from hx.2.2.2.2.2.2.2.2.t]
  exact zaha (W:=za9 W c (zaf W c)) t0 (by show zaf W c<((W.tasks.length:Nat):Int); omega)
 have eC:(gi (chW (za9 W c (zaf W c)) c (zaf W c) 1).cpus c).cur=zaf W c:=by
  show (gi ((chL c 1 (pthR W (zaf W c)) (setTk (za9 W c (zaf W c)) (zaf W c) (chT W (zaf W c) 1))).cpus.set c.toNat (chC (za9 W c (zaf W c)) c 1)) c).cur=_
  rw [show (chL c 1 (pthR W (zaf W c)) (setTk (za9 W c (zaf W c)) (zaf W c) (chT W (zaf W c) 1))).cpus=(za9 W c (zaf W c)).cpus from hx.2.2.2.2.2.2.2.2.cp]
  rw [show gi ((za9 W c (zaf W c)).cpus.set c.toNat (chC (za9 W c (zaf W c)) c 1)) c=chC (za9 W c (zaf W c)) c 1 from (za1 _ _ hI.c0 (by rw [l1]; exact hI.c1) hI.c0).trans (if_pos rfl)]
  exact cu1
 have hqC:NoQ (chW (za9 W c (zaf W c)) c (zaf W c) 1):=hqS.b fun i _=>zwj c 1 _ _ i
 have c1C:c<((chW (za9 W c (zaf W c)) c (zaf W c) 1).cpus.length:Int):=by rw [hx.2.2.2.2.1,l1]; exact hI.c1
 have q1:=z1n hch hKn hqC hI.c0 c1C t0 t1 eC (by rw [eT]; exact hR.line.st) (by rw [eT]; exact hR.line.cpu)
 have fr:=(zfx hch hKn).2
 have hK2:=zi9 hnx.f2
 have q2:=z1n hnx.sw (by omega) hq2 hI.c0 (by have:=hnx.c1; exact this) t0 t1 q1 (by rw [zdk fr.t,eT]; exact hR.line.st) (by rw [zdk fr.t,eT]; exact hR.line.cpu)
 have fr2:=(zfx hnx.sw (by omega)).2
 have eR:runW W c 1=zah (zah (chW (za9 W c (zaf W c)) c (zaf W c) 1)):=by
  show runN c 400 W 1=_
  rw [zj8 (by omega) hp,e3,zl4 (f:=398) (Int.le_refl 0)]
 rw [eR]
 refine ⟨t1,?_,q2⟩
 rw [zdk fr2.t,zdk fr.t,eT]
 rfl
theorem zacy {W:Wld} {c:Int} (c0:0<=c) (c1:c<(W.cpus.length:Int)) (hp:zaf W c<0):(gi (runW W c 1).cpus c).idle=(gi W.cpus c).idle+1:=by
 show (gi (runN c 400 W 1).cpus c).idle=_
 rw [zj7 (by omega) hp,(zs0 _).i,(zyx _ c).i,show gi (setCp W c (idlC W c 1)).cpus c=idlC W c 1 from (za1 _ _ c0 c1 c0).trans (if_pos rfl)]
 rfl
structure LwX (K S:Int) (W:Wld):Prop where
 sw:SW K W
 rb:RB S W
 i:∀c:Int,0<=c->c<(W.cpus.length:Int)->(gi W.cpus c).idle<=S
 nw:W.now<=S
 up:∀c:Int,0<=c->c<(W.cpus.length:Int)->(gi W.cpus c).up=true
section
variable {K K' S S':Int} {W W':Wld}
theorem LwX.mono (h:LwX K S W) (hk:K<=K') (hs:S<=S'):LwX K' S' W:=⟨h.sw.mono hk,h.rb.mono hs,fun c a b=>Int.le_trans (h.i c a b) hs,Int.le_trans h.nw hs,h.up⟩
theorem LwX.sum (h:LwX K S W) (k:SumC W W') (hT:zb3 W.groups W'.groups) (hl:W'.cpus.length=W.cpus.length) (sw:SW K' W'):LwX K' S W':=⟨sw,h.rb.sum k hT hl,fun c a b=>by rw [hl] at b; rw [k.i]; exact h.i c a b,by rw [k.n]; exact h.nw,fun c a b=>by rw [hl] at b; rw [k.u]; exact h.up c a b⟩
theorem LwX.settle (h:LwX K S W) (hK:0<=K):LwX K S (zah W):=by
 obtain ⟨s,f⟩:=zadq h.sw hK
 exact h.sum (zs0 W) f.g f.c s
theorem LwX.endW (h:LwX K S W) {c:Int} (c0:0<=c) (c1:c<(W.cpus.length:Int)):LwX K S (endW W c):=h.sum (zyx W c) (zb3.refl _) List.length_set (h.sw.endW c0 c1)
theorem LwX.room (h:LwX K S W) (wp:WldP W) (hK:K<=zbm) (hS:S<=zbm) (S0:0<=S):zf5 W=true:=by
 have hgl:=wp.a.gl
 have htl:=wp.a.t
 refine zbd.2 ⟨Int.le_trans h.nw hS,fun c a b=>⟨Int.le_trans (h.rb.c c a b).2.1 hS,Int.le_trans (h.i c a b) hS⟩,fun t a b => ?_,fun k a b => ?_,fun k c a b c0 c1 => ?_⟩
 ·have h1:=h.sw.tv t a (by omega)
  have h2:=h.rb.t t a (by omega)
  exact ⟨Int.le_trans h1.2 hK,Int.le_trans h2.2.1 hS,Int.le_trans h2.2.2.2 hS⟩
 ·cases hh:(gi W.groups k).used with
  | true=>exact Int.le_trans (h.rb.g k (zac.2 ⟨a,b,hh⟩)).2 hS
  | false=>
   rw [((wp.a.grp k a (by omega)).1 hh).s]
   omega
 ·have hu:zae W.groups k=true:=by
   cases hh:(gi W.groups k).used with
   | true=>exact zac.2 ⟨a,b,hh⟩
   | false=>
    have:=((wp.a.grp k a (by omega)).1 hh).l
    omega
  have hl:=wp.a.sl hu
  have h1:=h.sw.s k c hu c0 (by omega)
  exact ⟨Int.le_trans h1.2.1 hK,Int.le_trans h1.2.2.2.1 hK,Int.le_trans (h.rb.s k c hu c0 (by omega)).2 hS⟩
theorem zake (W:Wld) {g:Int} {x:Grp} (h1:x.sum=(gi W.groups g).sum) (h2:x.shelves=(gi W.groups g).shelves):SumC W (setGr W g x):=
 ⟨rfl,rfl,fun i d=>zb6 (f:=fun G:Grp=>(gi G.shelves d).sum) W.groups g (x:=x) (by rw [h2]) i,fun i=>zb6 (f:=Grp.sum) W.groups g (x:=x) h1 i,fun _=>rfl,fun _=>rfl,fun _=>rfl,fun _=>.inl rfl⟩
theorem zagd (W:Wld) (g c x:Int):SumC W (weiW W g c x):=by
 unfold weiW
 split
 ·exact SumC.refl _
 ·split
  ·exact (z9r W (g:=g) (c:=c) (s:=weiS W g c x) rfl).trans (zyx _ _)
  ·exact z9r W (g:=g) (c:=c) (s:=weiS W g c x) rfl
theorem z9s (W:Wld) (g x:Int):∀c:Nat,SumC W (weiN W g x c)
 | 0=>SumC.refl _
 | c+1=>(z9s W g x c).trans (zagd _ _ _ _)
theorem zaie {n:Nat} (n0:1<=n) (n1:n<=4):LwX 0 0 (newW n):=by
 have hl:(newW n).cpus.length=n:=by simp [newW]
 have wp:=(zab9 n0 n1).wp
 refine ⟨⟨wp.a,fun t a b h => ?_,fun t a b => ?_,fun k c u a b => ?_,fun c a b => ?_⟩,⟨by show (0:Int)<=_; decide,fun t a b => ?_,fun k c u a b => ?_,fun k u => ?_,fun c a b => ?_⟩,fun c a b => ?_,Int.le_refl _,fun c a b => ?_⟩
 ·rw [z6b t a b] at h; exact absurd rfl h
 ·rw [z6b t a b]; exact ⟨Int.le_refl _,Int.le_refl _⟩
 ·rw [(zacx k).1 u,zacv c a (by omega)]; simp only [newS]; decide
 ·rw [z1d c a (by omega)]; simp only []; decide
 ·rw [z6b t a b]; simp only [zn7]; decide
 ·rw [(zacx k).1 u,zacv c a (by omega)]; simp only [newS]; decide
 ·rw [(zacx k).1 u,znm 0 (by decide) (by decide),if_pos rfl]; simp only [newG]; decide
 ·rw [z1d c a (by omega)]; simp only []; decide
 ·rw [z1d c a (by omega)]; exact Int.le_refl _
 ·rw [z1d c a (by omega)]
theorem zajy (h:LwX K S W) (iv:Inv W) {a p:Int} {name:ByteArray} (hm:MkW W a p name) (K0:0<=K) (S0:0<=S):LwX K S (mkW W a p name):=by
 have ha:=iv.wp.a
 refine ⟨⟨(zagx iv hm).wp.a,fun t x y n => ?_,h.sw.tv,fun k c u x y => ?_,h.sw.cu⟩,⟨h.rb.n,h.rb.t,fun k c u x y => ?_,fun k u => ?_,h.rb.c⟩,h.i,h.nw,h.up⟩
 ·have:=h.sw.t t x y n
  exact ⟨(zlz ha hm).2 (.inl this.1),this.2⟩
 ·rcases (zlz ha hm).1 u with e | e
  ·rw [znk ha hm e]; exact h.sw.s k c e x y
  ·rw [e,z3y ha hm x y]
   simp only [newS]; omega
 ·rcases (zlz ha hm).1 u with e | e
  ·rw [znk ha hm e]; exact h.rb.s k c e x y
  ·rw [e,z3y ha hm x y]
   simp only [newS]; omega
 ·rcases (zlz ha hm).1 u with e | e
  ·rw [ztk ha hm e]; exact h.rb.g k e
  ·rw [e,zq6 ha hm]
   simp only [newG]; omega
theorem zaig (h:LwX K S W) (hW:zbf W=true) {g x:Int} (hb:wghB W g x=0) (K0:0<=K):LwX (K+lagB) S (wghW W g x):=by
 obtain ⟨h1,h2,h3,_,_,_,h6,h7⟩:=z9w hW hb
 have wp:=zbd.1 hW
 have hx:=za4.1 h1
 obtain ⟨u0,u1,hg⟩:=wp.a.u h3
 have s1:=h.sw.setGr (x:=wghG W g x) h3 rfl rfl rfl rfl ⟨hx.1,hx.2,hg.m,hg.m0,hg.s,hg.len,fun h=>absurd h h2,hg.none,hg.band⟩
 obtain ⟨a,b,_⟩:=zy6 (s1.sf.mono (Int.le_refl _) (by simp only [lagB]; omega)) (Int.le_refl _) h6 (g:=g) (x:=x) (by rw [h7.usd]; exact h3) h2 hx.1 hx.2 W.cpus.length (Nat.le_refl _)
 have k:=h.sum ((zake W (g:=g) (x:=wghG W g x) rfl rfl).trans (z9s (setGr W g (wghG W g x)) g x W.cpus.length)) (h7.trans b.g) b.c a.w
 exact k.settle (by simp only [lagB]; omega)
theorem zafq (h:LwX K S W) (hW:zbf W=true) {g n x:Int} (hb:zmm W g n x=0) (K0:0<=K) (S0:0<=S):LwX K S (z99 W g n x):=by
 have hf:=z26 hW hb
 have wp:=zbd.1 hW
 have hs:=h.sw.s g (zsf W g x) hf.u hf.c0 hf.c1
 have s1:LwX K S (setTk W (zle W) (zpv W g n x)):=⟨h.sw.setTk hf.f0 hf.f1 (x:=zpv W g n x) (fun _=>⟨hf.u,hf.c0,hf.c1⟩) hs.1 hs.2.1,h.rb.setTk wp.a.t hf.f0 hf.f1 (x:=zpv W g n x) (by simp only [zpv]; omega),h.i,h.nw,h.up⟩
 exact (s1.endW hf.c0 hf.c1).settle K0
theorem zaif (h:LwX K S W) (hW:zbf W=true) (hq:NoQ W) {c n:Int} (hb:runB W c n=0) (K0:0<=K) (S0:0<=S) (hS:S+500<=50000000000000000):LwX (K+5*lagB) (S+500) (runW W c n):=by
 obtain ⟨hn,_,_,_,hI⟩:=zyq hW hb
 have hn:=za4.1 hn
 have c0:=hI.c0
 have c1:=hI.c1
 have hcu:=h.sw.cu c c0 c1
 have hr:=h.rb.c c c0 c1
 have hri:=h.i c c0 c1
 have hlg:0<=lagB:=by decide
 by_cases hp:zaf W c<0
 ·show LwX _ _ (runN c 400 W n)
  rw [zj7 (by omega) hp]
  have hlen:(setCp W c (idlC W c n)).cpus.length=W.cpus.length:=List.length_set
  have hg:∀d:Int,0<=d->gi (setCp W c (idlC W c n)).cpus d=if c=d then idlC W c n else gi W.cpus d:=fun d d0=>za1 _ _ c0 c1 d0
  have s1:LwX K (S+500) (setCp W c (idlC W c n)):=by
   refine ⟨h.sw.setCp c0 c1 (z65 (c:=c) (by rw [List.length_set]; exact h.sw.a.c2) c0 (by rw [List.length_set]; exact c1) (by rw [show gi (W.cpus.set c.toNat (idlC W c n)) c=idlC W c n from (za1 _ _ c0 c1 c0).trans (if_pos rfl)]; exact hI.up)) hcu.1 hcu.2,(h.rb.mono (by omega)).setCp c0 c1 ⟨hr.1,by show (gi W.cpus c).busy<=_; omega,by show 0<=(gi W.cpus c).idle+n; omega,by show (gi W.cpus c).idle+n<=_; omega,hr.2.2.2.2.1,hr.2.2.2.2.2⟩,fun d a b => ?_,by have:=h.nw; show W.now<=S+500; omega,fun d a b => ?_⟩
   ·rw [hlen] at b
    rw [hg d a]
    split
    ·show (gi W.cpus c).idle+n<=_; omega
    ·have:=h.i d a b; omega
   ·rw [hlen] at b
    rw [hg d a]
    split
    ·exact hI.up
    ·exact h.up d a b
  exact ((s1.endW c0 (by rw [hlen]; exact c1)).settle K0).mono (by omega) (Int.le_refl _)
 ·have hR:=zrj hI (by omega) hp
  obtain ⟨_,_,e3,_⟩:=z79 hI hq (by omega) hp
  have t0:=hR.line.t0
  have t1:=hR.line.t1
  obtain ⟨s1,r1,u1,ran1,_,l1⟩:=zn0 h.sw h.rb c0 c1 hI.up t0 t1
  have hx:=zwk (t:=zaf W c) (n:=n) s1 r1 (by omega) c0 (by rw [l1]; exact c1) u1 ran1 t0 t1 hR.us (by omega) (by omega)
  have hcp:(chL c n (pthR (za9 W c (zaf W c)) (zaf W c)) (setTk (za9 W c (zaf W c)) (zaf W c) (chT (za9 W c (zaf W c)) (zaf W c) n))).cpus=(za9 W c (zaf W c)).cpus:=hx.2.2.2.2.2.2.2.2.cp
  have hlen:(chW (za9 W c (zaf W c)) c (zaf W c) n).cpus.length=W.cpus.length:=by rw [hx.2.2.2.2.1,l1]
  have hidle:∀d:Int,(gi (chW (za9 W c (zaf W c)) c (zaf W c) n).cpus d).idle=(gi W.cpus d).idle:=fun d=>by
   show (gi ((chL c n (pthR (za9 W c (zaf W c)) (zaf W c)) (setTk (za9 W c (zaf W c)) (zaf W c) (chT (za9 W c (zaf W c)) (zaf W c) n))).cpus.set c.toNat (chC (za9 W c (zaf W c)) c n)) d).idle=_
   rw [hcp,zb6 (f:=Cpu.idle) (za9 W c (zaf W c)).cpus c (x:=chC (za9 W c (zaf W c)) c n) rfl d]
   exact zb6 (f:=Cpu.idle) W.cpus c (x:=zde W c (zaf W c)) (by unfold zde; split <;> rfl) d
  have hup:∀d:Int,(gi (chW (za9 W c (zaf W c)) c (zaf W c) n).cpus d).up=(gi W.cpus d).up:=fun d=>by
   show (gi ((chL c n (pthR (za9 W c (zaf W c)) (zaf W c)) (setTk (za9 W c (zaf W c)) (zaf W c) (chT (za9 W c (zaf W c)) (zaf W c) n))).cpus.set c.toNat (chC (za9 W c (zaf W c)) c n)) d).up=_
   rw [hcp,zb6 (f:=Cpu.up) (za9 W c (zaf W c)).cpus c (x:=chC (za9 W c (zaf W c)) c n) rfl d]
   exact zb6 (f:=Cpu.up) W.cpus c (x:=zde W c (zaf W c)) (by unfold zde; split <;> rfl) d
  have k:LwX (K+5*lagB) (S+500) (chW (za9 W c (zaf W c)) c (zaf W c) n):=⟨hx.1,hx.2.1,fun d a b=>by rw [hlen] at b; rw [hidle]; have:=h.i d a b; omega,by rw [hx.2.2.2.1]; have:=h.nw; show W.now<=_; omega,fun d a b=>by rw [hlen] at b; rw [hup]; exact h.up d a b⟩
  show LwX _ _ (runN c 400 W n)
  rw [zj8 (by omega) hp,e3,zl4 (f:=398) (Int.le_refl 0)]
  exact (k.settle (by omega)).settle (by omega)
end
def Lw (n:Nat) (W:Wld):Prop:=LwX ((n:Int)*200000000000) ((n:Int)*500) W
section
variable {n m:Nat} {W:Wld}
theorem Lw.mono (h:Lw n W) (hm:n<=m):Lw m W:=LwX.mono h (by omega) (by omega)
theorem Lw.room (h:Lw n W) (wp:WldP W) (hn:n<=10000):zf5 W=true:=LwX.room h wp (by simp only [zbm]; omega) (by simp only [zbm]; omega) (by omega)
theorem zaku (h:Lw n W) (iv:Inv W) {a p:Int} {name:ByteArray} (hm:MkW W a p name):Lw n (mkW W a p name):=zajy h iv hm (by omega) (by omega)
theorem zajx (h:Lw n W) (hW:zbf W=true) {g x:Int} (hb:wghB W g x=0):Lw (n+1) (wghW W g x):=(zaig h hW hb (by omega)).mono (by simp only [lagB]; omega) (by omega)
theorem zaid (h:Lw n W) (hW:zbf W=true) {g c x:Int} (hb:zmm W g c x=0):Lw n (z99 W g c x):=zafq h hW hb (by omega) (by omega)
theorem zajw (h:Lw n W) (hW:zbf W=true) (hq:NoQ W) {c x:Int} (hb:runB W c x=0) (hn:n<=10000):Lw (n+1) (runW W c x):=(zaif h hW hq hb (by omega) (by omega) (by omega)).mono (by simp only [lagB]; omega) (by omega)
end
structure CrS (rb:Nat) (c:Option Addr) (L N:Nat) (bs:List Nat) (w0 w:World) (W:Wld) (m:MW):Prop where
 cr:Cr W
 lw:Lw N W
 s:Sc w0 (rb::bs) w
 r:RS rb c L N bs w
 o:OW 8 w0.heap.size (rb::bs) w W m
section
variable {rb b:Nat} {c:Option Addr} {L N:Nat} {bs cs:List Nat} {w0 w w':World} {W W':Wld} {m m':MW}
theorem CrS.step (h:CrS rb c L N bs w0 w W m) (hx:ExtX bs w w'):CrS rb c L N bs w0 w' W m:=⟨h.cr,h.lw,h.s.stepB hx,h.r.step hx,h.o.step (hx.mono fun _ hm=>List.mem_cons_of_mem _ hm)⟩
theorem CrS.put (h:CrS rb c L N bs w0 w W m) (hx:ExtX bs w w') (hb:w.heap.size<=b):CrS rb c L N (bs++[b]) w0 w' W m:=⟨h.cr,h.lw,h.s.putB hx hb,h.r.put hx hb,h.o.put (hx.mono fun _ hm=>List.mem_cons_of_mem _ hm) hb⟩
theorem CrS.sub (h:CrS rb c L N bs w0 w W m) (hs:∀x∈cs,x∈bs):CrS rb c L N cs w0 w W m:=by
 have k:∀x∈rb::cs,x∈rb::bs:=fun x hx=>by
  rcases List.mem_cons.1 hx with h1 | h1
  ·rw [h1]; exact List.mem_cons_self
  ·exact List.mem_cons_of_mem _ (hs x h1)
 exact ⟨h.cr,h.lw,h.s.sub k,h.r.sub hs,h.o.sub k⟩
theorem CrS.mono {M:Nat} (h:CrS rb c L N bs w0 w W m) (hm:N<=M):CrS rb c L M bs w0 w W m:=⟨h.cr,h.lw.mono hm,h.s,h.r.mono hm,h.o⟩
theorem CrS.rd (h:CrS rb c L N bs w0 w W m):RdW [] w W m:=h.o.rd0
theorem CrS.pick (h:CrS rb c L N bs w0 w W m) (hN:N<=1000000000000) (hs:∀x∈bs,x<w.heap.size) {n:Int} :
  Calls Tryz.prog zag #[.pointer (some ⟨rb,0,none⟩),.int .i64 n] w fun e w'=>∃v,e = .returned (.int .i64 v)/\Kept bs w w'/\z1x n v/\CrS rb c L (N+1) bs w0 w' W m:=
 (zagz h.r.rd hN).mono fun e w' ⟨v,he,hp,hr,hx⟩=>⟨v,he,zag0 h.r hx hs,hp,h.cr,h.lw.mono (by omega),h.s.stepR hx,h.r.upd hr,h.o.step (hx.mono fun x hm=>by
  have:x=rb:=by simpa using hm
  subst this; exact List.mem_cons_self)⟩
theorem CrS.deed {n M:Nat} (h:CrS rb c L N bs w0 w W m) (hs:∀x∈bs,x<w.heap.size) (hM:MWd n w.heap.size w' W' m') (hx:ExtX [] w w') (hc:Cr W') (hN:N<=M) (hl:Lw M W'):CrS rb c L M bs w0 w' W' m':=by
 have hn:n=8:=hM.len.symm.trans hc.iv.wp.a.gl
 subst hn
 have hb:∀x∈rb::bs,x<w.heap.size:=fun x hm=>by
  rcases List.mem_cons.1 hm with h1 | h1
  ·rw [h1]; exact h.r.rd.lt
  ·exact hs x h1
 exact ⟨hc,hl,h.s.call0 hx,(h.r.call0 hx).mono hN,(OW.of hM hb).mono h.s.ext.size⟩
theorem zag1 {W W':Wld} {M:Nat} (h:Cr W) (hl:Lw M W) {bar:Int} (hb:bar=0->Lw M W'):Lw M (ansD W bar W').1:=by
 unfold ansD
 rw [if_neg (by rw [h.w]; decide)]
 split
 ·exact hl
 ·rename_i e
  exact hb (by simpa using e)
theorem zacn {W W':Wld} {M:Nat} (h:Cr W) (hl:Lw M W) {bar a:Int} (hb:bar=0->Lw M W'):Lw M (zon W bar W' a).1:=by
 unfold zon
 rw [if_neg (by rw [h.w]; decide)]
 split
 ·exact hl
 ·rename_i e
  exact hb (by simpa using e)
theorem zacj {V:Wld} (ha:WA V):LenW V:=by
 have h1:=ha.c2
 have h2:=ha.t
 have h3:=ha.gl
 have hm:=zcu
 have hn1:=ha.n1
 have hn2:=ha.n2
 refine ⟨by omega,by omega,by omega,fun i a b => ?_⟩
 have hb:=zuu ha a (by omega)
 have hg:=ha.grp i a (by omega)
 have hz:(⟨[].toArray⟩:ByteArray).size=0:=rfl
 refine ⟨?_,?_,by omega,by omega,by omega⟩
 ·cases hu:(gi V.groups i).used with
  | false=>rw [(hg.1 hu).n,hz]; omega
  | true=>
   by_cases e:i=0
   ·rw [e,ha.tree.rn,hz]; omega
   ·have:=(zoa.1 (ha.tree.nm i (by omega) (by omega) hu)).1
    omega
 cases hu:(gi V.groups i).used with
 | false=>rw [(hg.1 hu).ne]; exact ⟨by decide,by decide⟩
 | true=>
  have hg:=hg.2 hu
  by_cases hq:(gi V.groups i).band.quota=0
  ·rw [(hg.none hq).2.2]; exact ⟨by decide,by decide⟩
  ·have:=hg.band hq
   exact ⟨by omega,by omega⟩
theorem CrS.len (h:CrS rb c L N bs w0 w W m):LenW W:=zacj h.cr.iv.wp.a
theorem CrS.mak {p:Int} {name:ByteArray} (h:CrS rb c L N bs w0 w W m) (hs:∀x∈bs,x<w.heap.size) :
  Calls Tryz.prog zat #[.agg (encW W m).toArray,.int .i64 p,.string name] w fun e w'=>∃(W':Wld) (m':MW) (a d:Int),e = .returned (.tuple #[.agg (encW W' m').toArray,.int .i64 a,.int .i64 d])/\Kept bs w w'/\CrS rb c L N bs w0 w' W' m':=
 (zuh h.rd h.len).mono fun e w' ⟨v,he,n,m',hv,hM,hx⟩=>by subst hv; exact ⟨_,m',_,_,he,za2 hx hs,h.deed hs hM hx (zabh h.cr (zajj h.cr)) (Nat.le_refl _) (zacn h.cr h.lw fun hb=>zaku h.lw h.cr.iv (zacp hb).1)⟩
theorem CrS.wgh {g x:Int} (h:CrS rb c L N bs w0 w W m) (hs:∀x∈bs,x<w.heap.size) :
  Calls Tryz.prog ze6 #[.agg (encW W m).toArray,.int .i64 g,.int .i64 x] w fun e w'=>∃(W':Wld) (m':MW) (d:Int),e = .returned (.tuple #[.agg (encW W' m').toArray,.int .i64 d])/\Kept bs w w'/\CrS rb c L (N+1) bs w0 w' W' m':=
 (zsh h.rd h.len).mono fun e w' ⟨v,he,n,m',hv,hM,hx⟩=>by subst hv; exact ⟨_,m',_,he,za2 hx hs,h.deed hs hM hx (zagt h.cr (zajm h.cr)) (Nat.le_succ _) (zag1 h.cr (h.lw.mono (Nat.le_succ _)) fun hb=>zajx h.lw h.cr.w hb)⟩
theorem CrS.fork {g n x:Int} (h:CrS rb c L N bs w0 w W m) (hs:∀x∈bs,x<w.heap.size) :
  Calls Tryz.prog zgd #[.agg (encW W m).toArray,.int .i64 g,.int .i64 n,.int .i64 x] w fun e w'=>∃(W':Wld) (m':MW) (a d:Int),e = .returned (.tuple #[.agg (encW W' m').toArray,.int .i64 a,.int .i64 d])/\Kept bs w w'/\CrS rb c L N bs w0 w' W' m':=
 (zxi h.rd h.len).mono fun e w' ⟨v,he,n,m',hv,hM,hx⟩=>by subst hv; exact ⟨_,m',_,_,he,za2 hx hs,h.deed hs hM hx (zabh h.cr (zahp h.cr)) (Nat.le_refl _) (zacn h.cr h.lw fun hb=>zaid h.lw h.cr.w hb)⟩
theorem CrS.run {q n:Int} (h:CrS rb c L N bs w0 w W m) (hN:N<=10000) (hs:∀x∈bs,x<w.heap.size) :
  Calls Tryz.prog zge #[.agg (encW W m).toArray,.int .i64 q,.int .i64 n] w fun e w'=>∃(W':Wld) (m':MW) (d:Int),e = .returned (.tuple #[.agg (encW W' m').toArray,.int .i64 d])/\Kept bs w w'/\CrS rb c L (N+1) bs w0 w' W' m':=
 (zxk h.rd h.len).mono fun e w' ⟨v,he,n,m',hv,hM,hx⟩=>by subst hv; exact ⟨_,m',_,he,za2 hx hs,h.deed hs hM hx (zagt h.cr (zajl h.cr)) (Nat.le_succ _) (zag1 h.cr (h.lw.mono (Nat.le_succ _)) fun hb=>zajw h.lw h.cr.w h.cr.nq hb hN)⟩
end
section
variable {rb b b2:Nat} {c:Option Addr} {L N:Nat} {bs:List Nat} {w0 w w':World} {W:Wld} {m:MW}
theorem CrS.put2 (h:CrS rb c L N bs w0 w W m) (hx:ExtX bs w w') (hb:w.heap.size<=b) (hb2:w.heap.size<=b2):CrS rb c L N (bs++[b]++[b2]) w0 w' W m:=by
 have k:=h.put (ExtX.refl _ _) hb
 have k2:=k.put (ExtX.refl _ _) hb2
 have hx':ExtX (rb::(bs++[b]++[b2])) w w':=hx.mono fun x hm=>by simp [hm]
 exact ⟨h.cr,h.lw,k2.s.step hx',k2.r.step (hx.mono fun x hm=>by simp [hm]),k2.o.step hx'⟩
def CrM (rb:Nat) (c:Option Addr) (L N:Nat) (bs0:List Nat) (w0:World) (vs:List Value) (bs:List Nat) (w:World):Prop:=
 bs=[]/\∃(W:Wld) (m:MW),vs=encW W m/\CrS rb c L N bs0 w0 w W m
end
theorem pv {n:Nat} {v:Int} (hp:z1x (n:Int) v) (hn:1<=n):0<=v/\v<(n:Int):=⟨hp.1,hp.2.2 (by omega)⟩
theorem el4 {v:Int} {P:Int->Prop} (hp:z1x 4 v) (h:∀x,P x):∃x:Int,(0<=v/\([.int .i64 0,.int .i64 0,.int .i64 1,.int .i64 2]:List Value)[Int.toNat v+0]? = some (.int .i64 x))/\P x:=by
 have h0:=hp.1
 have h1:=hp.2.2 (by decide)
 have:v=0\/v=1\/v=2\/v=3:=by omega
 rcases this with rfl | rfl | rfl | rfl
 ·exact ⟨0,⟨h0,rfl⟩,h _⟩
 ·exact ⟨0,⟨h0,rfl⟩,h _⟩
 ·exact ⟨1,⟨h0,rfl⟩,h _⟩
 ·exact ⟨2,⟨h0,rfl⟩,h _⟩
theorem el3 {v:Int} {P:ByteArray->Prop} (hp:z1x 3 v) (h:∀x,P x):∃x:ByteArray,(0<=v/\([.string (ByteArray.mk [97].toArray),.string (ByteArray.mk [98].toArray),.string (ByteArray.mk [119,101,98].toArray)]:List Value)[Int.toNat v+0]? = some (.string x))/\P x:=by
 have h0:=hp.1
 have h1:=hp.2.2 (by decide)
 have:v=0\/v=1\/v=2:=by omega
 rcases this with rfl | rfl | rfl
 ·exact ⟨_,⟨h0,rfl⟩,h _⟩
 ·exact ⟨_,⟨h0,rfl⟩,h _⟩
 ·exact ⟨_,⟨h0,rfl⟩,h _⟩
set_option maxHeartbeats 4000000 in
theorem z0a {c:Option Addr} {L C:Nat} {w:World} (h:z1v c L w) (hC:L<=C) :
  Calls Tryz.prog zjw #[.slice c L C] w fun e w'=>∃(W:Wld) (m:MW),e = .returned (.agg (encW W m).toArray)/\(Cr W/\Lw 200 W)/\MWd 8 w.heap.size w' W m/\ExtX [] w w':=by
 refine (zzu c L C (R:=fun v w'=>∃(W:Wld) (m:MW),v = .agg (encW W m).toArray/\(Cr W/\Lw 200 W)/\MWd 8 w.heap.size w' W m/\ExtX [] w w') ?_).mono fun e w' ⟨v,he,W,m,hv,h3⟩=>⟨W,m,by rw [he,hv],h3⟩
 intro b hb wr hx hs
 refine (zaad (h.ext hx) hC).mono ?_
 rintro e wv ⟨rb,c',L',he,hrb,hR,hx1,hblk⟩
 have hRS:RS rb c' L' 0 [b] wv:=⟨hR,fun hm=>by
  have:=hs rb hm
  omega,fun a' ha'=>by
  rcases hblk a' ha' with h0 | ⟨h0,a,ha,hab⟩
  ·exact .inr h0
  ·refine .inl fun hm => ?_
   obtain ⟨a0,x0,ha0,_,_,h30⟩:=h 0 h0
   have hlt2:=World.block_lt_of_cell? w _ h30
   rw [zb9] at hlt2
   rw [ha] at ha0; cases ha0
   have:a'.block=b:=by simpa using hm
   omega⟩
 have s1:Sc w (rb::[b]) wv:=⟨hx.trans hx1,fun x hm=>by
  rcases List.mem_cons.1 hm with h1 | h1
  ·have:=hx.size; omega
  ·have:x=b:=by simpa using h1
   omega⟩
 refine ⟨_,he,za2 hx1 hs,fun wr1 hx2 hs2 => ?_⟩
 have hRS1:=hRS.step hx2
 refine (zagz hRS1.rd (by decide)).mono ?_
 rintro e1 wv1 ⟨v,he1,hp,hR1,hx3⟩
 have hv0:=hp.1
 have hv2:=hp.2.2 (by decide)
 refine ⟨_,he1,zag0 hRS1 hx3 hs2,⟨by omega,by omega⟩,fun wr2 hx4 hs4 => ?_⟩
 have hRS2:=(hRS1.upd hR1).step hx4
 have s2:=((s1.stepB hx2).stepR hx3).stepB hx4
 obtain ⟨n,hn⟩:∃n:Nat,1+v=(n:Int):=⟨(1+v).toNat,by omega⟩
 rw [hn]
 refine (zxj (n:=n) (by omega) (by omega)).mono ?_
 rintro e2 wv2 ⟨m,he2,hM,hx5⟩
 have hb2:∀x∈rb::[b],x<wr2.heap.size:=fun x hm=>by
  rcases List.mem_cons.1 hm with h1 | h1
  ·rw [h1]; exact hRS2.rd.lt
  ·exact hs4 x h1
 have hK:CrS rb c' L' 1 [b] w wv2 (newW n) m:=⟨zajk (by omega) (by omega),Lw.mono (n:=0) (LwX.mono (zaie (by omega) (by omega)) (by decide) (by decide)) (by omega),s2.call0 hx5,hRS2.call0 hx5,(OW.of hM hb2).mono s2.ext.size⟩
 refine ⟨_,_,_,_,_,_,_,_,_,_,_,he2,za2 hx5 hs4,fun b1 hb1 wr3 hx6 hs6 => ?_⟩
 refine ((hK.put hx6 hb1).pick (by decide) hs6).mono ?_
 rintro e3 wv3 ⟨v1,he3,hk3,hp1,hK1⟩
 have hv10:=hp1.1
 have hv12:=hp1.2.2 (by decide)
 refine ⟨_,he3,hk3,?_⟩
 refine ⟨fun vs w2=>∃(k N:Nat) (W:Wld) (m:MW),vs = .int .i64 (k:Int)::encW W m/\(k:Int)<=v1/\N<=2+4*k/\CrS rb c' L' N [b,b1] w w2 W m,zd6 v1.toNat 0,fun wr8 hx8 _=>⟨0,2,newW n,m,rfl,hv10,by omega,hK1.step hx8⟩,?_⟩
 clear hK1 hk3 he3 hs6 hx6 hM hK he2 hx5
 rintro i1 l l1O l1L l1C l2O l2L l2C l3O l3L l3C wv8 hs8 ⟨k,N,W,m,he8,hk,hN,hK⟩
 simp only [encW,List.cons.injEq,Value.int.injEq,Value.slice.injEq,true_and,and_true] at he8
 obtain ⟨rfl,rfl,⟨rfl,rfl,rfl⟩,⟨rfl,rfl,rfl⟩,rfl,rfl,rfl⟩:=he8
 refine ⟨fun hlt=>⟨CrM rb c' L' (N+2) [b,b1] w,?_,?_⟩,fun hge => ?_⟩
 ·have hlt:=of_decide_eq_true hlt
  repeat' first
   | exact rfl
   | (refine pv (n:=4) ?_ (by decide); assumption)
   | (refine pv (n:=3) ?_ (by decide); assumption)
   | (refine And.intro ?_ ?_)
   | (refine el4 (by assumption) fun x => ?_)
   | (refine el3 (by assumption) fun x => ?_)
   | (intro (b:Nat) hb)
   | (intro (wr:World) hx hs; refine (CrS.pick (CrS.step (by assumption) hx) ?_ hs).mono ?_; rotate_left; rintro e w2 ⟨v,he,hk,hp,hC⟩; refine ⟨_,he,hk,?_⟩)
   | (intro (wr:World) hx hs; refine (CrS.pick (CrS.put (by assumption) hx (by assumption)) ?_ hs).mono ?_; rotate_left; rintro e w2 ⟨v,he,hk,hp,hC⟩; refine ⟨_,he,hk,?_⟩)
   | (intro (wr:World) hx hs; refine (CrS.pick (CrS.put2 (by assumption) hx (by assumption) (by assumption)) ?_ hs).mono ?_; rotate_left; rintro e w2 ⟨v,he,hk,hp,hC⟩; refine ⟨_,he,hk,?_⟩)
   | (intro (wr:World) hx hs; refine (CrS.mak (CrS.step (by assumption) hx) hs).mono ?_; rintro e w2 ⟨W',m',a,d,he,hk,hC⟩; refine ⟨_,_,_,_,_,_,_,_,_,_,_,_,he,hk,?_⟩)
   | (intro (wr:World) hx hs; refine (CrS.mak (CrS.put (by assumption) hx (by assumption)) hs).mono ?_; rintro e w2 ⟨W',m',a,d,he,hk,hC⟩; refine ⟨_,_,_,_,_,_,_,_,_,_,_,_,he,hk,?_⟩)
   | (intro (wr:World) hx hs; refine (CrS.mak (CrS.put2 (by assumption) hx (by assumption) (by assumption)) hs).mono ?_; rintro e w2 ⟨W',m',a,d,he,hk,hC⟩; refine ⟨_,_,_,_,_,_,_,_,_,_,_,_,he,hk,?_⟩)
   | (intro (wr:World) hx hs; exact ⟨rfl,_,_,rfl,(CrS.step (by assumption) hx).sub (by simp)⟩)
   | omega
 ·have hlt:=of_decide_eq_true hlt
  rintro l4 l5O l5L l5C l6O l6L l6C l7O l7L l7C wv37 hs37 ⟨-,W2,m2,hv,hC⟩
  simp only [encW,List.cons.injEq,Value.int.injEq,Value.slice.injEq,true_and,and_true] at hv
  obtain ⟨rfl,⟨rfl,rfl,rfl⟩,⟨rfl,rfl,rfl⟩,rfl,rfl,rfl⟩:=hv
  refine ⟨⟨by omega,by omega⟩,fun wr49 hx49 hs49 => ?_⟩
  refine ((hC.step hx49).pick (by omega) hs49).mono ?_
  rintro e4 w38 ⟨v2,he4,hk4,hp4,hC2⟩
  have h1:=hp4.1
  have h2:=hp4.2.2 (by decide)
  refine ⟨_,he4,hk4,rfl,⟨by omega,by omega⟩,fun wr50 hx50 hs50 => ?_⟩
  refine ((hC2.step hx50).wgh hs50).mono ?_
  rintro e5 w39 ⟨W3,m3,d,he5,hk5,hC3⟩
  exact ⟨_,_,_,_,_,_,_,_,_,_,_,he5,hk5,⟨by omega,by omega⟩,fun wr51 hx51 _=>⟨⟨k+1,N+2+1+1,W3,m3,by simp [encW],by omega,by omega,hC3.step hx51⟩,zb4 (k:=k) rfl rfl (by omega)⟩⟩
 ·have hge:=of_decide_eq_false hge
  intro wr52 hx52 hs52
  refine ((hK.step hx52).pick (by omega) hs52).mono ?_
  rintro e6 w40 ⟨v3,he6,hk6,hp6,hC6⟩
  have h1:=hp6.1
  have h2:=hp6.2.2 (by decide)
  refine ⟨_,he6,hk6,⟨by omega,by omega⟩,?_⟩
  refine ⟨fun vs w2=>∃(k N:Nat) (W:Wld) (m:MW),vs = .int .i64 (k:Int)::encW W m/\(k:Int)<=1+v3/\N<=20+2*k/\CrS rb c' L' N [b,b1] w w2 W m,zd6 (1+v3).toNat 0,fun wr8 hx8 _=>⟨0,N+1,W,m,rfl,by omega,by omega,hC6.step hx8⟩,?_⟩
  clear hK hC6 hk6 he6 hs52 hx52
  rintro i3 l8 l9O l9L l9C l10O l10L l10C l11O l11L l11C wv45 hs45 ⟨k3,N3,W3,m3,he9,hk3,hN3,hK3⟩
  simp only [encW,List.cons.injEq,Value.int.injEq,Value.slice.injEq,true_and,and_true] at he9
  obtain ⟨rfl,rfl,⟨rfl,rfl,rfl⟩,⟨rfl,rfl,rfl⟩,rfl,rfl,rfl⟩:=he9
  refine ⟨fun hlt3=>⟨⟨by omega,by omega⟩,fun wr58 hx58 hs58 => ?_⟩,fun hge3 wr62 hx62 hs62 => ?_⟩
  ·have hlt3:=of_decide_eq_true hlt3
   refine ((hK3.step hx58).pick (by omega) hs58).mono ?_
   rintro e7 w46 ⟨v4,he7,hk7,hp7,hC7⟩
   refine ⟨_,he7,hk7,rfl,fun wr59 hx59 hs59 => ?_⟩
   refine ((hC7.step hx59).pick (by omega) hs59).mono ?_
   rintro e8 w47 ⟨v5,he8,hk8,hp8,hC8⟩
   have h3:=hp8.1
   have h4:=hp8.2.2 (by decide)
   refine ⟨_,he8,hk8,rfl,⟨by omega,by omega⟩,fun wr60 hx60 hs60 => ?_⟩
   refine ((hC8.step hx60).fork hs60).mono ?_
   rintro e9 w48 ⟨W4,m4,a,d,he9,hk9,hC9⟩
   exact ⟨_,_,_,_,_,_,_,_,_,_,_,_,he9,hk9,⟨by omega,by omega⟩,fun wr61 hx61 _=>⟨⟨k3+1,N3+1+1,W4,m4,by simp [encW],by omega,by omega,hC9.step hx61⟩,zb4 (k:=k3) rfl rfl (by omega)⟩⟩
  ·have hge3:=of_decide_eq_false hge3
   refine ((hK3.step hx62).pick (by omega) hs62).mono ?_
   rintro e10 w49 ⟨v6,he10,hk10,hp10,hC10⟩
   have h3:=hp10.1
   have h4:=hp10.2.2 (by decide)
   refine ⟨_,he10,hk10,?_⟩
   refine ⟨fun vs w2=>∃(k N:Nat) (W:Wld) (m:MW),vs = .int .i64 (k:Int)::encW W m/\(k:Int)<=v6/\N<=60+3*k/\CrS rb c' L' N [b,b1] w w2 W m,zd6 v6.toNat 0,fun wr8 hx8 _=>⟨0,N3+1,W3,m3,rfl,by omega,by omega,hC10.step hx8⟩,?_⟩
   clear hK3 hC10 hk10 he10 hs62 hx62
   rintro i5 l12 l13O l13L l13C l14O l14L l14C l15O l15L l15C wv54 hs54 ⟨k5,N5,W5,m5,he11,hk5,hN5,hK5⟩
   simp only [encW,List.cons.injEq,Value.int.injEq,Value.slice.injEq,true_and,and_true] at he11
   obtain ⟨rfl,rfl,⟨rfl,rfl,rfl⟩,⟨rfl,rfl,rfl⟩,rfl,rfl,rfl⟩:=he11
   refine ⟨fun hlt5 wr68 hx68 hs68 => ?_,fun hge5 wr72 hx72=>⟨W5,m5,rfl,⟨hK5.cr,hK5.lw.mono (by omega)⟩,?_⟩⟩
   ·have hlt5:=of_decide_eq_true hlt5
    refine ((hK5.step hx68).pick (by omega) hs68).mono ?_
    rintro e12 w55 ⟨v7,he12,hk12,hp12,hC12⟩
    refine ⟨_,he12,hk12,rfl,fun wr69 hx69 hs69 => ?_⟩
    refine ((hC12.step hx69).pick (by omega) hs69).mono ?_
    rintro e13 w56 ⟨v8,he13,hk13,hp13,hC13⟩
    have h5:=hp13.1
    have h6:=hp13.2.2 (by decide)
    refine ⟨_,he13,hk13,rfl,⟨by omega,by omega⟩,fun wr70 hx70 hs70 => ?_⟩
    refine ((hC13.step hx70).run (by omega) hs70).mono ?_
    rintro e14 w57 ⟨W6,m6,d,he14,hk14,hC14⟩
    exact ⟨_,_,_,_,_,_,_,_,_,_,_,he14,hk14,⟨by omega,by omega⟩,fun wr71 hx71 _=>⟨⟨k5+1,N5+1+1+1,W6,m6,by simp [encW],by omega,by omega,hC14.step hx71⟩,zb4 (k:=k5) rfl rfl (by omega)⟩⟩
   ·have hf:=hK5.step hx72
    exact ⟨hf.o.own,hf.s.ext⟩
def BAt (bs:List Nat) (w:World) (c:Option Addr) (L:Nat) (f:Nat->Int):Prop:=∀i:Nat,i<L->0<=f i/\f i<=255/\zit bs w c i (.int .u8 (f i))
def bD (L:Nat) (f:Nat->Int) (i:Int):Int:=if i<(L:Int) then f i.toNat else Int.tmod (i*37) 251
section
variable {bs cs:List Nat} {w w':World} {c:Option Addr} {L C:Nat} {f:Nat->Int} {i:Int}
theorem zajh (h:z1v c L w):∃f:Nat->Int,BAt [] w c L f:=by
 have h1:∀i:Nat,∃x:Int,i<L->0<=x/\x<=255/\zit [] w c i (.int .u8 x):=fun i=>by
  by_cases hi:i<L
  ·obtain ⟨a,x,ha,h1,h2,h3⟩:=h i hi
   exact ⟨x,fun _=>⟨h1,h2,a,ha,by simp,h3⟩⟩
  ·exact ⟨0,fun h=>absurd h hi⟩
 exact ⟨fun i=>(h1 i).choose,fun i hi=>(h1 i).choose_spec hi⟩
theorem BAt.ext (h:BAt bs w c L f) (hx:ExtX bs w w'):BAt bs w' c L f:=fun i hi=>⟨(h i hi).1,(h i hi).2.1,(h i hi).2.2.ext hx⟩
theorem BAt.less (h:BAt bs w c L f) (hs:∀x∈cs,x∈bs):BAt cs w c L f:=fun i hi=>by
 obtain ⟨h1,h2,a,ha,hb,h3⟩:=h i hi
 exact ⟨h1,h2,a,ha,fun hm=>hb (hs _ hm),h3⟩
theorem zako (h:BAt bs w c L f) (i0:0<=i):0<=bD L f i/\bD L f i<=255:=by
 unfold bD
 split
 ·exact ⟨(h i.toNat (by omega)).1,(h i.toNat (by omega)).2.1⟩
 ·exact ⟨Int.tmod_nonneg _ (by omega),by have:=Int.tmod_lt_of_pos (i*37) (show (0:Int)<251 by decide); omega⟩
theorem z3m (h:BAt bs w c L f) (i0:0<=i) (i1:i<=1000):zad bs Tryz.prog zkx #[.slice c L C,.int .i64 i] w (.int .i64 (bD L f i)):=
 z37 c L C i fun wr hx=>by
  have h:=(h.ext hx).less (cs:=[]) (by simp)
  refine ⟨fun hlt => ?_,fun hge=>⟨⟨by omega,by omega⟩,by decide,?_⟩⟩
  ·have hlt:=of_decide_eq_true hlt
   obtain ⟨h1,h2,h3⟩:=h i.toNat (by omega)
   refine ⟨⟨i0,hlt,?_⟩,f i.toNat,zhp (by rw [Nat.mul_one]; exact h3),⟨by omega,by omega⟩,?_⟩
   ·obtain ⟨a,ha,_⟩:=h3
    rw [ha]; rfl
   ·show _=_
    unfold bD
    rw [if_pos hlt]
  ·have hge:=of_decide_eq_false hge
   show _=_
   unfold bD
   rw [if_neg hge]
end
end Go.Proofs.YtclpmgfpjeaibaaGreatDoor
namespace Go.Proofs.YtclpmgfpjeaibaaGreatDoor
open Go.RowKit Go.ChangeShapes
set_option linter.unusedVariables false
set_option linter.unusedSimpArgs false
set_option maxRecDepth 10000
theorem zai5:Tryz.prog.underlying z4q=some (.int .u8):=by kernel_rfl
theorem u_sl_uint8:Tryz.prog.underlying ty_sl_uint8=some (.slice z4q):=by kernel_rfl
theorem zahg:Tryz.prog.cellsOf z4q=1:=by kernel_rfl
theorem op_bytes {H:Type} {en:TypeId×Value->H} {w:World} {base:Nat} {spare:Nat->Bool} {held:Bool} {fuel:Nat} {cs:List Value} {x:DataW H×List MemPlace} (h:DataW.trod en Tryz.prog w base spare held fuel ty_sl_uint8 cs=some x) :
  ∃(o:Option Addr) (cap L:Nat),cs=[.slice o L cap]/\z1v o L w/\L<=cap:=by
 obtain ⟨o,len,cap,rfl,h1,_,h3⟩:=zagk u_sl_uint8 h
 refine ⟨o,cap,len,rfl,fun i hi => ?_,h1⟩
 obtain ⟨a,n,y,ec,ho,hc,ht⟩:=h3 i hi
 rw [zahg,Nat.mul_one] at hc
 obtain ⟨v,rfl,_,hw⟩:=DataW.trod_int zai5 ht
 have hv:0<=v/\v<=255:=by simpa [Lit.wf,IntKind.min,IntKind.max,IntKind.signed,IntKind.bits] using hw
 obtain ⟨_,_,hcell⟩:=World.cells?_some hc
 have:=hcell 0 (by decide)
 rw [zf6,Nat.add_zero] at this
 exact ⟨a,v,ho,hv.1,hv.2,this⟩
end Go.Proofs.YtclpmgfpjeaibaaGreatDoor
namespace Go.Proofs.YtclpmgfpjeaibaaGreatDoor
open Go.RowKit
set_option linter.unusedVariables false
set_option linter.unusedSimpArgs false
set_option maxRecDepth 10000
theorem zaiu {W:Wld} {c n:Int} (hn:inB n 1 100=true) (c0:0<=c) (c1:c<(W.cpus.length:Int)) (up:(gi W.cpus c).up=true) (hr:zf5 W=true):runB W c n=0:=by
 have hc:zop W c=true:=za4.2 (by omega)
 unfold runB
 rw [if_neg (by rw [hn,hc]; simp),if_neg (by rw [up]; decide),if_neg (by rw [hr]; decide)]
theorem zahc {W W':Wld} {bar:Int} (h:zbf W=true) (hb:bar=0):ansD W bar W'=(W',0):=by
 unfold ansD
 rw [if_neg (by rw [h]; decide),if_neg (by rw [hb]; decide)]
theorem z9f {c:Int} {W0:Wld}:∀(f:Nat) {V:Wld} {left:Int},RunI f c W0 V left->(runN c f V left).cpus.length=W0.cpus.length
 | 0,V,left,h=>by
  have:=h.f1
  have:=h.l0
  omega
 | f+1,V,left,h=>by
  have hK:=zi9 h.f2
  have hh0:(0:Int)<=zbm:=by decide
  by_cases hl:left<=0
  ·rw [zl4 hl,(zfx h.sw (by omega)).2.c]
   exact h.len
  ·by_cases hp:zaf V c<0
   ·rw [zj7 hl hp,(zfx (z5o h).1 (by omega)).2.c]
    show (((V.cpus.set c.toNat _).set c.toNat _).length)=_
    rw [List.length_set,List.length_set]
    exact h.len
   ·rw [zj8 hl hp]
    exact z9f f (zrj h (by omega) hp).nx
theorem zaiv {W:Wld} {c n:Int} (hW:zbf W=true) (hb:runB W c n=0):(runW W c n).cpus.length=W.cpus.length:=z9f 400 (zyq hW hb).2.2.2.2
theorem zak2 {x n:Int} (h0:0<=x) (h1:0<n):0<=Int.tmod x n/\Int.tmod x n<n:=⟨Int.tmod_nonneg _ h0,Int.tmod_lt_of_pos _ h1⟩
set_option maxHeartbeats 1000000 in
theorem k_FnNext {a b:Option Addr} {La Ca Lb Cb:Nat} {w:World} (ha:z1v a La w) (hca:La<=Ca) (hb:z1v b Lb w) (_:Lb<=Cb) (hg:zrs w) :
  Calls Tryz.prog zo3 #[.slice a La Ca,.slice b Lb Cb] w fun e w'=>e = .returned (.bool true)/\ExtX [] w w':=by
 refine (z20 a La Ca b Lb Cb (R:=fun v w'=>v = .bool true/\ExtX [] w w') ?_).mono fun e w' ⟨v,he,hv,h3⟩=>⟨by rw [he,hv],h3⟩
 obtain ⟨f,hf⟩:=zajh hb
 refine ⟨fun _ wr hx=>⟨rfl,hx⟩,fun _ wr1 hx1 _ => ?_⟩
 refine (z0a (ha.ext hx1) hca).mono ?_
 rintro e wv ⟨W,m,he,⟨hC,hL⟩,hM,hx2⟩
 have s0:Sc w [] wv:=((Sc.start w).call0 hx1).call0 hx2
 have o0:OW 8 w.heap.size [] wv W m:=(OW.of hM (by simp)).mono hx1.size
 have wp:=hC.iv.wp
 have hc1:=wp.a.c1
 have hc2:=wp.a.c2
 have htl:=wp.a.t
 have hlen:=zacj wp.a
 have hi0:=zako hf (show (0:Int)<=0 by decide)
 obtain ⟨c0,c1⟩:=zak2 hi0.1 (show (0:Int)<((W.cpus.length:Nat):Int) by omega)
 refine ⟨_,_,_,_,_,_,_,_,_,_,he,ze7,fun b1 hb1=>⟨bD Lb f 0,z3m (hf.ext s0.ext) (by omega) (by omega),by omega,?_⟩⟩
 generalize Int.tmod (bD Lb f 0) ((W.cpus.length:Nat):Int)=c at c0 c1 ⊢
 refine ⟨zl3 W c,zuc o0.rd hlen,fun wr2 hx3 hs3 => ?_⟩
 have s1:Sc w [b1] wr2:=s0.put hx3 hb1
 have o1:OW 8 w.heap.size [b1] wr2 W m:=o0.put hx3 hb1
 have hup:=hL.up c c0 c1
 have hrun:runB W c 1=0:=zaiu (by decide) c0 c1 hup (hL.room wp (by decide))
 have hpk:zl3 W c=zaf W c:=if_pos ⟨hC.w,za4.2 (by omega),hup⟩
 refine (zxe (c:=c) (n:=1) o1.rd0 hlen (hg.ext s1.ext)).mono ?_
 rintro e1 wv1 ⟨v,he1,nG,mG,hv,hG0,hy⟩
 subst hv
 rw [zahc hC.w hrun] at he1 hG0
 have iv2:=zaca hC.iv hrun
 have c3:c<((runW W c 1).cpus.length:Int):=by
  rw [zaiv hC.w hrun]; exact c1
 have ht2:=iv2.wp.a.t
 have s2:=s1.call0 hy
 have o2:=o1.call0 hy
 have oG:=(OW.of hG0 hs3).mono s1.ext.size
 refine ⟨_,_,_,_,_,_,_,_,_,_,_,he1,za2 hy hs3,fun b2 hb2=>⟨zl3 W c,zui o2.rd hlen,fun g => ?_,fun _=>⟨fun g => ?_,fun g => ?_⟩⟩⟩
 ·simp at g
 ·have g:=of_decide_eq_true g
  rw [hpk] at g
  have hid:=zacy c0 c1 g
  have hi2:=(zeh.1 (wp.c c c0 c1).i)
  refine ⟨oG.rd.c.ix zer c0 c3,_,oG.rd.c.f c0 c3 (j:=4) rfl,o2.rd.c.ix zer c0 c1,_,o2.rd.c.f c0 c1 (j:=4) rfl,⟨by omega,by omega⟩,fun wr4 hx4=>⟨?_,(s2.step hx4).ext⟩⟩
  rw [hid]
  simp
 ·have g:=of_decide_eq_false g
  rw [hpk] at g
  obtain ⟨t1,hsum,hcur⟩:=zafv hC.w hC.nq hrun g
  rw [<-hpk] at t1 hsum hcur g
  have hs2:0<=(tkk W (zl3 W c)).sum/\(tkk W (zl3 W c)).sum<=100000000000000000:=by
   rcases wp.t (zl3 W c) (by omega) t1 with hz | ⟨_,hx⟩
   ·rw [hz.2]; decide
   ·exact zeh.1 hx.s
  have i2:zl3 W c<((runW W c 1).tasks.length:Int):=by omega
  have i1:zl3 W c<(W.tasks.length:Int):=by omega
  refine ⟨fun _=>oG.rd.t.ix zcc (by omega) i2,_,fun _=>oG.rd.t.f (by omega) i2 (j:=6) rfl,fun _=>o2.rd.t.ix zcc (by omega) i1,_,fun _=>o2.rd.t.f (by omega) i1 (j:=6) rfl,fun _ => ?_,fun _=>oG.rd.c.ix zer c0 c3,_,fun _=>oG.rd.c.f c0 c3 (j:=1) rfl,fun wr5 hx5=>⟨?_,(s2.step hx5).ext⟩⟩
  ·show InR .i64 ((tkk W (zl3 W c)).sum+1)
   exact ⟨by omega,by omega⟩
  ·rw [decide_eq_true i2,hcur,show (gi (runW W c 1).tasks (zl3 W c)).sum=(gi W.tasks (zl3 W c)).sum+1 from hsum]
   simp
end Go.Proofs.YtclpmgfpjeaibaaGreatDoor
