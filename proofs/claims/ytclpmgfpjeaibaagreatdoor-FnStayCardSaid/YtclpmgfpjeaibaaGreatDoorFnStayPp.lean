/- Part 16 of what the law FnStay needs: the engine, the functions' propositions, the contracts. -/
import Derived.Test.YtclpmgfpjeaibaaGreatDoorFnStayPo
namespace Go.Proofs.YtclpmgfpjeaibaaGreatDoor
open Go.RowKit
set_option linter.unusedVariables false
set_option linter.unusedSimpArgs false
set_option maxRecDepth 10000
theorem zabf {K:Int} {W:Wld} (sw:SW K W) {c:Int} (c0:0<=c) (c1:c<(W.cpus.length:Int)) (i:Int) (hi:0<=i):(gi (zhl W c).groups i).band=(gi W.groups i).band:=(z4r sw c0 c1).1.b i hi
theorem zv8 {K:Int} {W:Wld} (sw:SW K W) (hK:0<=K) (i:Int) (hi:0<=i):∀c:Nat,c<=W.cpus.length->(gi (zeo W c).groups i).band=(gi W.groups i).band
 | 0,_=>rfl
 | c+1,hc=>by
  obtain ⟨s1,f1⟩:=zl7 sw hK c (by omega)
  rw [show zeo W (c+1)=zhl (zeo W c) (c:Int) from rfl,zabf s1 (by omega) (by rw [f1.c]; omega) i hi,zv8 sw hK i hi c (by omega)]
theorem zaao {K:Int} {W:Wld} (sw:SW K W) (hK:0<=K) (c:Int):phiW (zah W) c<=phiW W c:=by
 obtain ⟨s1,o1⟩:=zhe (F:=K) (K:=K+lagB) (sw.sf.mono (Int.le_refl _) (by simp only [lagB]; omega)) (Int.le_refl _) W.cpus.length (Nat.le_refl _)
 obtain ⟨s2,b2⟩:=zh9 s1 8 (Nat.le_refl _)
 refine zsr (fun k hk => ?_) 8 (Nat.le_refl _)
 have h1:(gi (zah W).groups (k:Int)).band=(gi (zdm (zbq W W.cpus.length) 8).groups (k:Int)).band:=zv8 s2.w (by simp only [lagB]; omega) (k:Int) (by omega) W.cpus.length (by show W.cpus.length<=(zdm (zbq W W.cpus.length) 8).cpus.length; rw [b2.c,o1.c]; exact Nat.le_refl _)
 rw [h1]
 have h2:=z6o s1 c 8 (Nat.le_refl _) (k:Int) (by omega)
 rw [o1.b (k:Int) (by omega)] at h2
 exact h2
def pthR (W:Wld) (t:Int):List Int:=zbk W.groups (tkk W t).group++[0]
def tkG (W:Wld) (c g:Int):Wld×Bool:=if (gi W.groups g).band.quota=0 then (W,true) else (setBd W g (zdc (gi W.groups g).band c).1,decide ((zdc (gi W.groups g).band c).2≠2))
def tkL (c:Int):List Int->Wld->Wld×Bool
 | [],W=>(W,true)
 | g::l,W=>if (tkG W c g).2=true then tkL c l (tkG W c g).1 else ((tkG W c g).1,false)
def mstG (W:Wld) (c g n:Int):Int:=if (gi W.groups g).band.quota>0 then minI n (gi (gi W.groups g).band.locals c) else n
def mstL (W:Wld) (c:Int):List Int->Int->Int
 | [],n=>n
 | g::l,n=>mstL W c l (mstG W c g n)
def chS (W:Wld) (c n g:Int):Shf:={ shf W g c with v:=if g≠0 then (shf W g c).v+zbn n (shf W g c).w else (shf W g c).v,sum:=(shf W g c).sum+n }
def chB (W:Wld) (c n g:Int):Bnd:=if (gi W.groups g).band.quota>0 then (zdd (gi W.groups g).band ⟨2,c,n⟩).1 else (gi W.groups g).band
def chA (W:Wld) (c n g:Int):Wld:=setSh W g c (chS W c n g)
def chU (W:Wld) (c n g:Int):Grp:={ gi (chA W c n g).groups g with sum:=(gi W.groups g).sum+n }
def chG (W:Wld) (c n g:Int):Wld:=setBd (setGr (chA W c n g) g (chU W c n g)) g (chB W c n g)
def chL (c n:Int):List Int->Wld->Wld
 | [],W=>W
 | g::l,W=>chL c n l (chG W c n g)
def chT (W:Wld) (t n:Int):Tsk:={ tkk W t with v:=(tkk W t).v+zbn n (zai (tkk W t).nice),sum:=(tkk W t).sum+n,used:=(tkk W t).used+n }
def chC (W:Wld) (c n:Int):Cpu:={ gi W.cpus c with busy:=(gi W.cpus c).busy+n,ran:=(gi W.cpus c).ran+n }
def chW (W:Wld) (c t n:Int):Wld:=setCp (chL c n (pthR W t) (setTk W t (chT W t n))) c (chC W c n)
def zdb (W:Wld) (c t:Int):Cpu:=if t≠(gi W.cpus c).cur\/(gi W.cpus c).ran>=50 then { gi W.cpus c with cur:=t,ran:=0 } else gi W.cpus c
def zbu (W:Wld) (c t:Int):Wld:=setCp W c (zdb W c t)
def idlC (W:Wld) (c n:Int):Cpu:={ gi W.cpus c with idle:=(gi W.cpus c).idle+n }
def tkW (W:Wld) (c:Int):Wld×Bool:=tkL c (pthR W (zaf W c)) (zbu W c (zaf W c))
def rndM (W:Wld) (c left:Int):Int:=mstL (tkW W c).1 c (pthR W (zaf W c)) left
def rndW (W:Wld) (c left:Int):Wld×Int:=
 if (tkW W c).2=true then (zah (chW (tkW W c).1 c (zaf W c) (rndM W c left)),left - rndM W c left) else (zah (endW (tkW W c).1 c),left)
def runN (c:Int):Nat->Wld->Int->Wld
 | 0,W,_=>W
 | f+1,W,left=>if left<=0 then zah W else if zaf W c<0 then zah (endW (setCp W c (idlC W c left)) c) else runN c f (rndW W c left).1 (rndW W c left).2
structure TkP (K c:Int) (W W':Wld):Prop where
 sw:SW K W'
 o:zkp W W'
 q:∀i:Int,0<=i->(gi W'.groups i).band.quota=(gi W.groups i).band.quota
 l:∀i:Int,0<=i->gi (gi W.groups i).band.locals c>0->gi (gi W'.groups i).band.locals c>0
 p:∀i:Int,0<=i->phiB (gi W'.groups i).band c<=phiB (gi W.groups i).band c
 su:SumC W W'
theorem TkP.refl {K c:Int} {W:Wld} (h:SW K W):TkP K c W W:=⟨h,zkp.refl _,fun _ _=>rfl,fun _ _ h=>h,fun _ _=>Nat.le_refl _,SumC.refl _⟩
theorem TkP.trans {K c:Int} {A B C:Wld} (h:TkP K c A B) (k:TkP K c B C):TkP K c A C:=⟨k.sw,h.o.trans k.o,fun i hi=>(k.q i hi).trans (h.q i hi),fun i hi g=>k.l i hi (h.l i hi g),fun i hi=>Nat.le_trans (k.p i hi) (h.p i hi),h.su.trans k.su⟩
theorem zad2 {b:Bnd} (h:BndP b) {c:Int} (c0:0<=c) (c1:c<(b.locals.length:Int)):(gi b.locals c>0->(zdc b c).1=b)/\((zdc b c).2≠2->gi (zdc b c).1.locals c>0):=by
 unfold zdc
 split
 ·rename_i hp
  exact ⟨fun _=>rfl,fun _=>hp⟩
 ·rename_i hn
  refine ⟨fun h=>absurd h hn,fun h2 => ?_⟩
  show gi (b.locals.set c.toNat (minI 20 b.pool)) c>0
  rw [za4 _ _ c0 c1 c0,if_pos rfl]
  have hm:=z3z h.p1
  by_cases e:minI 20 b.pool=0
  ·exact absurd (if_pos e) h2
  ·omega
theorem zad7 {K c:Int} {W:Wld} (sw:SW K W) (c0:0<=c) (c1:c<(W.cpus.length:Int)) {g:Int} (hu:zae W.groups g=true) (hd:(gi W.groups g).band.quota≠0->gi (gi W.groups g).band.dry c=false) :
  TkP K c W (tkG W c g).1/\((tkG W c g).2=true->((gi W.groups g).band.quota≠0->gi (gi (tkG W c g).1.groups g).band.locals c>0)/\∀i:Int,0<=i->((gi W.groups i).band.quota≠0->gi (gi W.groups i).band.dry c=false)->(gi W.groups i).band.quota≠0->gi (gi (tkG W c g).1.groups i).band.dry c=false)
   /\ ((tkG W c g).2=false->phiB (gi (tkG W c g).1.groups g).band c<phiB (gi W.groups g).band c):=by
 obtain ⟨u0,u1,hg⟩:=sw.a.u hu
 have hgl:=sw.a.gl
 unfold tkG
 split
 ·rename_i hq
  exact ⟨TkP.refl sw,fun _=>⟨fun h=>absurd hq h,fun i _ h h2=>h h2⟩,fun h=>by cases h⟩
 ·rename_i hq
  obtain ⟨hb,hbl,_⟩:=hg.band hq
  have hcl:c<((gi W.groups g).band.locals.length:Int):=by omega
  obtain ⟨hb2,hl2,hq2⟩:=zagi hb c0 hcl
  obtain ⟨p1,p2,p3⟩:=zaf0 c0 hcl hb.dl (hd hq)
  obtain ⟨l1,l2⟩:=zad2 hb c0 hcl
  have ha:=sw.a.setBd (g:=g) hu hq hb2 (by rw [hl2]; exact hbl) hq2
  have e:∀i:Int,0<=i->gi (setBd W g (zdc (gi W.groups g).band c).1).groups i=if g=i then { gi W.groups g with band:=(zdc (gi W.groups g).band c).1 } else gi W.groups i:=fun i hi=>zex u0 (by omega) hi
  have ob:=zq9 (W:=W) (b:=(zdc (gi W.groups g).band c).1) u0 (by omega)
  refine ⟨⟨(sw.sf.onlyB ob ha).w,ob,fun i hi => ?_,fun i hi h => ?_,fun i hi => ?_,zaha _ _ _⟩,fun h => ?_,fun h => ?_⟩
  ·show (gi (setBd W g _).groups i).band.quota=_
   rw [e i hi]; split
   ·rename_i e; subst e; exact hq2
   ·rfl
  ·show gi (gi (setBd W g _).groups i).band.locals c>0
   rw [e i hi]; split
   ·rename_i e; subst e
    show gi (zdc (gi W.groups g).band c).1.locals c>0
    rw [l1 h]; exact h
   ·exact h
  ·show phiB (gi (setBd W g _).groups i).band c<=_
   rw [e i hi]; split
   ·rename_i e; subst e; exact p1
   ·exact Nat.le_refl _
  ·have h:(zdc (gi W.groups g).band c).2≠2:=of_decide_eq_true h
   refine ⟨fun _ => ?_,fun i hi h1 h2 => ?_⟩
   ·show gi (gi (setBd W g _).groups g).band.locals c>0
    rw [e g u0,if_pos rfl]
    exact l2 h
   ·show gi (gi (setBd W g _).groups i).band.dry c=false
    rw [e i hi]; split
    ·rename_i e; subst e; exact p3 h
    ·exact h1 h2
  ·have h:(zdc (gi W.groups g).band c).2=2:=Decidable.byContradiction fun hn=>of_decide_eq_false h hn
   show phiB (gi (setBd W g _).groups g).band c<_
   rw [e g u0,if_pos rfl]
   exact p2 h
theorem zahc {K c:Int} (c0:0<=c):∀(l:List Int) {W:Wld},SW K W->c<(W.cpus.length:Int)->(∀g∈l,zae W.groups g=true)->(∀g∈l,(gi W.groups g).band.quota≠0->gi (gi W.groups g).band.dry c=false)->
  TkP K c W (tkL c l W).1/\((tkL c l W).2=true->∀g∈l,(gi W.groups g).band.quota≠0->gi (gi (tkL c l W).1.groups g).band.locals c>0)/\((tkL c l W).2=false->∃g∈l,phiB (gi (tkL c l W).1.groups g).band c<phiB (gi W.groups g).band c)
 | [],W,sw,_,_,_=>⟨TkP.refl sw,fun _ g hg=>(by cases hg),fun h=>by cases h⟩
 | g::l,W,sw,c1,hu,hd=>by
  obtain ⟨a,b,d⟩:=zad7 sw c0 c1 (hu g List.mem_cons_self) (hd g List.mem_cons_self)
  simp only [tkL]
  by_cases h2:(tkG W c g).2=true
  ·rw [if_pos h2]
   obtain ⟨b1,b2⟩:=b h2
   have h0:∀x∈l,0<=x:=fun x hx=>(zac.1 (hu x (List.mem_cons_of_mem _ hx))).1
   obtain ⟨a',b',d'⟩:=zahc c0 l (W:=(tkG W c g).1) a.sw (by rw [a.o.c]; exact c1) (fun x hx=>by rw [a.o.g.usd]; exact hu x (List.mem_cons_of_mem _ hx)) fun x hx hq=>by
    rw [a.q x (h0 x hx)] at hq
    exact b2 x (h0 x hx) (hd x (List.mem_cons_of_mem _ hx)) hq
   refine ⟨a.trans a',fun h x hx hq => ?_,fun h => ?_⟩
   ·rcases List.mem_cons.1 hx with e | e
    ·subst e
     exact a'.l x (zac.1 (hu x List.mem_cons_self)).1 (b1 hq)
    ·exact b' h x e (by rw [a.q x (h0 x e)]; exact hq)
   ·obtain ⟨x,hx,hlt⟩:=d' h
    exact ⟨x,List.mem_cons_of_mem _ hx,Nat.lt_of_lt_of_le hlt (a.p x (h0 x hx))⟩
  ·rw [if_neg h2]
   exact ⟨a,fun h=>(by cases h),fun _=>⟨g,List.mem_cons_self,d (by simpa using h2)⟩⟩
theorem z6a {W:Wld} {c:Int}:∀(l:List Int) (n:Int),1<=n->(∀g∈l,(gi W.groups g).band.quota>0->gi (gi W.groups g).band.locals c>0)->1<=mstL W c l n/\mstL W c l n<=n
 | [],n,h,_=>⟨h,Int.le_refl _⟩
 | g::l,n,h,hl=>by
  simp only [mstL]
  have hm:1<=mstG W c g n/\mstG W c g n<=n:=by
   unfold mstG
   split
   ·rename_i hq
    have:=hl g List.mem_cons_self hq
    unfold minI
    split <;> omega
   ·exact ⟨h,Int.le_refl _⟩
  have:=z6a l (mstG W c g n) hm.1 fun x hx=>hl x (List.mem_cons_of_mem _ hx)
  omega
theorem zln (n w:Int) (h0:0<=n) (h1:n<=100):0<=zbn n w/\zbn n w<=lagB:=by
 by_cases h:1<=w/\w<=20
 ·rw [zko h0 (by omega) h.1 h.2]
  have hs:=z64 h.1 h.2
  refine ⟨Int.mul_nonneg h0 (by omega),?_⟩
  calc n*stp w<=100*stp w:=Int.mul_le_mul_of_nonneg_right h1 (by omega)
   _<=100*232792560:=Int.mul_le_mul_of_nonneg_left hs.2 (by decide)
   _<=lagB:=by decide
 ·rw [zrs (by omega)]; exact ⟨Int.le_refl _,by decide⟩
theorem zabc {b:Bnd} (h:BndP b) {c n:Int} (c0:0<=c) (c1:c<(b.locals.length:Int)):BndP (zdd b ⟨2,c,n⟩).1/\(zdd b ⟨2,c,n⟩).1.locals.length=b.locals.length/\(zdd b ⟨2,c,n⟩).1.quota=b.quota/\phiB (zdd b ⟨2,c,n⟩).1 c=phiB b c:=by
 have e:zdd b ⟨2,c,n⟩=zfn b c n:=by
  unfold zdd
  rw [if_neg (show ¬(2:Int)=4 by decide),if_neg (by rw [za6.2 (by show 0<=c/\c<=_; omega)]; decide),if_neg (show ¬(2:Int)=1 by decide),if_pos rfl]
 rw [e]
 obtain ⟨a,b',d⟩:=zads h (n:=n) c0 c1
 exact ⟨a,b',d,zac9 c0 c1⟩
structure ChP (K S c n:Int) (W W':Wld):Prop where
 sw:SW K W'
 rb:RB S W'
 now:W'.now=W.now
 t:W'.tasks=W.tasks
 cp:W'.cpus=W.cpus
 g:zb6 W.groups W'.groups
 p:∀i:Int,0<=i->phiB (gi W'.groups i).band c=phiB (gi W.groups i).band c
theorem z8p {K S c n:Int} {W:Wld} (sw:SW K W) (rb:RB S W) (hS:S+n<=100000000000000000) (c0:0<=c) (c1:c<(W.cpus.length:Int)) {g:Int} (hu:zae W.groups g=true) (n0:0<=n) (n1:n<=100):ChP (K+lagB) (S+n) c n W (chG W c n g):=by
 obtain ⟨u0,u1,hg⟩:=sw.a.u hu
 have hgl:=sw.a.gl
 have hsl:=sw.a.sl hu
 have hsr:=sw.s g c hu c0 c1
 have hv:=zln n (shf W g c).w n0 n1
 have hlg:0<=lagB:=by decide
 have ea:∀{i:Int},0<=i->gi (chA W c n g).groups i=if g=i then { gi W.groups g with shelves:=(gi W.groups g).shelves.set c.toNat (chS W c n g) } else gi W.groups i:=fun hi=>zex u0 (by omega) hi
 have eg:∀i:Int,0<=i->gi (chG W c n g).groups i=if g=i then { gi W.groups g with shelves:=(gi W.groups g).shelves.set c.toNat (chS W c n g),sum:=(gi W.groups g).sum+n,band:=chB W c n g } else gi W.groups i:=fun i hi=>by
  have hl1:g<((setGr (chA W c n g) g (chU W c n g)).groups.length:Int):=by
   have:(setGr (chA W c n g) g (chU W c n g)).groups.length=W.groups.length:=by simp [setGr,chA,setSh]
   rw [this]; omega
  have hl2:g<((chA W c n g).groups.length:Int):=by
   have:(chA W c n g).groups.length=W.groups.length:=by simp [setGr,chA,setSh]
   rw [this]; omega
  unfold chG setBd
  rw [zex u0 hl1 hi,zex u0 hl2 hi,zex u0 hl2 u0,if_pos rfl,ea hi]
  split
  ·unfold chU
   rw [ea u0,if_pos rfl]
  ·rfl
 have es:∀i d:Int,0<=i->0<=d->shf (chG W c n g) i d=if g=i/\c=d then chS W c n g else shf W i d:=fun i d hi hd=>by
  rw [<-zhj (W:=W) (s:=chS W c n g) u0 (by omega) c0 (by omega) hi hd]
  unfold shf
  show gi (gi (chG W c n g).groups i).shelves d=gi (gi (chA W c n g).groups i).shelves d
  rw [eg i hi,ea hi]
  split <;> rfl
 have hT:zb6 W.groups (chG W c n g).groups:=by
  have t1:=zep (W:=W) (g:=g) (c:=c) (s:=chS W c n g) u0 (by omega)
  have t2:=zka (W:=chA W c n g) (g:=g) (x:=chU W c n g) u0 (by show g<((chA W c n g).groups.length:Int); rw [show (chA W c n g).groups.length=W.groups.length from t1.len]; omega) rfl rfl rfl
  have t3:=zka (W:=setGr (chA W c n g) g (chU W c n g)) (g:=g) (x:={ gi (setGr (chA W c n g) g (chU W c n g)).groups g with band:=chB W c n g }) u0 (by rw [t2.len,show (chA W c n g).groups.length=W.groups.length from t1.len]; omega) rfl rfl rfl
  exact (t1.trans t2).trans t3
 have hB:(chB W c n g).quota=(gi W.groups g).band.quota/\phiB (chB W c n g) c=phiB (gi W.groups g).band c/\((gi W.groups g).band.quota=0->chB W c n g=(gi W.groups g).band)/\((gi W.groups g).band.quota≠0->BndP (chB W c n g)/\(chB W c n g).locals.length=W.cpus.length):=by
  unfold chB
  split
  ·rename_i hq
   obtain ⟨hb,hbl,_⟩:=hg.band (by omega)
   obtain ⟨a,b,d,e⟩:=zabc hb (n:=n) c0 (by omega)
   exact ⟨d,e,fun h=>by omega,fun _=>⟨a,by rw [b]; exact hbl⟩⟩
  ·rename_i hq
   refine ⟨rfl,rfl,fun _=>rfl,fun h => ?_⟩
   obtain ⟨hb,hbl,_⟩:=hg.band h
   exact ⟨hb,hbl⟩
 have hrg:=rb.g g hu
 have hW:WA (chG W c n g):=by
  have hl:=sw.a
  refine ⟨hl.n1,hl.n2,hl.c1,hl.c2,hl.t,hT.tree hl.tree,hl.ups,fun k k0 k1 => ?_⟩
  unfold GrpP
  rw [eg k k0]
  split
  ·rename_i e
   subst e
   refine ⟨fun h => ?_,fun _=>⟨hg.w1,hg.w2,hg.m,hg.m0,ze9.2 ⟨by show 0<=(gi W.groups g).sum+n; omega,by show (gi W.groups g).sum+n<=_; omega⟩,by show (List.set _ _ _).length=_; rw [List.length_set]; exact hg.len,fun h=>⟨(hg.root h).1,(hg.root h).2.1,by show (chB W c n g).quota=0; rw [hB.1]; exact (hg.root h).2.2⟩,fun h => ?_,fun h => ?_⟩⟩
   ·have h:(gi W.groups g).used=false:=h
    rw [(zac.1 hu).2.2] at h; cases h
   ·have h:(chB W c n g).quota=0:=h
    rw [hB.1] at h
    have:=hg.none h
    exact ⟨by show zpa (chB W c n g)=true; rw [hB.2.2.1 h]; exact this.1,this.2⟩
   ·have h:(chB W c n g).quota≠0:=h
    rw [hB.1] at h
    obtain ⟨_,_,hp⟩:=hg.band h
    exact ⟨(hB.2.2.2 h).1,(hB.2.2.2 h).2,hp⟩
  ·have:=hl.grp k k0 k1
   exact ⟨this.1,fun hu=>by have:=this.2 hu; exact ⟨this.w1,this.w2,this.m,this.m0,this.s,this.len,this.root,this.none,this.band⟩⟩
 refine ⟨⟨hW,fun t a b m => ?_,fun t a b => ?_,fun k d u a b => ?_,sw.cu⟩,⟨rb.n,fun t a b => ?_,fun k d u a b => ?_,fun k u => ?_,fun d a b => ?_⟩,rfl,rfl,rfl,hT,fun i hi => ?_⟩
 ·rw [hT.usd]; exact sw.t t a b m
 ·have:=sw.tv t a b
  exact ⟨this.1,by show (tkk W t).v<=_; omega⟩
 ·rw [hT.usd] at u
  have hk:=(zac.1 u).1
  have h:=sw.s k d u a b
  rw [es k d hk a]
  split
  ·refine ⟨hsr.1,by show (shf W g c).floor<=_; omega,?_,?_,hsr.2.2.2.2.1,hsr.2.2.2.2.2⟩
   ·show 0<=if g≠0 then (shf W g c).v+zbn n (shf W g c).w else (shf W g c).v
    split <;> omega
   ·show (if g≠0 then (shf W g c).v+zbn n (shf W g c).w else (shf W g c).v)<=_
    split <;> omega
  ·exact ⟨h.1,by omega,h.2.2.1,by omega,h.2.2.2.2.1,h.2.2.2.2.2⟩
 ·have:=rb.t t a b
  exact ⟨this.1,by show (tkk W t).sum<=_; omega,this.2.2.1,by show (tkk W t).used<=_; omega⟩
 ·rw [hT.usd] at u
  have hk:=(zac.1 u).1
  have h:=rb.s k d u a b
  rw [es k d hk a]
  split
  ·have h2:=rb.s g c hu c0 c1
   exact ⟨by show 0<=(shf W g c).sum+n; omega,by show (shf W g c).sum+n<=_; omega⟩
  ·exact ⟨h.1,by omega⟩
 ·rw [hT.usd] at u
  have h:=rb.g k u
  rw [eg k (zac.1 u).1]
  split
  ·exact ⟨by show 0<=(gi W.groups g).sum+n; omega,by show (gi W.groups g).sum+n<=_; omega⟩
  ·exact ⟨h.1,by omega⟩
 ·have:=rb.c d a b
  exact ⟨this.1,by show (gi W.cpus d).busy<=_; omega,this.2.2.1,this.2.2.2.1,this.2.2.2.2⟩
 ·rw [eg i hi]
  split
  ·rename_i e; subst e; exact hB.2.1
  ·rfl
theorem RB.mono {S S':Int} {W:Wld} (h:RB S W) (k:S<=S'):RB S' W:=
 ⟨h.n,fun t a b=>by have:=h.t t a b; omega,fun k c u a b=>by have:=h.s k c u a b; omega,fun k u=>by have:=h.g k u; omega,fun c a b=>by have:=h.c c a b; omega⟩
theorem RB.setCp {S:Int} {W:Wld} (h:RB S W) {c:Int} (c0:0<=c) (c1:c<(W.cpus.length:Int)) {x:Cpu} (hx:0<=x.busy/\x.busy<=S/\0<=x.idle/\x.idle<=50000000000000000/\0<=x.ran/\x.ran<=149):RB S (setCp W c x):=by
 have hl:(W.cpus.set c.toNat x).length=W.cpus.length:=List.length_set
 refine ⟨h.n,h.t,fun k d u a b => ?_,h.g,fun d a b => ?_⟩
 ·have b:d<(((W.cpus.set c.toNat x).length:Nat):Int):=b
  rw [hl] at b
  exact h.s k d u a b
 ·have b:d<(((W.cpus.set c.toNat x).length:Nat):Int):=b
  rw [hl] at b
  show _<=(gi (W.cpus.set c.toNat x) d).busy/\(gi (W.cpus.set c.toNat x) d).busy<=_/\_<=(gi (W.cpus.set c.toNat x) d).idle/\(gi (W.cpus.set c.toNat x) d).idle<=_/\_<=(gi (W.cpus.set c.toNat x) d).ran/\(gi (W.cpus.set c.toNat x) d).ran<=_
  rw [za4 _ _ c0 c1 a]
  split
  ·exact hx
  ·exact h.c d a b
theorem RB.setTk {S:Int} {W:Wld} (h:RB S W) (hl:W.tasks.length=12) {t:Int} (t0:0<=t) (t1:t<12) {x:Tsk} (hx:0<=x.sum/\x.sum<=S/\0<=x.used/\x.used<=S):RB S (setTk W t x):=by
 refine ⟨h.n,fun u a b => ?_,h.s,h.g,h.c⟩
 show _<=(gi (W.tasks.set t.toNat x) u).sum/\(gi (W.tasks.set t.toNat x) u).sum<=_/\_<=(gi (W.tasks.set t.toNat x) u).used/\(gi (W.tasks.set t.toNat x) u).used<=_
 rw [za4 _ _ t0 (by omega) a]
 split
 ·exact hx
 ·exact h.t u a b
theorem ChP.trans {K S K' S' c n:Int} {A B C:Wld} (h:ChP K S c n A B) (k:ChP K' S' c n B C):ChP K' S' c n A C:=
 ⟨k.sw,k.rb,k.now.trans h.now,k.t.trans h.t,k.cp.trans h.cp,h.g.trans k.g,fun i hi=>(k.p i hi).trans (h.p i hi)⟩
theorem zagu {c n:Int} (c0:0<=c) (n0:0<=n) (n1:n<=100):∀(l:List Int) {K S:Int} {W:Wld},SW K W->RB S W->S+100*(l.length:Int)<=100000000000000000->c<(W.cpus.length:Int)->(∀g∈l,zae W.groups g=true)->
  ChP (K+lagB*(l.length:Int)) (S+100*(l.length:Int)) c n W (chL c n l W)
 | [],K,S,W,sw,rb,_,_,_=>⟨sw.mono (by simp),rb.mono (by simp),rfl,rfl,rfl,zb6.refl _,fun _ _=>rfl⟩
 | g::l,K,S,W,sw,rb,hS,c1,hu=>by
  rw [List.length_cons] at hS ⊢
  have h1:=z8p sw rb (by omega) c0 c1 (hu g List.mem_cons_self) n0 n1
  have h2:=zagu c0 n0 n1 l (W:=chG W c n g) h1.sw (h1.rb.mono (show S+n<=S+100 by omega)) (by omega) (by rw [h1.cp]; exact c1) fun x hx=>by rw [h1.g.usd]; exact hu x (List.mem_cons_of_mem _ hx)
  have h3:=h1.trans h2
  exact ⟨h3.sw.mono (by simp only [lagB]; omega),h3.rb.mono (by omega),h3.now,h3.t,h3.cp,h3.g,h3.p⟩
theorem zais {W W':Wld} {c:Int} (h:∀i:Int,0<=i->phiB (gi W'.groups i).band c=phiB (gi W.groups i).band c):phiW W' c=phiW W c:=
 Nat.le_antisymm (zsr (fun k _=>Nat.le_of_eq (h k (by omega))) 8 (Nat.le_refl _)) (zsr (fun k _=>Nat.le_of_eq (h k (by omega)).symm) 8 (Nat.le_refl _))
theorem zye {W:Wld} (ha:WA W) {t:Int} (hu:zae W.groups (tkk W t).group=true):(∀g∈pthR W t,zae W.groups g=true)/\(pthR W t).length<=4:=by
 refine ⟨fun g hg => ?_,?_⟩
 ·rcases List.mem_append.1 hg with h | h
  ·exact (zen ha.tree _ hu g h).1
  ·rw [List.mem_singleton.1 h]; exact ha.root
 ·have:=z4p W.groups 3 (tkk W t).group
  unfold pthR
  rw [List.length_append]
  show (zl2 3 W.groups (tkk W t).group).length+1<=4
  omega
theorem z4q {W W':Wld} (ht:W'.tasks=W.tasks) (hT:zb6 W.groups W'.groups) (t:Int):pthR W' t=pthR W t:=by
 unfold pthR
 rw [zd7 ht,zi3 hT]
def runK (f:Nat):Int:=zbr+(400 - (f:Int))*346860914400
def runS (f:Nat):Int:=zbr+(400 - (f:Int))*500
structure RunI (f:Nat) (c:Int) (W0 W:Wld) (left:Int):Prop where
 sw:SW (runK f) W
 rb:RB (runS f) W
 dm:Dm W c
 c0:0<=c
 c1:c<(W.cpus.length:Int)
 up:(gi W.cpus c).up=true
 now:W.now=W0.now
 len:W.cpus.length=W0.cpus.length
 l0:0<=left
 l1:left<=100
 f1:left+phiW W c<(f:Int)
 f2:f<=400
theorem zi4 {f:Nat} (h:f<=400):zbr<=runK f/\runK f<=50200000000000000:=by
 unfold runK zbr; omega
theorem zyf {f:Nat} (h:f<=400):zbr<=runS f/\runS f<=50000000000200000:=by
 unfold runS zbr; omega
theorem zaaw {W:Wld} (wp:WldP W) (r:zu3 W) {c n:Int} (c0:0<=c) (c1:c<(W.cpus.length:Int)) (up:(gi W.cpus c).up=true) (n0:0<=n) (n1:n<=100):RunI 400 c W W n:=by
 have hp:=zait W c
 exact ⟨(zai4 wp r).mono (by unfold runK; omega),(zak4 wp r).mono (by unfold runS; omega),zakt wp c0 c1,c0,c1,up,rfl,rfl,n0,n1,by omega,Nat.le_refl _⟩
theorem zpy {K S:Int} {c t:Int} {W:Wld} (sw:SW K W) (rb:RB S W) (c0:0<=c) (c1:c<(W.cpus.length:Int)) (up:(gi W.cpus c).up=true) (t0:0<=t) (t1:t<12) :
  SW K (zbu W c t)/\RB S (zbu W c t)/\(gi (zbu W c t).cpus c).up=true/\(gi (zbu W c t).cpus c).ran<50/\(gi (zbu W c t).cpus c).cur=t/\(zbu W c t).cpus.length=W.cpus.length:=by
 have e:gi (zbu W c t).cpus c=zdb W c t:=(za4 _ _ c0 c1 c0).trans (if_pos rfl)
 have hl:(zbu W c t).cpus.length=W.cpus.length:=List.length_set
 have hup:(zdb W c t).up=true:=by unfold zdb; split <;> exact up
 have hr:=rb.c c c0 c1
 have hcu:=sw.cu c c0 c1
 refine ⟨sw.setCp c0 c1 (z68 (c:=c) (by rw [List.length_set]; exact sw.a.c2) c0 (by rw [List.length_set]; exact c1) (by rw [show gi (W.cpus.set c.toNat (zdb W c t)) c=_ from e]; exact hup)) ?_ ?_,rb.setCp c0 c1 ?_,by rw [e]; exact hup,?_,?_,hl⟩
 ·unfold zdb; split
  ·show -1<=t; omega
  ·exact hcu.1
 ·unfold zdb; split
  ·exact t1
  ·exact hcu.2
 ·unfold zdb; split
  ·exact ⟨hr.1,hr.2.1,hr.2.2.1,hr.2.2.2.1,by show (0:Int)<=0; decide,by show (0:Int)<=149; decide⟩
  ·exact hr
 ·rw [e]
  unfold zdb; split
  ·show (0:Int)<50; decide
  ·omega
 ·rw [e]
  unfold zdb; split
  ·rfl
  ·rename_i h
   exact Decidable.byContradiction fun hn=>h (.inl fun e=>hn e.symm)
structure RndP (f:Nat) (c:Int) (W0 W:Wld) (left:Int):Prop where
 line:zaei W (zaf W c) c
 us:zae W.groups (tkk W (zaf W c)).group=true
 pin:∀g∈pthR W (zaf W c),zae W.groups g=true
 len:(pthR W (zaf W c)).length<=4
 s1:SW (runK (f+1)) (zbu W c (zaf W c))
 r1:RB (runS (f+1)) (zbu W c (zaf W c))
 ran:(gi (zbu W c (zaf W c)).cpus c).ran<50
 tk:TkP (runK (f+1)) c (zbu W c (zaf W c)) (tkW W c).1
 dr:∀g∈pthR W (zaf W c),(gi (zbu W c (zaf W c)).groups g).band.quota≠0->gi (gi (zbu W c (zaf W c)).groups g).band.dry c=false
 m:(tkW W c).2=true->1<=rndM W c left/\rndM W c left<=left
 ch:(tkW W c).2=true->SW (runK (f+1)+5*lagB) (chW (tkW W c).1 c (zaf W c) (rndM W c left))/\RB (runS (f+1)+500) (chW (tkW W c).1 c (zaf W c) (rndM W c left))
 nx:RunI f c W0 (rndW W c left).1 (rndW W c left).2
 gt:zb6 W.groups (rndW W c left).1.groups
theorem zwc {K S c t n:Int} {W:Wld} (sw:SW K W) (rb:RB S W) (hS:S+500<=100000000000000000) (c0:0<=c) (c1:c<(W.cpus.length:Int)) (up:(gi W.cpus c).up=true) (ran:(gi W.cpus c).ran<50) (t0:0<=t) (t1:t<12) (hu:zae W.groups (tkk W t).group=true) (n0:0<=n) (n1:n<=100) :
  SW (K+5*lagB) (chW W c t n)/\RB (S+500) (chW W c t n)/\phiW (chW W c t n) c=phiW W c/\(chW W c t n).now=W.now/\(chW W c t n).cpus.length=W.cpus.length/\(gi (chW W c t n).cpus c).up=true/\SW (K+lagB) (setTk W t (chT W t n))/\RB (S+100) (setTk W t (chT W t n))/\ChP (K+5*lagB) (S+500) c n (setTk W t (chT W t n)) (chL c n (pthR W t) (setTk W t (chT W t n))):=by
 have hv:=zln n (zai (tkk W t).nice) n0 n1
 have hlg:0<=lagB:=by decide
 have htv:=sw.tv t t0 t1
 have htr:=rb.t t t0 t1
 have hcr:=rb.c c c0 c1
 obtain ⟨hp1,hp2⟩:=zye sw.a hu
 have s1:SW (K+lagB) (setTk W t (chT W t n)):=(sw.mono (K':=K+lagB) (by omega)).setTk t0 t1 (x:=chT W t n) (fun h=>sw.t t t0 t1 h) (by show 0<=(tkk W t).v+zbn n (zai (tkk W t).nice); omega) (by show (tkk W t).v+zbn n (zai (tkk W t).nice)<=_; omega)
 have r1:RB (S+100) (setTk W t (chT W t n)):=(rb.mono (S':=S+100) (by omega)).setTk sw.a.t t0 t1 (x:=chT W t n) ⟨by show 0<=(tkk W t).sum+n; omega,by show (tkk W t).sum+n<=_; omega,by show 0<=(tkk W t).used+n; omega,by show (tkk W t).used+n<=_; omega⟩
 have h0:=zagu c0 n0 n1 (pthR W t) s1 r1 (by omega) c1 hp1
 have h2:ChP (K+5*lagB) (S+500) c n (setTk W t (chT W t n)) (chL c n (pthR W t) (setTk W t (chT W t n))):=⟨h0.sw.mono (by simp only [lagB]; omega),h0.rb.mono (by omega),h0.now,h0.t,h0.cp,h0.g,h0.p⟩
 have hcp:(chL c n (pthR W t) (setTk W t (chT W t n))).cpus=W.cpus:=h2.cp
 have e:gi (chW W c t n).cpus c=chC W c n:=by
  show gi ((chL c n (pthR W t) (setTk W t (chT W t n))).cpus.set c.toNat (chC W c n)) c=_
  rw [hcp]
  exact (za4 _ _ c0 c1 c0).trans (if_pos rfl)
 have hlen:(chW W c t n).cpus.length=W.cpus.length:=by
  show ((chL c n (pthR W t) (setTk W t (chT W t n))).cpus.set c.toNat (chC W c n)).length=_
  rw [List.length_set,hcp]
 have hcu:=sw.cu c c0 c1
 refine ⟨h2.sw.setCp c0 (by rw [hcp]; exact c1) (x:=chC W c n) (z68 (c:=c) ?_ c0 ?_ ?_) hcu.1 hcu.2,h2.rb.setCp c0 (by rw [hcp]; exact c1) (x:=chC W c n) ⟨by show 0<=(gi W.cpus c).busy+n; omega,by show (gi W.cpus c).busy+n<=_; omega,hcr.2.2.1,hcr.2.2.2.1,by show 0<=(gi W.cpus c).ran+n; omega,by show (gi W.cpus c).ran+n<=149; omega⟩,zais (W':=chW W c t n) h2.p,h2.now,hlen,by rw [e]; exact up,s1,r1,h2⟩
 ·rw [List.length_set,hcp]; exact sw.a.c2
 ·rw [List.length_set,hcp]; exact c1
 ·rw [show gi ((chL c n (pthR W t) (setTk W t (chT W t n))).cpus.set c.toNat (chC W c n)) c=_ from e]; exact up
theorem z1k {K S c:Int} {W:Wld} (sw:SW K W) (rb:RB S W) (hK:0<=K) (c0:0<=c) (c1:c<(W.cpus.length:Int)) (up:(gi W.cpus c).up=true) :
  SW (K+stlB) (zah W)/\RB S (zah W)/\Dm (zah W) c/\(gi (zah W).cpus c).up=true/\(zah W).now=W.now/\(zah W).cpus.length=W.cpus.length/\phiW (zah W) c<=phiW W c:=by
 obtain ⟨s,f⟩:=zgq sw hK
 have su:=z1q W
 exact ⟨s,rb.sum su f.g f.c,zadp sw hK c0 c1,by rw [su.u]; exact up,f.n,f.c,zaao sw hK c⟩
theorem zrk {f:Nat} {c left:Int} {W0 W:Wld} (h:RunI (f+1) c W0 W left) (hl:0<left) (hp:¬zaf W c<0):RndP f c W0 W left:=by
 have hf:=h.f2
 have hh0:(0:Int)<=zbr:=by decide
 have hK:=zi4 (f:=f+1) hf
 have hS:=zyf (f:=f+1) hf
 have c0:=h.c0
 have c1:=h.c1
 have eK:runK f=runK (f+1)+346860914400:=by unfold runK; omega
 have eS:runS f=runS (f+1)+500:=by unfold runS; omega
 have hline:=zada h.sw.a (h.sw.cu c c0 c1).2 h.dm.cu hp
 have hM:rndM W c left=mstL (tkW W c).1 c (pthR W (zaf W c)) left:=rfl
 have hT:tkW W c=tkL c (pthR W (zaf W c)) (zbu W c (zaf W c)):=rfl
 have hR:rndW W c left=if (tkW W c).2=true then (zah (chW (tkW W c).1 c (zaf W c) (rndM W c left)),left - rndM W c left) else (zah (endW (tkW W c).1 c),left):=rfl
 have t0:=hline.t0
 have t1:=hline.t1
 obtain ⟨us,_,_⟩:=h.sw.t _ t0 t1 (by rw [hline.st]; decide)
 obtain ⟨pin,plen⟩:=zye h.sw.a us
 obtain ⟨s1,r1,u1,ran1,cu1,l1⟩:=zpy h.sw h.rb c0 c1 h.up t0 t1
 have hdr:∀g∈pthR W (zaf W c),(gi (zbu W c (zaf W c)).groups g).band.quota≠0->gi (gi (zbu W c (zaf W c)).groups g).band.dry c=false:=fun g hg hq=>by
  have hq:(gi W.groups g).band.quota≠0:=hq
  show gi (gi W.groups g).band.dry c=false
  have hug:=pin g hg
  obtain ⟨u0,u8,hgu⟩:=h.sw.a.u hug
  rcases List.mem_append.1 hg with hg | hg
  ·have hon:=hline.on g hg
   have hz:=(zen h.sw.a.tree _ us g hg).2
   have:=h.dm.on g hug hz
   unfold onEq at this
   rw [hon] at this
   have hd:dryD W g c=false:=by
    cases hd:dryD W g c with
    | false=>rfl
    | true=>rw [hd] at this; simp at this
   unfold dryD at hd
   have:=(hgu.band hq).1.q1
   rw [decide_eq_true (by omega),Bool.true_and] at hd
   exact hd
  ·rw [List.mem_singleton.1 hg] at hq hgu
   exact absurd (hgu.root rfl).2.2 hq
 obtain ⟨tk,tl,tf⟩:=zahc c0 (pthR W (zaf W c)) s1 (by rw [l1]; exact c1) pin hdr
 rw [<-hT] at tk tl tf
 have eT:(tkW W c).1.tasks=W.tasks:=tk.o.t
 have eC:(tkW W c).1.cpus=(zbu W c (zaf W c)).cpus:=tk.o.c
 have eG:zb6 W.groups (tkW W c).1.groups:=tk.o.g
 have lT:(tkW W c).1.cpus.length=W.cpus.length:=by rw [eC,l1]
 have rT:RB (runS (f+1)) (tkW W c).1:=r1.sum tk.su tk.o.g (by rw [eC])
 have uT:zae (tkW W c).1.groups (tkk (tkW W c).1 (zaf W c)).group=true:=by rw [eG.usd,zd7 eT]; exact us
 have pT:pthR (tkW W c).1 (zaf W c)=pthR W (zaf W c):=z4q eT eG _
 have upT:(gi (tkW W c).1.cpus c).up=true:=by rw [eC]; exact u1
 have ranT:(gi (tkW W c).1.cpus c).ran<50:=by rw [eC]; exact ran1
 have phT:phiW (tkW W c).1 c<=phiW W c:=zsr (fun k _=>tk.p (k:Int) (by omega)) 8 (Nat.le_refl _)
 have hm:(tkW W c).2=true->1<=rndM W c left/\rndM W c left<=left:=fun ht=>by
  refine z6a _ left (by omega) fun g hg hq => ?_
  have g0:=(zac.1 (pin g hg)).1
  rw [tk.q g g0] at hq
  exact tl ht g hg (by omega)
 have hl1:=h.l1
 have hch:(tkW W c).2=true->_:=fun ht=>zwc (t:=zaf W c) (n:=rndM W c left) tk.sw rT (by omega) c0 (by rw [lT]; exact c1) upT ranT t0 t1 uT (by have:=hm ht; omega) (by have:=hm ht; omega)
 refine ⟨hline,us,pin,plen,s1,r1,ran1,tk,hdr,hm,fun ht=>⟨(hch ht).1,(hch ht).2.1⟩,?_,?_⟩
 rotate_left
 ·rw [hR]
  by_cases ht:(tkW W c).2=true
  ·rw [if_pos ht]
   have a:=(hch ht).1
   have g1:zb6 (tkW W c).1.groups (chW (tkW W c).1 c (zaf W c) (rndM W c left)).groups:=(hch ht).2.2.2.2.2.2.2.2.g
   exact (eG.trans g1).trans (zgq a (by simp only [lagB]; omega)).2.g
  ·rw [if_neg ht]
   have g1:zb6 (tkW W c).1.groups (endW (tkW W c).1 c).groups:=zb6.refl _
   exact (eG.trans g1).trans (zgq (tk.sw.endW c0 (by rw [lT]; exact c1)) (by omega)).2.g
 rw [hR]
 have hf1:=h.f1
 by_cases ht:(tkW W c).2=true
 ·rw [if_pos ht]
  obtain ⟨a,b,d,e1,e2,e3,_⟩:=hch ht
  obtain ⟨b1,b2,b3,b4,b5,b6,b7⟩:=z1k a b (by simp only [lagB]; omega) c0 (by rw [e2,lT]; exact c1) e3
  have hm:=hm ht
  exact ⟨b1.mono (by simp only [lagB,stlB]; omega),b2.mono (by omega),b3,c0,by rw [b6,e2,lT]; exact c1,b4,by rw [b5,e1,tk.o.n]; exact h.now,by rw [b6,e2,lT]; exact h.len,by show 0<=left - rndM W c left; omega,by show left - rndM W c left<=100; omega,by
   rw [d] at b7
   show left - rndM W c left+((phiW (zah (chW (tkW W c).1 c (zaf W c) (rndM W c left))) c:Nat):Int)<_
   omega,by omega⟩
 ·rw [if_neg ht]
  have ht:(tkW W c).2=false:=by simpa using ht
  obtain ⟨g,hg,hlt⟩:=tf ht
  have g0:=zac.1 (pin g hg)
  have hgl:=h.sw.a.gl
  have hp1:phiW (tkW W c).1 c<phiW W c:=by
   refine zac8 (fun k _=>tk.p (k:Int) (by omega)) (j:=g.toNat) ?_ 8 (by omega) (Nat.le_refl _)
   rw [show ((g.toNat:Nat):Int)=g by omega]
   exact hlt
  have ce:c<((tkW W c).1.cpus.length:Int):=by rw [lT]; exact c1
  have sE:=tk.sw.endW c0 ce
  have eE:gi (endW (tkW W c).1 c).cpus c=endC (gi (tkW W c).1.cpus c):=(za4 _ _ c0 ce c0).trans (if_pos rfl)
  have lE:(endW (tkW W c).1 c).cpus.length=(tkW W c).1.cpus.length:=List.length_set
  obtain ⟨b1,b2,b3,b4,b5,b6,b7⟩:=z1k sE (rT.sum (z4t _ c) (zb6.refl _) lE) (by omega) c0 (by rw [lE]; exact ce) (by rw [eE]; exact upT)
  exact ⟨b1.mono (by simp only [lagB,stlB]; omega),b2.mono (by omega),b3,c0,by rw [b6,lE]; exact ce,b4,by rw [b5]; show (tkW W c).1.now=_; rw [tk.o.n]; exact h.now,by rw [b6,lE,lT]; exact h.len,h.l0,h.l1,by
   have b7:phiW (zah (endW (tkW W c).1 c)) c<=phiW (tkW W c).1 c:=b7
   show left+((phiW (zah (endW (tkW W c).1 c)) c:Nat):Int)<_
   omega,by omega⟩
theorem zags {b:Bnd} {c:Int} (c0:0<=c) (c1:c<(b.locals.length:Int)):zdd b ⟨1,c,0⟩=zdc b c:=by
 unfold zdd
 rw [if_neg (show ¬(1:Int)=4 by decide),if_neg (by rw [za6.2 (by show 0<=c/\c<=_; omega)]; decide),if_pos rfl]
theorem z7u {α:Type} [Inhabited α] {l:List α} {k:Nat} (h:k<l.length):l.drop k=gi l (k:Int)::l.drop (k+1):=by
 rw [List.drop_eq_getElem_cons h]
 congr 1
 unfold gi
 rw [Int.toNat_natCast,List.getD_eq_getElem?_getD,List.getElem?_eq_getElem h]; rfl
theorem z7v {α:Type} [Inhabited α] {l:List α} {k:Nat} (h:k<l.length):gi l (k:Int)∈l:=by
 have:=List.getElem_mem h
 unfold gi
 rw [Int.toNat_natCast,List.getD_eq_getElem?_getD,List.getElem?_eq_getElem h]; exact this
theorem zrp {c g:Int} {l:List Int} {W:Wld}:tkL c (g::l) W=if (tkG W c g).2=true then tkL c l (tkG W c g).1 else ((tkG W c g).1,false):=rfl
section
variable {base:Nat} {W:Wld} {m:MW} {w:World}
theorem zl3 {pb n:Nat} {l:List Int} {pO:Option Addr} {pC:Nat} {w2:World} {bs:List Nat} {V:Wld} {m2:MW} (hp:Own encI 1 zao pb w pO pC l) (hpn:∀x∈za9 pO,x∉zbc n m) (hM:Mv n base bs w m w2 V m2):Own encI 1 zao pb w2 pO pC l/\RdI bs w2 pO l:=by
 have h:=hp.ext hM.ext hpn
 exact ⟨h,h.rd zgj.len fun x hx hm=>by
  have:=(hp.lt x hx).2
  have:=hM.new x hm
  omega⟩
theorem Mv.put {n:Nat} {bs:List Nat} {w0 w w':World} {m0:MW} {b:Nat} (h:Mv n base bs w0 m0 w W m) (hx:ExtX bs w w') (hb:w.heap.size<=b):Mv n base (bs++[b]) w0 m0 w' W m:=(h.add hb).step (hx.mono fun x hm=>List.mem_append_left _ hm)
set_option maxHeartbeats 1000000 in
theorem z3u {K c:Int} {l:List Int} {pO:Option Addr} {pC pb:Nat} (h:MWd 8 base w W m) (sw:SW K W) (hbase:base<=w.heap.size) (hp:Own encI 1 zao pb w pO pC l) (hpn:∀x∈za9 pO,x∉zbc 8 m) (hl4:l.length<=4) (c0:0<=c) (c1:c<(W.cpus.length:Int)) (hu:∀g∈l,zae W.groups g=true) (hd:∀g∈l,(gi W.groups g).band.quota≠0->gi (gi W.groups g).band.dry c=false) :
  Calls Tryz.prog zk2 #[.agg (encW W m).toArray,.slice pO l.length pC,.int .i64 c] w fun e w'=>∃m',e = .returned (.tuple #[.agg (encW W m).toArray,.bool (tkL c l W).2])/\Mv 8 base [] w m w' (tkL c l W).1 m':=by
 refine (z23 W.now m.cO W.cpus.length m.cC m.tO W.tasks.length m.tC m.gO W.groups.length m.gC pO l.length pC c (R:=fun v w'=>∃m',v = .tuple #[.agg (encW W m).toArray,.bool (tkL c l W).2]/\Mv 8 base [] w m w' (tkL c l W).1 m') ?_).mono fun e w' ⟨v,he,m',hv,h3⟩=>⟨m',by rw [he,hv],h3⟩
 intro x hx x1 hx1
 have hgl:=sw.a.gl
 have hnew:=zl9 hx hx1
 refine ⟨fun vs w2=>∃(k:Nat) (r:List Value) (V:Wld) (m2:MW),vs = .int .i64 (k:Int)::r/\k<=l.length/\Mv 8 base [x,x1] w m w2 V m2/\tkL c l W=tkL c (l.drop k) V/\SW K V/\zkp W V/\∀g∈l.drop k,(gi V.groups g).band.quota≠0->gi (gi V.groups g).band.dry c=false,
  zd5 l.length 0,fun wr hx3 _=>⟨0,_,W,m,rfl,Nat.zero_le _,(Mv.two h hx hx1).call0 hx3,rfl,sw,zkp.refl _,hd⟩,?_⟩
 rintro i1 ll l1O l1L l1C l2O l2L l2C l3O l3L l3C w2 hs2 ⟨k,r,V,m2,he,hk,hM2,hE,swV,oV,hdV⟩
 simp only [List.cons.injEq,Value.int.injEq,true_and] at he
 obtain ⟨rfl,_⟩:=he
 have hmg:m2.gO=m.gO:=by rw [hM2.hd]
 have hr:=hM2.rd
 have hglV:V.groups.length=8:=swV.a.gl
 obtain ⟨_,hpr⟩:=zl3 hp hpn hM2
 refine ⟨fun hlt => ?_,fun hge => ?_⟩
 ·have hlt':=of_decide_eq_true hlt
  have hlt:k<l.length:=by omega
  have hdr:=z7u hlt
  have hgu:=hu _ (z7v hlt)
  rw [hdr] at hE hdV
  have hug:zae V.groups (gi l (k:Int))=true:=by rw [oV.g.usd]; exact hgu
  have hpc:=hpr (k:Int) (by omega) (by omega)
  have hpix:=hpr.ix zf2 (i:=(k:Int)) (by omega) (by omega)
  have hdk:=hdV _ List.mem_cons_self
  generalize hgk:gi l (k:Int)=g at hE hdV hug hpc hdk hgu hdr
  obtain ⟨u0,u1,hgg⟩:=swV.a.u hug
  have hlt2:g<(V.groups.length:Int):=by omega
  have hix:Ix m.gO W.groups.length g:=by have:=hr.g.ix (i:=g) u0 hlt2; rwa [hglV,<-hgl,hmg] at this
  have hrow:=hr.g.cells g u0 hlt2
  rw [hmg] at hrow
  refine ⟨hpix,g,hpc,hix,_,_,_,_,_,_,_,_,_,_,_,_,_,_,_,_,_,_,_,_,hrow,fun b4 hb4=>⟨hrow,hpc,rfl,fun g1 => ?_,fun g1 => ?_⟩⟩
  ·have g1:(gi V.groups g).band.quota=0:=by simpa using g1
   have hT:tkG V c g=(V,true):=by unfold tkG; rw [if_pos g1]
   rw [zrp,hT,if_pos rfl] at hE
   exact ⟨⟨by omega,by omega⟩,fun wr hx3 _=>⟨⟨k+1,_,V,m2,by simp; rfl,by omega,hM2.step hx3,hE,swV,oV,fun y hy=>hdV y (List.mem_cons_of_mem _ hy)⟩,zb0 (k:=k) rfl rfl hlt⟩⟩
  ·have g1:(gi V.groups g).band.quota≠0:=by simpa using g1
   obtain ⟨hb,hbl,_⟩:=hgg.band g1
   have hclV:c<(V.cpus.length:Int):=by rw [oV.c]; exact c1
   have hcl:c<((gi V.groups g).band.locals.length:Int):=by omega
   intro wr3 hx3 hs4
   have hM4:=hM2.put hx3 hb4
   have hr4:=hM4.rd0
   refine Calls.mono (zjd (op:=⟨1,c,0⟩) hb (hr4.g.locals g u0 hlt2) (hr4.g.dry g u0 hlt2)) ?_
   rintro e wv2 ⟨p,he,hO,hy⟩
   rw [zags c0 hcl] at he hO
   have hM5:=hM4.call0 hy
   have hbs:base<=wr3.heap.size:=by have:=hM4.ext.size; omega
   have hOb:∀y∈zfc p,wr3.heap.size<=y:=fun y hy=>(hO.lt y hy).1
   have hput:=hM5.own.putB (i:=g) u0 (by omega) (hO.mono hbs) (fun y hy hm=>by have:=hOb y hy; have:=(hM4.own.lt y hm).2; omega)
   have hwr:=wrG hM5.own hM5.nb (i:=g) u0 (by omega) (j:=8) (k:=5) (by decide)
   have hsz:=hM4.ext.size
   have hM6:=hM5.swap hput subG rfl fun y hy=>by
    rcases znx y hy with h1 | h1
    ·exact .inl h1
    ·rcases znp y h1 with h2 | h2
     ·have:=hOb y h2
      exact .inr ⟨by omega,fun hm=>by have:=hs4 y hm; omega⟩
     ·exact .inl (zi7 (by omega) h2)
   rw [hmg] at hwr
   have hgO:m2.gO=m.gO:=hmg
   rw [hgO] at hM6
   obtain ⟨_,hpr5⟩:=zl3 hp hpn hM5
   have hpc5:=hpr5 (k:Int) (by omega) (by omega)
   rw [hgk] at hpc5
   have hTk:tkG V c g=(setBd V g (zdc (gi V.groups g).band c).1,decide ((zdc (gi V.groups g).band c).2≠2)):=by unfold tkG; rw [if_neg g1]
   obtain ⟨tk,t2,_⟩:=zad7 swV c0 hclV hug hdk
   rw [zrp] at hE
   refine ⟨_,_,_,_,_,_,_,_,_,_,he,zaz hy hs4,fun b5 hb5=>⟨hpix,g,hpc5,hix,hwr,fun g2 wr6 hx6 => ?_,fun g2=>⟨⟨by omega,by omega⟩,fun wr6 hx6 hs6=>⟨⟨k+1,_,setBd V g (zdc (gi V.groups g).band c).1,_,by simp; rfl,by omega,(hM6.step hx6).sub' (by simp),?_,?_,?_,fun y hy hq => ?_⟩,zb0 (k:=k) rfl rfl hlt⟩⟩⟩⟩
   ·have g2:(zdc (gi V.groups g).band c).2=2:=by simpa using g2
    have:(tkG V c g).2=false:=by rw [hTk]; simp [g2]
    rw [hE,this,if_neg (by decide),hTk]
    exact ⟨_,rfl,(hM6.step hx6).close⟩
   all_goals
    have g2:(zdc (gi V.groups g).band c).2≠2:=by simpa using g2
    have ht2:(tkG V c g).2=true:=by rw [hTk]; simp [g2]
    have hT1:(tkG V c g).1=setBd V g (zdc (gi V.groups g).band c).1:=by rw [hTk]
   ·rw [hE,if_pos ht2,hT1]
   ·rw [<-hT1]; exact tk.sw
   ·rw [<-hT1]; exact oV.trans tk.o
   ·have y0:=(zac.1 (hu y (List.mem_of_mem_drop hy))).1
    rw [<-hT1] at hq ⊢
    rw [tk.q y y0] at hq
    exact (t2 ht2).2 y y0 (hdV y (List.mem_cons_of_mem _ hy)) hq
 ·have hge:=of_decide_eq_false hge
  have hk2:k=l.length:=by omega
  subst hk2
  rw [List.drop_length] at hE
  rw [hE]
  exact fun w3 hx3=>⟨m2,rfl,(hM2.step hx3).close⟩
theorem z3r {c n:Int} {l:List Int} {pO:Option Addr} {pC:Nat} {bs:List Nat} (h:RdW bs w W m) (ha:WA W) (hp:RdI bs w pO l) (hl4:l.length<=4) (c0:0<=c) (c1:c<(W.cpus.length:Int)) (hu:∀g∈l,zae W.groups g=true) :
  zad bs Tryz.prog zk0 #[.agg (encW W m).toArray,.slice pO l.length pC,.int .i64 c,.int .i64 n] w (.int .i64 (mstL W c l n)):=
 z4m W.now m.cO W.cpus.length m.cC m.tO W.tasks.length m.tC m.gO W.groups.length m.gC pO l.length pC c n fun wr hx=>by
  have h:=(h.ext hx).less (cs:=[]) (by simp)
  have hp:=(hp.ext hx).less (cs:=[]) (by simp)
  intro _ _
  refine zz8 l.length 0 rfl (fun y k=>k<=l.length/\mstL W c l n=mstL W c (l.drop k) y) ⟨Nat.zero_le _,rfl⟩ fun y k ⟨hk,hy⟩=>⟨fun hlt => ?_,fun hge => ?_⟩
  ·have hlt':=of_decide_eq_true hlt
   have hlt:k<l.length:=by omega
   have hdr:=z7u hlt
   have hgu:=hu _ (z7v hlt)
   rw [hdr] at hy
   have hpc:=hp (k:Int) (by omega) (by omega)
   generalize gi l (k:Int)=g at hy hpc hgu
   obtain ⟨u0,u1,hgg⟩:=ha.u hgu
   have hgl:=ha.gl
   have hyy:mstL W c (g::l.drop (k+1)) y=mstL W c (l.drop (k+1)) (mstG W c g y):=rfl
   rw [hyy] at hy
   refine ⟨hp.ix zf2 (i:=(k:Int)) (by omega) (by omega),g,hpc,h.g.ix u0 (by omega),_,_,_,_,_,_,_,_,_,h.g.band u0 (by omega),fun b1 hb1=>⟨h.g.band u0 (by omega),hpc,rfl,fun g1 => ?_,fun g1 => ?_⟩⟩
   ·have g1:=of_decide_eq_true g1
    obtain ⟨hb,hbl,_⟩:=hgg.band (by omega)
    have hLo:=h.g.locals g u0 (by omega)
    refine ⟨hLo.ix zf2 c0 (by omega),_,hLo c c0 (by omega),_,zne,⟨by omega,by omega⟩,zb1 (by omega) ⟨by omega,?_⟩⟩
    rw [hy]; unfold mstG; rw [if_pos g1]
   ·have g1:=of_decide_eq_false g1
    refine ⟨⟨by omega,by omega⟩,zb1 (by omega) ⟨by omega,?_⟩⟩
    rw [hy]; unfold mstG; rw [if_neg g1]
  ·have hge:=of_decide_eq_false hge
   have:k=l.length:=by omega
   subst this
   rw [List.drop_length] at hy
   show Value.int .i64 y=_
   rw [hy]; rfl
end
theorem z2x {c n g:Int} {l:List Int} {W:Wld}:chL c n (g::l) W=chL c n l (chG W c n g):=rfl
theorem zpk (W:Wld) (c n g:Int):(chA W c n g).groups.length=W.groups.length:=by simp [chA,setSh,setGr]
theorem z5e {W:Wld} {c n g:Int} (u0:0<=g) (u1:g<(W.groups.length:Int)):gi (chA W c n g).groups g={ gi W.groups g with shelves:=(gi W.groups g).shelves.set c.toNat (chS W c n g) }:=by
 unfold chA setSh
 rw [zex u0 u1 u0,if_pos rfl]
theorem z8q {W:Wld} {c n g:Int} (u0:0<=g) (u1:g<(W.groups.length:Int)):gi (setGr (chA W c n g) g (chU W c n g)).groups g=chU W c n g:=by
 rw [zex u0 (by rw [zpk]; exact u1) u0,if_pos rfl]
theorem zuo {W:Wld} {c n g:Int} (u0:0<=g) (u1:g<(W.groups.length:Int)):(chU W c n g).band=(gi W.groups g).band:=by
 unfold chU
 rw [z5e u0 u1]
theorem z2w {W:Wld} {c n g:Int} (u0:0<=g) (u1:g<(W.groups.length:Int)) (h:¬(gi W.groups g).band.quota>0):chG W c n g=setGr (chA W c n g) g (chU W c n g):=by
 unfold chG chB
 rw [if_neg h,<-zuo (c:=c) (n:=n) u0 u1]
 have:=z8q (c:=c) (n:=n) u0 u1
 conv=>lhs; arg 3; rw [<-this]
 exact zoe u0 (by simp only [setGr,List.length_set]; rw [zpk]; exact u1)
section
variable {base:Nat} {W:Wld} {m:MW} {w:World}
set_option maxHeartbeats 2000000 in
theorem zxh {K S t c n:Int} {pO:Option Addr} {pC pb:Nat} (h:MWd 8 base w W m) (hbase:base<=w.heap.size) (hp:Own encI 1 zao pb w pO pC (pthR W t)) (hpn:∀x∈za9 pO,x∉zbc 8 m)
  (sw:SW K W) (rb:RB S W) (hK:0<=K/\K<=60000000000000000) (hS:0<=S/\S<=60000000000000000) (c0:0<=c) (c1:c<(W.cpus.length:Int)) (up:(gi W.cpus c).up=true) (ran:(gi W.cpus c).ran<50) (t0:0<=t) (t1:t<12) (hu:zae W.groups (tkk W t).group=true) (n0:0<=n) (n1:n<=100) :
  Calls Tryz.prog zi1 #[.agg (encW W m).toArray,.int .i64 t,.slice pO (pthR W t).length pC,.int .i64 c,.int .i64 n] w fun e w'=>∃m',e = .returned (.agg (encW (zah (chW W c t n)) m').toArray)/\Mv 8 base [] w m w' (zah (chW W c t n)) m':=by
 obtain ⟨sE,rE,_,_,hlE,_,s1,r1,cp1⟩:=zwc sw rb (by omega) c0 c1 up ran t0 t1 hu n0 n1
 obtain ⟨pin,plen⟩:=zye sw.a hu
 refine (zws W.now m.cO W.cpus.length m.cC m.tO W.tasks.length m.tC m.gO W.groups.length m.gC t pO (pthR W t).length pC c n (R:=fun v w'=>∃m',v = .agg (encW (zah (chW W c t n)) m').toArray/\Mv 8 base [] w m w' (zah (chW W c t n)) m') ?_).mono fun e w' ⟨v,he,m',hv,h3⟩=>⟨m',by rw [he,hv],h3⟩
 intro x hx x1 hx1
 have hgl:=sw.a.gl
 have htl:=sw.a.t
 have hlg:lagB=34686091440:=rfl
 have hr0:=h.rd (bs:=[]) (by simp)
 have hix:=hr0.t.ix zce t0 (by omega)
 have htv:=sw.tv t t0 t1
 have htr:=rb.t t t0 t1
 have hv:=zln n (zai (tkk W t).nice) n0 n1
 refine ⟨hix,_,_,_,_,_,_,_,_,_,hr0.t t t0 (by omega),fun x2 hx2=>⟨_,zfj,_,zdy,⟨?_,?_⟩,⟨?_,?_⟩,⟨?_,?_⟩,hix,wrT h (by simp) t0 (by omega) (j:=0) (by decide),?_⟩⟩
 ·show _<=(tkk W t).v+zbn n (zai (tkk W t).nice); omega
 ·show (tkk W t).v+zbn n (zai (tkk W t).nice)<=_; omega
 ·show _<=(tkk W t).sum+n; omega
 ·show (tkk W t).sum+n<=_; omega
 ·show _<=(tkk W t).used+n; omega
 ·show (tkk W t).used+n<=_; omega
 have eT:MWd 8 base (sto w m.tO (Int.toNat t*9) (encT (chT W t n))) (setTk W t (chT W t n)) m:=h.stoT t0 (by omega) (j:=0) (vs:=encT (chT W t n)) (x:=chT W t n) (by simp [encT]) (by simp [encT])
 have hM1:Mv 8 base [x,x1,x2] w m (sto w m.tO (Int.toNat t*9) (encT (chT W t n))) (setTk W t (chT W t n)) m:=((Mv.two h hx hx1).add hx2).deed eT subT
 refine ⟨fun vs w2=>∃(k:Nat) (V:Wld) (m2:MW),vs=[.int .i64 (k:Int)]/\k<=(pthR W t).length/\Mv 8 base [x,x1,x2] w m w2 V m2/\chL c n (pthR W t) (setTk W t (chT W t n))=chL c n ((pthR W t).drop k) V/\ChP (K+lagB+lagB*(k:Int)) (S+100+100*(k:Int)) c n (setTk W t (chT W t n)) V,
  zd5 (pthR W t).length 0,fun wr hx3 _=>⟨0,_,m,rfl,Nat.zero_le _,hM1.call0 hx3,rfl,⟨s1.mono (by simp),r1.mono (by simp),rfl,rfl,rfl,zb6.refl _,fun _ _=>rfl⟩⟩,?_⟩
 rintro i1 w2 hs2 ⟨k,V,m2,he,hk,hM2,hE,hC⟩
 simp only [List.cons.injEq,Value.int.injEq,true_and,and_true] at he
 subst he
 have hkk:0<=lagB*(k:Int)/\lagB*(k:Int)<=138744365760:=by simp only [lagB]; omega
 have hk1:lagB*((k+1:Nat):Int)=lagB*(k:Int)+lagB:=by simp only [lagB]; omega
 have hmg:m2.gO=m.gO:=by rw [hM2.hd]
 have hmc:m2.cO=m.cO:=by rw [hM2.hd]
 have hr:=hM2.rd
 have hglV:V.groups.length=8:=hC.sw.a.gl
 have hclV:V.cpus.length=W.cpus.length:=by rw [hC.cp]; rfl
 obtain ⟨_,hpr⟩:=zl3 hp hpn hM2
 refine ⟨fun hlt => ?_,fun hge => ?_⟩
 ·have hlt':=of_decide_eq_true hlt
  have hlt:k<(pthR W t).length:=by omega
  have hdr:=z7u hlt
  have hgu:=pin _ (z7v hlt)
  rw [hdr,z2x] at hE
  have hug:zae V.groups (gi (pthR W t) (k:Int))=true:=by rw [hC.g.usd]; exact hgu
  have hpc:=hpr (k:Int) (by omega) (by omega)
  have hpix:=hpr.ix zf2 (i:=(k:Int)) (by omega) (by omega)
  generalize hgk:gi (pthR W t) (k:Int)=g at hE hug hpc hgu hdr
  have hC2:=hC.trans (z8p hC.sw hC.rb (by omega) c0 (by rw [hclV]; exact c1) hug n0 n1)
  have hC3:ChP (K+lagB+lagB*((k+1:Nat):Int)) (S+100+100*((k+1:Nat):Int)) c n (setTk W t (chT W t n)) (chG V c n g):=⟨hC2.sw.mono (by omega),hC2.rb.mono (by omega),hC2.now,hC2.t,hC2.cp,hC2.g,hC2.p⟩
  obtain ⟨u0,u1,hgg⟩:=hC.sw.a.u hug
  have hlt2:g<(V.groups.length:Int):=by omega
  have hsl:=hC.sw.a.sl hug
  have hcs:c<((gi V.groups g).shelves.length:Int):=by omega
  have hixg:Ix m.gO W.groups.length g:=by have:=hr.g.ix (i:=g) u0 hlt2; rwa [hglV,<-hgl,hmg] at this
  have hrow:=hr.g.cells g u0 hlt2
  rw [hmg] at hrow
  have hss:=hr.g.shelves g u0 hlt2
  have hsc:=hss c c0 hcs
  have hixs:=hss.ix ze4 c0 hcs
  have hsv:=hC.sw.s g c hug c0 (by rw [hclV]; exact c1)
  have hsr:=hC.rb.s g c hug c0 (by rw [hclV]; exact c1)
  have hgr:=hC.rb.g g hug
  have hv2:=zln n (shf V g c).w n0 n1
  refine ⟨hpix,g,hpc,hixg,_,_,_,_,_,_,_,_,_,_,_,_,_,_,_,_,_,_,_,_,hrow,fun b3 hb3=>⟨hrow,hpc,rfl,hixs,_,_,_,_,_,hsc,fun b4 hb4=>⟨hpix,g,hpc,?_⟩⟩⟩
  have eA:∀s:Shf,s=chS V c n g->MWd 8 base (sto w2 (m2.ms g.toNat).sO (Int.toNat c*5) (encS s)) (chA V c n g) m2:=fun s hs=>by
   subst hs
   exact hM2.own.stoS u0 (by omega) c0 hcs (j:=0) (vs:=encS (chS V c n g)) (x:=chS V c n g) (by simp [encS]) (by simp [encS])
  have hwrS:=wrS hM2.own hM2.nb (i:=g) u0 (by omega) c0 hcs (j:=0) (k:=5) (by decide)
  have hshl:=hr.g.shelf (i:=g) u0 hlt2
  rw [hmg] at hshl
  refine ⟨fun g1 => ?_,fun g1 => ?_⟩
  ·have g1:g≠0:=by simpa using g1
   have hs:(⟨(shf V g c).floor,(shf V g c).on,(shf V g c).v+zbn n (shf V g c).w,(shf V g c).w,(shf V g c).sum+n⟩:Shf)=chS V c n g:=by unfold chS; rw [if_pos g1]
   have eA:=eA _ hs
   refine ⟨_,zdy,⟨?_,?_⟩,⟨?_,?_⟩,hpix,g,hpc,hixg,_,_,_,hshl,hixs,hwrS,hpix,g,?_,⟨?_,?_⟩,hixg,?_,?_⟩
   ·show _<=(shf V g c).v+zbn n (shf V g c).w; omega
   ·show (shf V g c).v+zbn n (shf V g c).w<=_; omega
   ·show _<=(shf V g c).sum+n; omega
   ·show (shf V g c).sum+n<=_; omega
   ·have:=(zl3 hp hpn (hM2.deed eA (subS (by omega)))).2 (k:Int) (by omega) (by omega)
    rw [hgk] at this
    exact this
   ·show _<=(gi V.groups g).sum+n; omega
   ·show (gi V.groups g).sum+n<=_; omega
   ·have:=wrG eA hM2.nb (i:=g) u0 (by omega) (j:=7) (k:=1) (by decide)
    rw [hmg] at this
    exact this
   have hM3:=((hM2.add hb3).add hb4).deed eA (subS (by omega))
   have eU:=eA.stoG0 (i:=g) u0 (by omega) (g:=chU V c n g) rfl rfl rfl (j:=7) (vs:=[.int .i64 ((gi V.groups g).sum+n)]) (by unfold chU; rw [z5e u0 hlt2]; rfl) (by simp)
   have hM4:=hM3.deed eU subG
   rw [hmg] at hM4
   have hM4:Mv 8 base [x,x1,x2,b3,b4] w m _ (setGr (chA V c n g) g (chU V c n g)) m2:=hM4
   have hgb:=zuo (c:=c) (n:=n) u0 hlt2
   have hgi:=z8q (c:=c) (n:=n) u0 hlt2
   have hl5:(setGr (chA V c n g) g (chU V c n g)).groups.length=V.groups.length:=by simp only [setGr,List.length_set]; exact zpk _ _ _ _
   have hnone:=z2w (c:=c) (n:=n) u0 hlt2
   have hdef:chG V c n g=setBd (setGr (chA V c n g) g (chU V c n g)) g (chB V c n g):=rfl
   generalize setGr (chA V c n g) g (chU V c n g)=V5 at hM4 hgi hl5 hnone hdef
   refine ⟨fun g2 wr1 hx3 hs3 => ?_,fun g2=>⟨⟨by omega,by omega⟩,fun wr1 hx3 _=>⟨⟨k+1,chG V c n g,m2,by simp,by omega,?_,hE,hC3⟩,zb0 (k:=k) rfl rfl hlt⟩⟩⟩
   ·have g2:(gi V.groups g).band.quota>0:=of_decide_eq_true g2
    have hB:chB V c n g=(zdd (gi V.groups g).band ⟨2,c,n⟩).1:=by unfold chB; rw [if_pos g2]
    rw [hB] at hdef
    obtain ⟨hb,hbl,_⟩:=hgg.band (by omega)
    have hM6:Mv 8 base [x,x1,x2,b3,b4] w m wr1 V5 m2:=hM4.step (hx3.mono fun y hy=>by simp only [List.mem_cons,List.not_mem_nil,or_false] at hy ⊢; rcases hy with h | h | h <;> simp [h])
    have hr6:=hM6.rd0
    have hg5:g<(V5.groups.length:Int):=by rw [hl5]; exact hlt2
    have hLo:=hr6.g.locals g u0 hg5
    have hDo:=hr6.g.dry g u0 hg5
    rw [hgi,hgb] at hLo hDo
    refine Calls.mono (zjd (op:=⟨2,c,n⟩) hb hLo hDo) ?_
    rintro e wv2 ⟨p,he,hO,hy⟩
    have hM7:=hM6.call0 hy
    have hbs:base<=wr1.heap.size:=by have:=hM6.ext.size; omega
    have hOb:∀y∈zfc p,wr1.heap.size<=y:=fun y hy=>(hO.lt y hy).1
    have hput:=hM7.own.putB (i:=g) u0 (by omega) (hO.mono hbs) (fun y hy hm=>by have:=hOb y hy; have:=(hM6.own.lt y hm).2; omega)
    have hwr:=wrG hM7.own hM7.nb (i:=g) u0 (by omega) (j:=8) (k:=5) (by decide)
    have hsz:=hM6.ext.size
    have hM8:=hM7.swap hput subG rfl fun y hy=>by
     rcases znx y hy with h1 | h1
     ·exact .inl h1
     ·rcases znp y h1 with h2 | h2
      ·have:=hOb y h2
       exact .inr ⟨by omega,fun hm=>by have:=hs3 y hm; omega⟩
      ·exact .inl (zi7 (by omega) h2)
    rw [hmg] at hwr hM8
    rw [<-hdef] at hM8
    have hpc7:=(zl3 hp hpn hM7).2 (k:Int) (by omega) (by omega)
    rw [hgk] at hpc7
    exact ⟨_,_,_,_,_,_,_,_,_,_,he,zaz hy hs3,fun b5 hb5=>⟨hpix,g,hpc7,hixg,hwr,⟨by omega,by omega⟩,fun wr6 hx6 _=>⟨⟨k+1,chG V c n g,_,by simp,by omega,(hM8.step hx6).sub' (by simp),hE,hC3⟩,zb0 (k:=k) rfl rfl hlt⟩⟩⟩
   ·have g2:¬(gi V.groups g).band.quota>0:=of_decide_eq_false g2
    rw [hnone g2]
    exact (hM4.sub' (cs:=[x,x1,x2]) (fun y hy=>by simp only [List.mem_cons,List.not_mem_nil,or_false] at hy ⊢; rcases hy with h | h | h <;> simp [h])).step hx3
  ·have g1:¬g≠0:=by simpa using g1
   have hs:(⟨(shf V g c).floor,(shf V g c).on,(shf V g c).v,(shf V g c).w,(shf V g c).sum+n⟩:Shf)=chS V c n g:=by unfold chS; rw [if_neg g1]
   have eA:=eA _ hs
   refine ⟨⟨?_,?_⟩,hpix,g,hpc,hixg,_,_,_,hshl,hixs,hwrS,hpix,g,?_,⟨?_,?_⟩,hixg,?_,?_⟩
   ·show _<=(shf V g c).sum+n; omega
   ·show (shf V g c).sum+n<=_; omega
   ·have:=(zl3 hp hpn (hM2.deed eA (subS (by omega)))).2 (k:Int) (by omega) (by omega)
    rw [hgk] at this
    exact this
   ·show _<=(gi V.groups g).sum+n; omega
   ·show (gi V.groups g).sum+n<=_; omega
   ·have:=wrG eA hM2.nb (i:=g) u0 (by omega) (j:=7) (k:=1) (by decide)
    rw [hmg] at this
    exact this
   have hM3:=((hM2.add hb3).add hb4).deed eA (subS (by omega))
   have eU:=eA.stoG0 (i:=g) u0 (by omega) (g:=chU V c n g) rfl rfl rfl (j:=7) (vs:=[.int .i64 ((gi V.groups g).sum+n)]) (by unfold chU; rw [z5e u0 hlt2]; rfl) (by simp)
   have hM4:=hM3.deed eU subG
   rw [hmg] at hM4
   have hM4:Mv 8 base [x,x1,x2,b3,b4] w m _ (setGr (chA V c n g) g (chU V c n g)) m2:=hM4
   have hgb:=zuo (c:=c) (n:=n) u0 hlt2
   have hgi:=z8q (c:=c) (n:=n) u0 hlt2
   have hl5:(setGr (chA V c n g) g (chU V c n g)).groups.length=V.groups.length:=by simp only [setGr,List.length_set]; exact zpk _ _ _ _
   have hnone:=z2w (c:=c) (n:=n) u0 hlt2
   have hdef:chG V c n g=setBd (setGr (chA V c n g) g (chU V c n g)) g (chB V c n g):=rfl
   generalize setGr (chA V c n g) g (chU V c n g)=V5 at hM4 hgi hl5 hnone hdef
   refine ⟨fun g2 wr1 hx3 hs3 => ?_,fun g2=>⟨⟨by omega,by omega⟩,fun wr1 hx3 _=>⟨⟨k+1,chG V c n g,m2,by simp,by omega,?_,hE,hC3⟩,zb0 (k:=k) rfl rfl hlt⟩⟩⟩
   ·have g2:(gi V.groups g).band.quota>0:=of_decide_eq_true g2
    have hB:chB V c n g=(zdd (gi V.groups g).band ⟨2,c,n⟩).1:=by unfold chB; rw [if_pos g2]
    rw [hB] at hdef
    obtain ⟨hb,hbl,_⟩:=hgg.band (by omega)
    have hM6:Mv 8 base [x,x1,x2,b3,b4] w m wr1 V5 m2:=hM4.step (hx3.mono fun y hy=>by simp only [List.mem_cons,List.not_mem_nil,or_false] at hy ⊢; rcases hy with h | h | h <;> simp [h])
    have hr6:=hM6.rd0
    have hg5:g<(V5.groups.length:Int):=by rw [hl5]; exact hlt2
    have hLo:=hr6.g.locals g u0 hg5
    have hDo:=hr6.g.dry g u0 hg5
    rw [hgi,hgb] at hLo hDo
    refine Calls.mono (zjd (op:=⟨2,c,n⟩) hb hLo hDo) ?_
    rintro e wv2 ⟨p,he,hO,hy⟩
    have hM7:=hM6.call0 hy
    have hbs:base<=wr1.heap.size:=by have:=hM6.ext.size; omega
    have hOb:∀y∈zfc p,wr1.heap.size<=y:=fun y hy=>(hO.lt y hy).1
    have hput:=hM7.own.putB (i:=g) u0 (by omega) (hO.mono hbs) (fun y hy hm=>by have:=hOb y hy; have:=(hM6.own.lt y hm).2; omega)
    have hwr:=wrG hM7.own hM7.nb (i:=g) u0 (by omega) (j:=8) (k:=5) (by decide)
    have hsz:=hM6.ext.size
    have hM8:=hM7.swap hput subG rfl fun y hy=>by
     rcases znx y hy with h1 | h1
     ·exact .inl h1
     ·rcases znp y h1 with h2 | h2
      ·have:=hOb y h2
       exact .inr ⟨by omega,fun hm=>by have:=hs3 y hm; omega⟩
      ·exact .inl (zi7 (by omega) h2)
    rw [hmg] at hwr hM8
    rw [<-hdef] at hM8
    have hpc7:=(zl3 hp hpn hM7).2 (k:Int) (by omega) (by omega)
    rw [hgk] at hpc7
    exact ⟨_,_,_,_,_,_,_,_,_,_,he,zaz hy hs3,fun b5 hb5=>⟨hpix,g,hpc7,hixg,hwr,⟨by omega,by omega⟩,fun wr6 hx6 _=>⟨⟨k+1,chG V c n g,_,by simp,by omega,(hM8.step hx6).sub' (by simp),hE,hC3⟩,zb0 (k:=k) rfl rfl hlt⟩⟩⟩
   ·have g2:¬(gi V.groups g).band.quota>0:=of_decide_eq_false g2
    rw [hnone g2]
    exact (hM4.sub' (cs:=[x,x1,x2]) (fun y hy=>by simp only [List.mem_cons,List.not_mem_nil,or_false] at hy ⊢; rcases hy with h | h | h <;> simp [h])).step hx3
 ·have hge:=of_decide_eq_false hge
  have hk2:k=(pthR W t).length:=by omega
  subst hk2
  rw [List.drop_length] at hE
  have hE:chL c n (pthR W t) (setTk W t (chT W t n))=V:=hE
  have hcV:V.cpus=W.cpus:=hC.cp
  have cV:c<(V.cpus.length:Int):=by rw [hclV]; exact c1
  have hixc:Ix m.cO W.cpus.length c:=by have:=hr.c.ix zeg c0 cV; rwa [hclV,hmc] at this
  have hcr:=rb.c c c0 c1
  have e1:=hM2.own.stoC c0 cV (j:=3) (vs:=[.int .i64 ((gi W.cpus c).busy+n)]) (x:={ gi W.cpus c with busy:=(gi W.cpus c).busy+n }) (by rw [hcV]; rfl) (by simp)
  have hl1:(V.cpus.set c.toNat { gi W.cpus c with busy:=(gi W.cpus c).busy+n }).length=V.cpus.length:=List.length_set
  have hg1:gi (V.cpus.set c.toNat { gi W.cpus c with busy:=(gi W.cpus c).busy+n }) c={ gi W.cpus c with busy:=(gi W.cpus c).busy+n }:=(za4 _ _ c0 cV c0).trans (if_pos rfl)
  have e2:=e1.stoC c0 (by simpa using cV) (j:=2) (vs:=[.int .i64 ((gi W.cpus c).ran+n)]) (x:=chC W c n) (by rw [hg1]; rfl) (by simp)
  have hb:=hr.c.f c0 cV (j:=3) rfl
  have hw1:=wrC hM2.own hM2.nb c0 cV (j:=3) (k:=1) (by decide)
  have hM3:=hM2.deed e1 subC
  have hrn:=hM3.rd.c.f c0 (by show c<((V.cpus.set c.toNat { gi W.cpus c with busy:=(gi W.cpus c).busy+n }).length:Int); rw [hl1]; exact cV) (j:=2) rfl
  have hw2:=wrC e1 hM2.nb c0 (by show c<((V.cpus.set c.toNat { gi W.cpus c with busy:=(gi W.cpus c).busy+n }).length:Int); rw [hl1]; exact cV) (j:=2) (k:=1) (by decide)
  rw [hmc] at hb hw1 hrn hw2
  rw [hcV] at hb
  rw [show gi ({ V with cpus:=V.cpus.set c.toNat { gi W.cpus c with busy:=(gi W.cpus c).busy+n } }:Wld).cpus c=_ from hg1] at hrn
  have hM4:=hM3.deed e2 subC
  have hW4:({ V with cpus:=(V.cpus.set c.toNat { gi W.cpus c with busy:=(gi W.cpus c).busy+n }).set c.toNat (chC W c n) }:Wld)=chW W c t n:=by
   unfold chW setCp
   rw [hE,List.set_set]
  rw [hmc] at hM4
  have hM4:Mv 8 base [x,x1,x2] w m _ ({ V with cpus:=(V.cpus.set c.toNat { gi W.cpus c with busy:=(gi W.cpus c).busy+n }).set c.toNat (chC W c n) }:Wld) m2:=hM4
  rw [hW4] at hM4
  refine ⟨hixc,_,hb,⟨?_,?_⟩,hixc,hw1,hixc,_,hrn,⟨?_,?_⟩,hixc,hw2,fun wr7 hx7 hs7 => ?_⟩
  ·show _<=(gi W.cpus c).busy+n; omega
  ·show (gi W.cpus c).busy+n<=_; omega
  ·show _<=(gi W.cpus c).ran+n; omega
  ·show (gi W.cpus c).ran+n<=_; omega
  have hM7:=hM4.step hx7
  have hsz:=hM7.ext.size
  have hcall:=zfl hM7.own sE (by omega) (by omega) (by omega)
  rw [show encW (chW W c t n) m2=encW W m from hM7.encW_eq (by rw [show (chW W c t n).now=V.now from by rw [<-hW4]]; exact hC.now) hlE (by rw [<-hW4,show ({ V with cpus:=(V.cpus.set c.toNat { gi W.cpus c with busy:=(gi W.cpus c).busy+n }).set c.toNat (chC W c n) }:Wld).tasks=V.tasks from rfl,hC.t]; simp [setTk]) (by rw [<-hW4]; exact hC.g.len)] at hcall
  refine Calls.mono hcall ?_
  rintro e wv ⟨m3,he,hy⟩
  exact ⟨_,_,_,_,_,_,_,_,_,_,he,hM7.kept hy hs7,fun wr8 hx8=>⟨m3,rfl,((hM7.call hy hs7).step hx8).close⟩⟩
end
theorem zaco {Q:Nat->Prop} (h:∃f,Q f):∃f,Q f/\∀g,Q g->f<=g:=by
 obtain ⟨f,hf⟩:=h
 induction f using Nat.strongRecOn with
 | ind f ih=>
  by_cases h:∃g,g<f/\Q g
  ·obtain ⟨g,hg,hq⟩:=h
   exact ih g hg hq
  ·exact ⟨f,hf,fun g hq=>Nat.le_of_not_lt fun hlt=>h ⟨g,hlt,hq⟩⟩
open Classical in
noncomputable def lstF (Q:Nat->Prop):Nat:=if h:∃f,Q f then (zaco h).choose else 0
theorem z54 {Q:Nat->Prop} (h:∃f,Q f):Q (lstF Q):=by
 unfold lstF
 rw [dif_pos h]
 exact (zaco h).choose_spec.1
theorem zacn {Q:Nat->Prop} {f:Nat} (h:Q f):lstF Q<=f:=by
 unfold lstF
 rw [dif_pos ⟨f,h⟩]
 exact (zaco ⟨f,h⟩).choose_spec.2 f h
noncomputable def runB (W:Wld) (c n:Int):Int:=if inB n 1 100=false\/zwd W c=false then 1 else if (gi W.cpus c).up=false then 6 else if zhh W=false then 10 else 0
def runW (W:Wld) (c n:Int):Wld:=runN c 400 W n
theorem zl4 {c:Int} {f:Nat} {W:Wld} {left:Int} (h:left<=0):runN c (f+1) W left=zah W:=by
 rw [runN,if_pos h]
theorem zli {c:Int} {f:Nat} {W:Wld} {left:Int} (h:¬left<=0) (hp:zaf W c<0):runN c (f+1) W left=zah (endW (setCp W c (idlC W c left)) c):=by
 rw [runN,if_neg h,if_pos hp]
theorem zj6 {c:Int} {f:Nat} {W:Wld} {left:Int} (h:¬left<=0) (hp:¬zaf W c<0):runN c (f+1) W left=runN c f (rndW W c left).1 (rndW W c left).2:=by
 rw [runN,if_neg h,if_neg hp]
theorem zyh {W:Wld} {c n:Int} (hW:zbi W=true) (hb:runB W c n=0):inB n 1 100=true/\zwd W c=true/\(gi W.cpus c).up=true/\zhh W=true/\RunI 400 c W W n:=by
 unfold runB at hb
 split at hb
 ·cases hb
 ·rename_i h1
  split at hb
  ·cases hb
  ·rename_i h2
   split at hb
   ·cases hb
   ·rename_i h3
    have h1a:inB n 1 100=true:=by
     cases h:inB n 1 100 with
     | true=>rfl
     | false=>exact absurd (.inl h) h1
    have h1b:zwd W c=true:=by
     cases h:zwd W c with
     | true=>rfl
     | false=>exact absurd (.inr h) h1
    have h2:(gi W.cpus c).up=true:=by simpa using h2
    have h3:zhh W=true:=by simpa using h3
    obtain ⟨c0,c1⟩:=z7k h1b
    have:=za6.1 h1a
    exact ⟨h1a,h1b,h2,h3,zaaw (zbp.1 hW) (zbp.1 h3) c0 c1 h2 (by omega) (by omega)⟩
theorem z9g {f:Nat} {c left:Int} {W0 W:Wld} (h:RunI f c W0 W left):∃g,f=g+1:=by
 have h1:=h.f1
 have h2:=h.l0
 exact ⟨f - 1,by omega⟩
theorem z5s {f:Nat} {c left:Int} {W0 W:Wld} (h:RunI f c W0 W left):SW (runK f) (endW (setCp W c (idlC W c left)) c)/\SW (runK f) (setCp W c (idlC W c left))/\0<=(gi W.cpus c).idle+left/\(gi W.cpus c).idle+left<=60000000000000000:=by
 have c0:=h.c0
 have c1:=h.c1
 have hcu:=h.sw.cu c c0 c1
 have hl0:=h.l0
 have hl1:=h.l1
 have hr:=h.rb.c c c0 c1
 have s1:SW (runK f) (setCp W c (idlC W c left)):=h.sw.setCp c0 c1 (z68 (c:=c) (by rw [List.length_set]; exact h.sw.a.c2) c0 (by rw [List.length_set]; exact c1) (by rw [show gi (W.cpus.set c.toNat (idlC W c left)) c=idlC W c left from (za4 _ _ c0 c1 c0).trans (if_pos rfl)]; exact h.up)) hcu.1 hcu.2
 exact ⟨s1.endW c0 (by show c<((W.cpus.set c.toNat (idlC W c left)).length:Int); rw [List.length_set]; exact c1),s1,by omega,by omega⟩
section
variable {W:Wld} {m:MW} {w:World}
def RunS (y y1:Nat) (w0:World) (c n:Int) (W:Wld) (f:Nat) (vs:List Value) (w2:World):Prop:=
 ∃(V:Wld) (m2:MW) (left:Int),vs = .int .i64 left::encW V m2/\Wk 8 [y,y1] w0 w2 V m2/\RunI f c W V left/\runN c f V left=runW W c n
set_option maxHeartbeats 4000000 in
theorem zj1 {c n:Int} (h:RdW [] w W m) (hl:LenW W) :
  Calls Tryz.prog zdn #[.agg (encW W m).toArray,.int .i64 c,.int .i64 n] w fun e w'=>∃v,e = .returned v/\AnsW (ansD W (runB W c n) (runW W c n)) w v w':=by
 refine zwn W.now m.cO W.cpus.length m.cC m.tO W.tasks.length m.tC m.gO W.groups.length m.gC c n (R:=fun v w'=>AnsW (ansD W (runB W c n) (runW W c n)) w v w') ?_
 intro y hy y1 hy1
 have hm0:=zj4
 have hlc:=hl.c
 refine ⟨_,zk5 h hl.c hl.t hl.g hl.f,fun g wr hx=>AnsW.bad (by simpa using g) hx,fun g wr hx2 hs2 => ?_⟩
 have hW:zbi W=true:=by simpa using g
 have wp:=zbp.1 hW
 refine Calls.mono (ztg (h.ext hx2) wp.a) ?_
 rintro e wv ⟨m',he,hM,hy2⟩
 have hK:=Wk.begin hy hy1 hx2 hs2 hM hy2
 have hr:=hK.rd
 refine ⟨_,_,_,_,_,_,_,_,_,_,he,zaz hy2 hs2,_,za1,fun _=>⟨by omega,by omega⟩,zwd W c,fun _=>za1,fun g wr1 hx3 => ?_,fun g => ?_⟩
 ·have hb:runB W c n=1:=by
   unfold runB; rw [if_pos]
   simpa using g
  exact AnsW.no hW (by rw [hb]; decide) (hK.step hx3) hb
 have g:inB n 1 100=true/\zwd W c=true:=by simpa using g
 have hn1:¬(inB n 1 100=false\/zwd W c=false):=by rw [g.1,g.2]; simp
 obtain ⟨c0,c1⟩:=z7k g.2
 have hro:=zmg hr hl
 refine ⟨hr.c.ix zeg c0 c1,_,hr.c.f c0 c1 (j:=0) rfl,fun g2 wr1 hx3 => ?_,fun g2=>⟨_,hro,fun g3 wr1 hx3 => ?_,fun g3 => ?_⟩⟩
 ·have hb:runB W c n=6:=by unfold runB; rw [if_neg hn1,if_pos (by simpa using g2)]
  exact AnsW.no hW (by rw [hb]; decide) (hK.step hx3) hb
 ·have g2:(gi W.cpus c).up=true:=by simpa using g2
  have hr0:¬zhh W=true:=fun hr=>by
   rw [show decB (WldP W/\zu3 W)=true from zbp.2 ⟨wp,zbp.1 hr⟩] at g3
   cases g3
  have hb:runB W c n=10:=by unfold runB; rw [if_neg hn1,if_neg (by rw [g2]; decide),if_pos (by simpa using hr0)]
  exact AnsW.no hW (by rw [hb]; decide) (hK.step hx3) hb
 have g2:(gi W.cpus c).up=true:=by simpa using g2
 have hr0:zhh W=true:=by
  have hd:decB (WldP W/\zu3 W)=true:=by simpa using g3
  exact zbp.2 (zbp.1 hd).2
 have hb:runB W c n=0:=by unfold runB; rw [if_neg hn1,if_neg (by rw [g2]; decide),if_neg (by rw [hr0]; decide)]
 obtain ⟨_,_,_,_,hI0⟩:=zyh hW hb
 refine ⟨fun vs _ w2=>∃(V:Wld) (m2:MW) (K:Int),vs=encW V m2/\Wk 8 [y,y1] w w2 V m2/\SW K V/\0<=K/\K<=60000000000000000/\zah V=runW W c n,?_,?_⟩
 ·refine ⟨fun vs w2=>∃f,RunS y y1 w c n W f vs w2,fun vs w2=>lstF fun f=>RunS y y1 w c n W f vs w2,fun wr hx3 _=>⟨400,W,m',n,rfl,hK.step hx3,hI0,rfl⟩,?_⟩
  intro left l0 l1O l1L l1C l2O l2L l2C l3O l3L l3C w2 hs3 hinv
  obtain ⟨f0,hf0⟩:∃f0,f0=lstF fun f=>RunS y y1 w c n W f [.int .i64 left,.int .i64 l0,.slice l1O l1L l1C,.slice l2O l2L l2C,.slice l3O l3L l3C] w2:=⟨_,rfl⟩
  have hS:=z54 hinv
  simp only [<-hf0] at hS ⊢
  clear hf0 hinv
  obtain ⟨V,m2,left',hv,hK2,hI,hN⟩:=hS
  simp only [encW,List.cons.injEq,Value.int.injEq,Value.slice.injEq,true_and,and_true] at hv
  obtain ⟨rfl,rfl,⟨rfl,rfl,rfl⟩,⟨rfl,rfl,rfl⟩,rfl,rfl,rfl⟩:=hv
  obtain ⟨f,rfl⟩:=z9g hI
  have hnext:∀{vs:List Value} {w9:World},RunS y y1 w c n W f vs w9->(∃f,RunS y y1 w c n W f vs w9)/\(lstF fun f=>RunS y y1 w c n W f vs w9)<f+1:=fun hh=>⟨⟨f,hh⟩,Nat.lt_succ_of_le (zacn hh)⟩
  have hr2:=hK2.rd
  have hf:=hI.f2
  have hKu:=zi4 hf
  have hSu:=zyf hf
  have hh0:(0:Int)<=zbr:=by decide
  have c1V:=hI.c1
  have hixc:=hr2.c.ix zeg c0 c1V
  refine ⟨fun hlt => ?_,fun hge => ?_⟩
  ·have hlt:=of_decide_eq_true hlt
   refine ⟨_,z3t hr2 hI.sw.a c0 c1V,fun gp => ?_,fun gp => ?_⟩
   ·have gp:=of_decide_eq_true gp
    rw [zli (by omega) gp] at hN
    obtain ⟨i1,i2,i3,i4⟩:=z5s hI
    have e1:MWd 8 w.heap.size _ (setCp V c (idlC V c left)) m2:=hK2.own.stoC c0 c1V (j:=4) (vs:=[.int .i64 ((gi V.cpus c).idle+left)]) (x:=idlC V c left) rfl (by simp)
    refine ⟨hixc,_,hr2.c.f c0 c1V (j:=4) rfl,⟨by omega,by omega⟩,hixc,wrC hK2.own hK2.nb c0 c1V (j:=4) (by decide),fun wr4 hx4 hs4 => ?_⟩
    have hK4:=(hK2.sto e1 subC).step hx4
    have hcall:=zgo hK4.own c0 (by show c<((V.cpus.set c.toNat (idlC V c left)).length:Int); rw [List.length_set]; exact c1V)
    rw [z7o] at hcall
    refine Calls.mono hcall ?_
    rintro e2 wv2 ⟨he2,hy4⟩
    exact ⟨_,_,_,_,_,_,_,_,_,_,he2,hK4.kept hy4 hs4,fun wr5 hx5 _=>⟨_,m2,_,rfl,(hK4.deed hy4 hs4).step hx5,i1,by omega,by omega,hN⟩⟩
   ·have gp:=of_decide_eq_false gp
    rw [zj6 (by omega) gp] at hN
    have hR:=zrk hI hlt gp
    have t0:=hR.line.t0
    have t1:=hR.line.t1
    have htl:V.tasks.length=12:=hI.sw.a.t
    refine ⟨fun _ _ w3=>Wk 8 [y,y1] w w3 (zbu V c (zaf V c)) m2,?_,?_⟩
    ·refine ⟨hixc,_,hr2.c.f c0 c1V (j:=1) rfl,fun _=>hixc,_,fun _=>hr2.c.f c0 c1V (j:=2) rfl,fun g5 => ?_,fun g5 wr4 hx4 _ => ?_⟩
     ·have g5:zaf V c≠(gi V.cpus c).cur\/(gi V.cpus c).ran>=50:=by simpa using g5
      have hS:zdb V c (zaf V c)={ gi V.cpus c with cur:=zaf V c,ran:=0 }:=by unfold zdb; rw [if_pos g5]
      have e1:=hK2.own.stoC c0 c1V (j:=1) (vs:=[.int .i64 (zaf V c)]) (x:={ gi V.cpus c with cur:=zaf V c }) rfl (by simp)
      have hl1:(V.cpus.set c.toNat { gi V.cpus c with cur:=zaf V c }).length=V.cpus.length:=List.length_set
      have hg1:gi (V.cpus.set c.toNat { gi V.cpus c with cur:=zaf V c }) c={ gi V.cpus c with cur:=zaf V c }:=(za4 _ _ c0 c1V c0).trans (if_pos rfl)
      have e2:=e1.stoC c0 (by simpa using c1V) (j:=2) (vs:=[.int .i64 0]) (x:=zdb V c (zaf V c)) (by rw [hg1,hS]; rfl) (by simp)
      have hW2:({ V with cpus:=(V.cpus.set c.toNat { gi V.cpus c with cur:=zaf V c }).set c.toNat (zdb V c (zaf V c)) }:Wld)=zbu V c (zaf V c):=by
       unfold zbu setCp
       rw [List.set_set]
      have hK3:=hK2.sto e1 subC
      have hK4:Wk 8 [y,y1] w _ ({ V with cpus:=(V.cpus.set c.toNat { gi V.cpus c with cur:=zaf V c }).set c.toNat (zdb V c (zaf V c)) }:Wld) m2:=hK3.sto e2 subC
      rw [hW2] at hK4
      exact ⟨hixc,wrC hK2.own hK2.nb c0 c1V (j:=1) (by decide),hixc,wrC e1 hK2.nb c0 (by show c<((V.cpus.set c.toNat { gi V.cpus c with cur:=zaf V c }).length:Int); rw [hl1]; exact c1V) (j:=2) (by decide),fun wr4 hx4 _=>hK4.step hx4⟩
     ·have g5:¬(zaf V c≠(gi V.cpus c).cur\/(gi V.cpus c).ran>=50):=by simpa using g5
      have hS:zbu V c (zaf V c)=V:=by
       unfold zbu zdb setCp
       rw [if_neg g5,zyk c0 c1V]
      rw [hS]
      exact hK2.step hx4
    ·intro wv5 hs5 hK5 wr6 hx6 hs6
     have hK6:=hK5.step hx6
     have hcG:=zxi (t:=zaf V c) (hK6.rd.less (cs:=[]) (by simp)) hR.s1.a.tree t0 (by show _<((V.tasks.length:Nat):Int); omega) hR.us
     have ecp:encW (zbu V c (zaf V c)) m2=encW V m2:=z7o _ _ _ _
     rw [ecp] at hcG
     refine Calls.mono hcG ?_
     rintro e3 wv6 ⟨pO,pC,he3,hO,hy6⟩
     have hO:Own encI 1 zao wr6.heap.size wv6 pO pC (pthR V (zaf V c)):=hO
     have he3:e3 = .returned (.slice pO (pthR V (zaf V c)).length pC):=he3
     have hK7:=hK6.call0 hy6
     refine ⟨_,_,_,he3,zaz hy6 hs6,fun wr8 hx8 hs8 => ?_⟩
     have hK8:=hK7.step hx8
     have hpn0:∀z∈za9 pO,z∉[y,y1]:=fun z hz hm=>by
      have:=(hO.lt z hz).1
      have:=hs6 z hm
      omega
     have hO8:=hO.ext hx8 hpn0
     have hpn8:∀z∈za9 pO,z∉zbc 8 m2:=fun z hz hm=>by
      have:=(hO.lt z hz).1
      have:=(hK6.own.lt z hm).2
      omega
     have hcT:=z3u hK8.own hR.s1 hK8.base hO8 hpn8 hR.len c0 (by rw [(zpy hI.sw hI.rb c0 c1V hI.up t0 t1).2.2.2.2.2]; exact c1V) hR.pin hR.dr
     rw [ecp] at hcT
     refine Calls.mono hcT ?_
     rintro e4 wv9 ⟨m3,he4,hy9⟩
     have hK9:Wk 8 [y,y1] w wv9 (tkW V c).1 m3:=hK8.deed hy9 hs8
     have hTk:tkL c (pthR V (zaf V c)) (zbu V c (zaf V c))=tkW V c:=rfl
     rw [hTk] at he4 hy9
     have hO9:=hO8.ext hy9.ext hpn8
     have hpn9:∀z∈za9 pO,z∉zbc 8 m3:=fun z hz hm=>by
      rcases hy9.sub z hm with h1 | h1
      ·exact hpn8 z hz h1
      ·have:=(hO8.lt z hz).2
       omega
     have eC:(tkW V c).1.cpus=(zbu V c (zaf V c)).cpus:=hR.tk.o.c
     have lT:(tkW V c).1.cpus.length=V.cpus.length:=by rw [eC]; exact (zpy hI.sw hI.rb c0 c1V hI.up t0 t1).2.2.2.2.2
     have cT:c<((tkW V c).1.cpus.length:Int):=by rw [lT]; exact c1V
     have e9:encW (tkW V c).1 m3=encW V m2:=by
      rw [hy9.encW_eq (W0:=zbu V c (zaf V c)) hR.tk.o.n (by rw [eC]) (by rw [hR.tk.o.t]) hR.tk.o.g.len]
      exact ecp
     have rT:RB (runS (f+1)) (tkW V c).1:=hR.r1.sum hR.tk.su hR.tk.o.g (by rw [eC])
     have eT:(tkW V c).1.tasks=V.tasks:=hR.tk.o.t
     have eG:zb6 V.groups (tkW V c).1.groups:=hR.tk.o.g
     have pT:pthR (tkW V c).1 (zaf V c)=pthR V (zaf V c):=z4q eT eG _
     have uT:zae (tkW V c).1.groups (tkk (tkW V c).1 (zaf V c)).group=true:=by rw [eG.usd,zd7 eT]; exact hR.us
     have upT:(gi (tkW V c).1.cpus c).up=true:=by rw [eC]; exact (zpy hI.sw hI.rb c0 c1V hI.up t0 t1).2.2.1
     have ranT:(gi (tkW V c).1.cpus c).ran<50:=by rw [eC]; exact hR.ran
     have hnx:=hR.nx
     refine ⟨_,_,_,_,_,_,_,_,_,_,_,he4,hK8.kept hy9 hs8,fun gt wr10 hx10 hs10 => ?_,fun gt => ?_⟩
     ·have gt:¬(tkW V c).2=true:=by simpa using gt
      have hRW:rndW V c left=(zah (endW (tkW V c).1 c),left):=by unfold rndW; rw [if_neg gt]
      rw [hRW] at hnx hN
      have hK10:=hK9.step hx10
      have hcE:=zgo hK10.own c0 cT
      rw [e9] at hcE
      refine Calls.mono hcE ?_
      rintro e5 wv11 ⟨he5,hy11⟩
      refine ⟨_,_,_,_,_,_,_,_,_,_,he5,hK10.kept hy11 hs10,fun wr12 hx12 hs12 => ?_⟩
      have hK12:=(hK10.deed hy11 hs10).step hx12
      refine Calls.mono (zfl hK12.own (hR.tk.sw.endW c0 cT) (by omega) (by omega) hK12.base) ?_
      rintro e6 wv13 ⟨m4,he6,hy13⟩
      generalize zah (endW (tkW V c).1 c)=V9 at he6 hy13 hnx hN
      exact ⟨_,_,_,_,_,_,_,_,_,_,he6,hK12.kept hy13 hs12,fun wr14 hx14 _=>hnext ⟨V9,m4,left,rfl,(hK12.deed hy13 hs12).step hx14,hnx,hN⟩⟩
     ·have gt:(tkW V c).2=true:=by simpa using gt
      have hRW:rndW V c left=(zah (chW (tkW V c).1 c (zaf V c) (rndM V c left)),left - rndM V c left):=by unfold rndW; rw [if_pos gt]
      rw [hRW] at hnx hN
      obtain ⟨m1,m2'⟩:=hR.m gt
      have hl1:=hI.l1
      have hcM:=z3r (n:=left) hK9.rd hR.tk.sw.a (hO9.rd zgj.len hpn0) (pC:=pC) hR.len c0 cT (fun z hz=>by rw [eG.usd]; exact hR.pin z hz)
      rw [e9] at hcM
      refine ⟨_,hcM,fun wr10 hx10 hs10 => ?_⟩
      have hK10:=hK9.step hx10
      have hO10:Own encI 1 zao wr6.heap.size wr10 pO pC (pthR (tkW V c).1 (zaf V c)):=by rw [pT]; exact hO9.ext hx10 hpn0
      have hcC:=zxh (t:=zaf V c) (n:=rndM V c left) hK10.own hK10.base hO10 hpn9 hR.tk.sw rT ⟨by omega,by omega⟩ ⟨by omega,by omega⟩ c0 cT upT ranT t0 t1 uT (by omega) (by omega)
      rw [e9,pT] at hcC
      refine Calls.mono hcC ?_
      rintro e7 wv11 ⟨m4,he7,hy11⟩
      generalize zah (chW (tkW V c).1 c (zaf V c) (rndM V c left))=V9 at he7 hy11 hnx hN
      exact ⟨_,_,_,_,_,_,_,_,_,_,he7,hK10.kept hy11 hs10,⟨by show _<=left - rndM V c left; omega,by show left - rndM V c left<=_; omega⟩,fun wr12 hx12 _=>hnext ⟨V9,m4,left - rndM V c left,rfl,(hK10.deed hy11 hs10).step hx12,hnx,hN⟩⟩
  ·have hge:=of_decide_eq_false hge
   rw [zl4 (by omega)] at hN
   exact fun wr4 hx4 _=>⟨V,m2,_,rfl,hK2.step hx4,hI.sw,by omega,by omega,hN⟩
 ·rintro a0 a1O a1L a1C a2O a2L a2C a3O a3L a3C w2 hs3 ⟨V,m2,K,hv,hK2,sw,k0,k1,hN⟩ wr4 hx4 hs4
  simp only [encW,List.cons.injEq,Value.int.injEq,Value.slice.injEq,true_and,and_true] at hv
  obtain ⟨rfl,⟨rfl,rfl,rfl⟩,⟨rfl,rfl,rfl⟩,rfl,rfl,rfl⟩:=hv
  have hK4:=hK2.step hx4
  refine Calls.mono (zfl hK4.own sw k0 (by omega) hK4.base) ?_
  rintro e3 wv3 ⟨m3,he3,hy5⟩
  rw [hN] at he3 hy5
  exact ⟨_,_,_,_,_,_,_,_,_,_,he3,hK4.kept hy5 hs4,fun wr8 hx8=>AnsW.ok hW hb ((hK4.deed hy5 hs4).step hx8)⟩
end
theorem zyi {W:Wld} {g:Int} {x y:Grp}:setGr (setGr W g x) g y=setGr W g y:=by simp [setGr,List.set_set]
def chH (W:Wld) (c n g:Int):Grp:={ gi W.groups g with shelves:=(gi W.groups g).shelves.set c.toNat (chS W c n g),sum:=(gi W.groups g).sum+n }
theorem chGU {W:Wld} {c n g:Int} (u0:0<=g) (u1:g<(W.groups.length:Int)):setGr (chA W c n g) g (chU W c n g)=setGr W g (chH W c n g):=by
 unfold chU
 rw [z5e u0 u1]
 exact zyi
def ch1 (W:Wld) (c n g:Int):Wld:=setSh W g c { shf W g c with sum:=(shf W g c).sum+n }
def ch2 (W:Wld) (c n g:Int):Wld:=setGr (ch1 W c n g) g { gi (ch1 W c n g).groups g with sum:=(gi W.groups g).sum+n }
theorem zagt {W:Wld} {c n g:Int} (u0:0<=g) (u1:g<(W.groups.length:Int)):gi (ch1 W c n g).groups g={ gi W.groups g with shelves:=(gi W.groups g).shelves.set c.toNat { shf W g c with sum:=(shf W g c).sum+n } }:=z9o u0 u1
theorem zabi {W:Wld} {c n g:Int} (u0:0<=g) (u1:g<(W.groups.length:Int)):ch2 W c n g=setGr W g { gi W.groups g with shelves:=(gi W.groups g).shelves.set c.toNat { shf W g c with sum:=(shf W g c).sum+n },sum:=(gi W.groups g).sum+n }:=by
 unfold ch2
 rw [zagt u0 u1]
 exact zyi
theorem zahj (W:Wld) (c n g:Int):(ch2 W c n g).groups.length=W.groups.length:=by simp [ch2,ch1,setGr,setSh]
theorem zabj {W:Wld} {c n g:Int} (u0:0<=g) (u1:g<(W.groups.length:Int)):gi (ch2 W c n g).groups g={ gi W.groups g with shelves:=(gi W.groups g).shelves.set c.toNat { shf W g c with sum:=(shf W g c).sum+n },sum:=(gi W.groups g).sum+n }:=by
 rw [zabi u0 u1,zex u0 u1 u0,if_pos rfl]
theorem zahk {W:Wld} {c n g:Int} (u0:0<=g) (u1:g<(W.groups.length:Int)) (c0:0<=c) (c1:c<((gi W.groups g).shelves.length:Int)):shf (ch2 W c n g) g c={ shf W g c with sum:=(shf W g c).sum+n }:=by
 unfold shf
 rw [zabj u0 u1]
 exact (za4 _ _ c0 c1 c0).trans (if_pos rfl)
theorem zae2 {W:Wld} {c n:Int} (u1:(0:Int)<(W.groups.length:Int)):ch2 W c n 0=setGr (chA W c n 0) 0 (chU W c n 0):=by
 rw [zabi (Int.le_refl _) u1,chGU (Int.le_refl _) u1]
 unfold chH chS
 rw [if_neg (by simp)]
theorem zae1 {W:Wld} {c n g:Int} (u0:0<=g) (u1:g<(W.groups.length:Int)):setSh (ch2 W c n g) g c (chS W c n g)=setGr (chA W c n g) g (chU W c n g):=by
 rw [chGU u0 u1]
 unfold setSh
 rw [zabj u0 u1,zabi u0 u1,zyi]
 dsimp only
 rw [List.set_set]
 rfl
def z0n (W:Wld) (g:Int):List Int:=if g = -1 then [] else zbk W.groups g++[0]
theorem zaav {W:Wld} (ht:zeb W.groups) {g:Int} (hu:zae W.groups g=true):z0n W g=g::z0n W (gi W.groups g).parent:=by
 have h0:=(zac.1 hu).1
 unfold z0n
 rw [if_neg (by omega)]
 by_cases hz:g=0
 ·subst hz
  rw [ht.rp,if_pos rfl,show zbk W.groups 0=[] from zbm _ _]; rfl
 ·have hp:=(zac.1 (zd4 ht hu hz).1).1
  rw [zcf ht hu hz,if_neg (by omega)]; rfl
def muB (W:Wld) (vs:List Value) (_:World):Nat:=match vs with
 | [_,.int _ g]=>(zbk W.groups g).length
 | _=>0
def muC (W:Wld) (vs:List Value) (_:World):Nat:=match vs with
 | [.int _ g]=>(z0n W g).length
 | _=>0
section
variable {base pb:Nat} {W:Wld} {m:MW} {w:World}
set_option maxHeartbeats 4000000 in
theorem ztc {K S t c left:Int} (h:PW base pb w W m) (sw:SW K W) (rb:RB S W) (hK:0<=K/\K<=60000000000000000) (hS:0<=S/\S<=60000000000000000) (c0:0<=c) (c1:c<(W.cpus.length:Int)) (up:(gi W.cpus c).up=true) (ran:(gi W.cpus c).ran<50) (t0:0<=t) (t1:t<12) (hu:zae W.groups (tkk W t).group=true)
  (n0:0<=mstL W c (pthR W t) left) (n1:mstL W c (pthR W t) left<=100) :
  Calls Tryz.prog ze5 #[.agg #[.pointer (pA pb),.int .i64 c],.int .i64 t,.int .i64 left] w fun e w'=>e = .returned (.int .i64 (mstL W c (pthR W t) left))/\Mp base pb [] w m w' (chW W c t (mstL W c (pthR W t) left)) m:=by
 obtain ⟨sE,rE,_,_,hlE,_,s1,r1,cp1⟩:=zwc sw rb (by omega) c0 c1 up ran t0 t1 hu n0 n1
 obtain ⟨pin,plen⟩:=zye sw.a hu
 have hM0:=Mp.start h
 have htl:=sw.a.t
 have hgl:=sw.a.gl
 have hlg:lagB=34686091440:=rfl
 generalize hN:mstL W c (pthR W t) left=n at sE rE hlE s1 r1 cp1 n0 n1
 refine (zr9 (pA pb) c t left (R:=fun v w'=>v = .int .i64 n/\Mp base pb [] w m w' (chW W c t n) m) ?_).mono fun e w' ⟨v,he,hv,h3⟩=>⟨by rw [he,hv],h3⟩
 intro b hb
 have hM:=hM0.add hb
 have hp:=hM0.wpt
 have htv:=sw.tv t t0 t1
 have htr:=rb.t t t0 t1
 have hv:=zln n (zai (tkk W t).nice) n0 n1
 refine ⟨hp.some,_,_,_,hp.tasks,hp.rd.t.ix zce t0 (by omega),_,hp.rd.t.f t0 (by omega) (j:=1) rfl,?_⟩
 refine ⟨fun vs w2=>∃u g,vs=[.int .i64 u,.int .i64 g]/\zae W.groups g=true/\Mp base pb [b] w m w2 W m/\mstL W c (zbk W.groups g++[0]) u=n,muB W,fun wr hx _=>⟨left,_,rfl,hu,hM.call0 hx,hN⟩,?_⟩
 rintro u9 g9 w2 hs2 ⟨u,g,he,hug,hM2,hE⟩
 simp only [List.cons.injEq,Value.int.injEq,true_and,and_true] at he
 obtain ⟨rfl,rfl⟩:=he
 have hp2:=hM2.wpt
 obtain ⟨u0,u1,hgg⟩:=sw.a.u hug
 have hlt2:g9<(W.groups.length:Int):=by omega
 refine ⟨fun gz => ?_,fun gz => ?_⟩
 ·have gz:g9≠0:=by simpa using gz
  have hps:=zcf sw.a.tree hug gz
  have hup:=(zd4 sw.a.tree hug gz).1
  rw [hps] at hE
  have hE:mstL W c (zbk W.groups (gi W.groups g9).parent++[0]) (mstG W c g9 u9)=n:=hE
  have hmu:∀{u':Int} {w8 w9:World},muB W [.int .i64 u',.int .i64 (gi W.groups g9).parent] w8<muB W [.int .i64 u9,.int .i64 g9] w9:=by
   intro u' w8 w9
   show (zbk W.groups (gi W.groups g9).parent).length<(zbk W.groups g9).length
   rw [hps]; exact Nat.lt_succ_self _
  refine ⟨hp2.some,_,_,_,hp2.groups,hp2.rd.g.ix u0 hlt2,_,_,_,_,_,_,_,_,_,hp2.rd.g.band u0 hlt2,fun b1 hb1=>⟨fun gq => ?_,fun gq => ?_⟩⟩
  ·have gq:(gi W.groups g9).band.quota>0:=of_decide_eq_true gq
   obtain ⟨hb3,hbl,_⟩:=hgg.band (by omega)
   have hLo:=hp2.rd.g.locals g9 u0 hlt2
   have hmG:mstG W c g9 u9=if gi (gi W.groups g9).band.locals c<u9 then gi (gi W.groups g9).band.locals c else u9:=by
    unfold mstG minI
    rw [if_pos gq]
    split <;> split <;> omega
   rw [hmG] at hE
   exact ⟨hLo.ix zf2 c0 (by omega),_,hLo c c0 (by omega),hp2.some,_,_,_,hp2.groups,hp2.rd.g.ix u0 hlt2,_,hp2.rd.g.parent u0 hlt2,fun wr1 hx1 _=>⟨⟨_,_,rfl,hup,hM2.step hx1,hE⟩,hmu⟩⟩
  ·have gq:¬(gi W.groups g9).band.quota>0:=of_decide_eq_false gq
   have hmG:mstG W c g9 u9=u9:=by unfold mstG; rw [if_neg gq]
   rw [hmG] at hE
   exact ⟨hp2.some,_,_,_,hp2.groups,hp2.rd.g.ix u0 hlt2,_,hp2.rd.g.parent u0 hlt2,fun wr1 hx1 _=>⟨⟨_,_,rfl,hup,hM2.step hx1,hE⟩,hmu⟩⟩
 have gz:g9=0:=by simpa using gz
 subst gz
 rw [show zbk W.groups 0=[] from zbm _ _,List.nil_append] at hE
 have hE:u9=n:=by
  have e0:mstL W c [0] u9=mstG W c 0 u9:=rfl
  rw [e0] at hE
  unfold mstG at hE
  rwa [if_neg (by have:=(hgg.root rfl).2.2; omega)] at hE
 subst hE
 clear hgg hlt2 u0 u1 hug
 have eA:MWd 8 base _ (setTk W t { tkk W t with v:=(tkk W t).v+zbn u9 (zai (tkk W t).nice) }) m:=hM2.own.stoT t0 (by omega) (j:=5) (vs:=[.int .i64 ((tkk W t).v+zbn u9 (zai (tkk W t).nice))]) (x:={ tkk W t with v:=(tkk W t).v+zbn u9 (zai (tkk W t).nice) }) rfl (by simp)
 have hMA:=hM2.deed eA subT (z24 _ _ _ _)
 have gA:∀x:Tsk,gi (setTk W t x).tasks t=x:=fun x=>zahd t0 (by omega)
 have lA:∀x:Tsk,t<((setTk W t x).tasks.length:Int):=fun x=>by rw [zadn]; omega
 have eB:MWd 8 base _ (setTk (setTk W t { tkk W t with v:=(tkk W t).v+zbn u9 (zai (tkk W t).nice) }) t { tkk W t with v:=(tkk W t).v+zbn u9 (zai (tkk W t).nice),sum:=(tkk W t).sum+u9 }) m:=hMA.own.stoT t0 (lA _) (j:=6) (vs:=[.int .i64 ((tkk W t).sum+u9)]) (x:={ tkk W t with v:=(tkk W t).v+zbn u9 (zai (tkk W t).nice),sum:=(tkk W t).sum+u9 }) (by rw [gA]; rfl) (by simp)
 have hMB:=hMA.deed eB subT (z24 _ _ _ _)
 rw [set_set] at hMB
 have eC:MWd 8 base _ (setTk (setTk W t { tkk W t with v:=(tkk W t).v+zbn u9 (zai (tkk W t).nice),sum:=(tkk W t).sum+u9 }) t (chT W t u9)) m:=hMB.own.stoT t0 (lA _) (j:=7) (vs:=[.int .i64 ((tkk W t).used+u9)]) (x:=chT W t u9) (by rw [gA]; rfl) (by simp)
 have hMC:=hMB.deed eC subT (z24 _ _ _ _)
 rw [set_set] at hMC
 have rA:=hMA.wpt.rd.t.f t0 (lA _) (j:=6) rfl
 rw [gA] at rA
 have rB:=hMB.wpt.rd.t.f t0 (lA _) (j:=7) rfl
 rw [gA] at rB
 have rC:=hMC.wpt.rd.t.f t0 (lA _) (j:=1) rfl
 rw [gA] at rC
 refine ⟨_,hp2.rd.t.f t0 (by omega) (j:=5) rfl,_,hp2.rd.t.f t0 (by omega) (j:=3) rfl,_,zjy,_,zdx,⟨?_,?_⟩,wrT hM2.own hM2.nb t0 (by omega) (j:=5) (by decide),_,rA,⟨?_,?_⟩,wrT hMA.own hMA.nb t0 (lA _) (j:=6) (by decide),_,rB,⟨?_,?_⟩,wrT hMB.own hMB.nb t0 (lA _) (j:=7) (by decide),_,rC,?_⟩
 ·show _<=(tkk W t).v+zbn u9 (zai (tkk W t).nice); omega
 ·show (tkk W t).v+zbn u9 (zai (tkk W t).nice)<=_; omega
 ·show _<=(tkk W t).sum+u9; omega
 ·show (tkk W t).sum+u9<=_; omega
 ·show _<=(tkk W t).used+u9; omega
 ·show (tkk W t).used+u9<=_; omega
 refine ⟨fun vs w2=>∃(k:Nat) (g:Int) (V:Wld),vs=[.int .i64 g]/\k+(z0n W g).length<=4/\(g≠-1->zae W.groups g=true)/\Mp base pb [b] w m w2 V m/\chL c u9 (pthR W t) (setTk W t (chT W t u9))=chL c u9 (z0n W g) V/\ChP (K+lagB+lagB*(k:Int)) (S+100+100*(k:Int)) c u9 (setTk W t (chT W t u9)) V,muC W,fun wr hx _=>⟨0,(tkk W t).group,_,rfl,?_,fun _=>hu,hMC.step hx,?_,⟨s1.mono (by simp),r1.mono (by simp),rfl,rfl,rfl,zb6.refl _,fun _ _=>rfl⟩⟩,?_⟩
 ·have hg0:=(zac.1 hu).1
  unfold z0n
  rw [if_neg (by omega)]
  have:(zbk W.groups (tkk W t).group++[0]).length<=4:=plen
  omega
 ·have hg0:=(zac.1 hu).1
  unfold z0n
  rw [if_neg (by omega)]; rfl
 rintro g9 w3 hs3 ⟨k,g,V,he,hk,hug,hM3,hE,hC⟩
 simp only [List.cons.injEq,Value.int.injEq,true_and,and_true] at he
 subst he
 have hp3:=hM3.wpt
 have hclV:V.cpus.length=W.cpus.length:=by rw [hC.cp]; rfl
 have hTG:zb6 W.groups V.groups:=hC.g
 have hkk:0<=lagB*(k:Int)/\lagB*(k:Int)<=138744365760:=by simp only [lagB]; omega
 have hk1:lagB*((k+1:Nat):Int)=lagB*(k:Int)+lagB:=by simp only [lagB]; omega
 refine ⟨fun gz => ?_,fun gz => ?_⟩
 ·have gz:g9≠-1:=by simpa using gz
  have hug:=hug gz
  have hug':zae V.groups g9=true:=by rw [hTG.usd]; exact hug
  obtain ⟨u0,u1,hgg⟩:=hC.sw.a.u hug'
  have hglV:=hC.sw.a.gl
  have hlt2:g9<(V.groups.length:Int):=by omega
  have hsl:=hC.sw.a.sl hug'
  have cV:c<(V.cpus.length:Int):=by rw [hclV]; exact c1
  have hcs:c<((gi V.groups g9).shelves.length:Int):=by omega
  have hrs:=zaav sw.a.tree hug
  rw [hrs,List.length_cons] at hk
  rw [hrs,z2x] at hE
  have hC2:=hC.trans (z8p hC.sw hC.rb (by omega) c0 cV hug' n0 n1)
  have hC3:ChP (K+lagB+lagB*((k+1:Nat):Int)) (S+100+100*((k+1:Nat):Int)) c u9 (setTk W t (chT W t u9)) (chG V c u9 g9):=⟨hC2.sw.mono (by omega),hC2.rb.mono (by omega),hC2.now,hC2.t,hC2.cp,hC2.g,hC2.p⟩
  have hsv:=hC.sw.s g9 c hug' c0 cV
  have hsr:=hC.rb.s g9 c hug' c0 cV
  have hgr:=hC.rb.g g9 hug'
  have hv2:=zln u9 (shf V g9 c).w n0 n1
  have hsh:=hp3.sh u0 hlt2 c0 hcs
  have e1:MWd 8 base (sto w3 (shO m g9 c) (0+4) [.int .i64 ((shf V g9 c).sum+u9)]) (ch1 V c u9 g9) m:=hM3.own.shSto u0 u1 c0 hcs (j:=4) (vs:=[.int .i64 ((shf V g9 c).sum+u9)]) rfl (by simp)
  have ec1:encW (ch1 V c u9 g9) m=encW V m:=by simp [encW,ch1,setSh,setGr]
  have hM4:=hM3.deed e1 (zaa0 u0 u1) ec1
  have hl1:(ch1 V c u9 g9).groups.length=V.groups.length:=by simp [ch1,setSh,setGr]
  have hM5:Mp base pb [b] w m _ (ch2 V c u9 g9) m:=hM4.grf u0 u1 (G:={ gi (ch1 V c u9 g9).groups g9 with sum:=(gi V.groups g9).sum+u9 }) rfl rfl rfl (j:=7) (vs:=[.int .i64 ((gi V.groups g9).sum+u9)]) rfl (by simp)
  have hp4:=hM4.wpt
  have hsum:zaa [b] (sto w3 (shO m g9 c) (0+4) [.int .i64 ((shf V g9 c).sum+u9)]) m.gO (Int.toNat g9*14+7) [.int .i64 (gi V.groups g9).sum]:=by
   have:=(hp4.rd.g.cells g9 u0 (by rw [hl1]; exact hlt2)).get 7 _ rfl
   rwa [zagt u0 hlt2] at this
  have hgrp4:=hp4.groups
  rw [hl1] at hgrp4
  have hix4:Ix m.gO V.groups.length g9:=hp3.rd.g.ix u0 hlt2
  have hwr4:=wrG hM4.own hM4.nb (i:=g9) u0 (by omega) (j:=7) (k:=1) (by decide)
  refine ⟨_,zbh hp3 u0 hlt2 c0 hcs,hsh.1,_,hsh.2 (j:=4) rfl,⟨by omega,by omega⟩,hsh.1,hM3.own.shWr hM3.nb u0 u1 c0 hcs (j:=4) (by decide),hp3.some,_,_,_,hgrp4,hix4,_,hsum,⟨by omega,by omega⟩,hix4,hwr4,fun _ _ w5=>Mp base pb [b] w m w5 (setGr (chA V c u9 g9) g9 (chU V c u9 g9)) m,⟨fun g1 => ?_,fun g1 wr5 hx5 _ => ?_⟩,?_⟩
  ·have hp5:=hM5.wpt
   have hl2:=zahj V c u9 g9
   have hs2:=zahk (n:=u9) u0 hlt2 c0 hcs
   have hcs2:c<((gi (ch2 V c u9 g9).groups g9).shelves.length:Int):=by
    rw [zabj u0 hlt2]
    show c<(((gi V.groups g9).shelves.set c.toNat _).length:Int)
    rw [List.length_set]; exact hcs
   have hsh5:=hp5.sh u0 (by rw [hl2]; exact hlt2) c0 hcs2
   have v1:=hsh5.2 (j:=2) rfl
   have v2:=hsh5.2 (j:=3) rfl
   rw [hs2] at v1 v2
   have g1:g9≠0:=by simpa using g1
   have hsS:chS V c u9 g9={ shf V g9 c with v:=(shf V g9 c).v+zbn u9 (shf V g9 c).w,sum:=(shf V g9 c).sum+u9 }:=by unfold chS; rw [if_pos g1]
   have e6:MWd 8 base _ (setSh (ch2 V c u9 g9) g9 c (chS V c u9 g9)) m:=hM5.own.shSto u0 u1 c0 hcs2 (j:=2) (vs:=[.int .i64 ((shf V g9 c).v+zbn u9 (shf V g9 c).w)]) (by rw [hs2,hsS]; rfl) (by simp)
   have hM6:=hM5.deed e6 (zaa0 u0 u1) (by simp [encW,setSh,setGr])
   rw [zae1 u0 hlt2] at hM6
   exact ⟨hsh.1,_,v1,hsh.1,_,v2,_,zdx,⟨by show _<=(shf V g9 c).v+zbn u9 (shf V g9 c).w; omega,by show (shf V g9 c).v+zbn u9 (shf V g9 c).w<=_; omega⟩,hsh.1,hM5.own.shWr hM5.nb u0 u1 c0 hcs2 (j:=2) (by decide),fun wr5 hx5 _=>hM6.step hx5⟩
  ·have g1:g9=0:=by simpa using g1
   subst g1
   rw [<-zae2 hlt2]
   exact hM5.step hx5
  intro w5 hs5 hM6
  have hgb:=zuo (c:=c) (n:=u9) u0 hlt2
  have hgi:=z8q (c:=c) (n:=u9) u0 hlt2
  have hl5:(setGr (chA V c u9 g9) g9 (chU V c u9 g9)).groups.length=V.groups.length:=by simp only [setGr,List.length_set]; exact zpk _ _ _ _
  have hnone:=z2w (c:=c) (n:=u9) u0 hlt2
  have hdef:chG V c u9 g9=setBd (setGr (chA V c u9 g9) g9 (chU V c u9 g9)) g9 (chB V c u9 g9):=rfl
  have hpar:(gi (setGr (chA V c u9 g9) g9 (chU V c u9 g9)).groups g9).parent=(gi W.groups g9).parent:=by
   rw [hgi]
   unfold chU
   rw [z5e u0 hlt2]
   exact hTG.p g9
  generalize setGr (chA V c u9 g9) g9 (chU V c u9 g9)=V5 at hM6 hgi hl5 hnone hdef hpar
  have hp6:=hM6.wpt
  have hg5:g9<(V5.groups.length:Int):=by rw [hl5]; exact hlt2
  have hq5:=hp6.rd.g.quo (i:=g9) u0 hg5
  rw [hgi,hgb] at hq5
  have hmu:∀{w8 w9:World},muC W [.int .i64 (gi W.groups g9).parent] w8<muC W [.int .i64 g9] w9:=by
   intro w8 w9
   show (z0n W (gi W.groups g9).parent).length<(z0n W g9).length
   rw [hrs]; exact Nat.lt_succ_self _
  have hun:(gi W.groups g9).parent≠-1->zae W.groups (gi W.groups g9).parent=true:=fun hne=>by
   by_cases hz:g9=0
   ·subst hz; exact absurd sw.a.tree.rp hne
   ·exact (zd4 sw.a.tree hug hz).1
  refine ⟨hp6.some,_,_,_,hp6.groups,hp6.rd.g.ix u0 hg5,_,hq5,fun g2 wr6 hx6 hs6 => ?_,fun g2 => ?_⟩
  ·have g2:(gi V.groups g9).band.quota>0:=of_decide_eq_true g2
   have hB:chB V c u9 g9=(zdd (gi V.groups g9).band ⟨2,c,u9⟩).1:=by unfold chB; rw [if_pos g2]
   rw [hB] at hdef
   obtain ⟨hb3,hbl,_⟩:=hgg.band (by omega)
   have hM7:=hM6.step hx6
   have hown:MWd 8 base wr6 (setBd V5 g9 (gi V.groups g9).band) m:=by
    have:(gi V5.groups g9).band=(gi V.groups g9).band:=by rw [hgi,hgb]
    rw [<-this,zoe u0 hg5]; exact hM7.own
   refine Calls.mono (zw8 (op:=⟨2,c,u9⟩) hown u0 u1 hb3) ?_
   rintro e7 wv7 ⟨he7,hB7,hX7⟩
   rw [<-hdef] at hB7
   have ecc:encW (chG V c u9 g9) m=encW V5 m:=by rw [hdef]; simp [encW,setBd,setGr]
   have hM8:=hM7.deed hB7 hX7 ecc
   have hp8:=hM8.wpt
   have hl8:(chG V c u9 g9).groups.length=V5.groups.length:=by rw [hdef]; simp [setBd,setGr]
   have hpr8:=hp8.rd.g.parent (i:=g9) u0 (by rw [hl8]; exact hg5)
   have hpe:(gi (chG V c u9 g9).groups g9).parent=(gi W.groups g9).parent:=hC2.g.p g9
   rw [hpe] at hpr8
   have hgr8:=hp8.groups
   have hix8:=hp8.rd.g.ix (i:=g9) u0 (by rw [hl8]; exact hg5)
   exact ⟨_,he7,zn8 hX7 hs6 hM7.nb,hp8.some,_,_,_,hgr8,hix8,_,hpr8,fun wr7 hx7 _=>⟨⟨k+1,_,chG V c u9 g9,rfl,by omega,hun,hM8.step hx7,hE,hC3⟩,hmu⟩⟩
  ·have g2:¬(gi V.groups g9).band.quota>0:=of_decide_eq_false g2
   have hpr6:=hp6.rd.g.parent (i:=g9) u0 hg5
   rw [hpar] at hpr6
   refine ⟨hp6.some,_,_,_,hp6.groups,hp6.rd.g.ix u0 hg5,_,hpr6,fun wr7 hx7 _=>⟨⟨k+1,_,chG V c u9 g9,rfl,by omega,hun,?_,hE,hC3⟩,hmu⟩⟩
   rw [hnone g2]
   exact hM6.step hx7
 ·have gz:g9 = -1:=by simpa using gz
  subst gz
  have hE:chL c u9 (pthR W t) (setTk W t (chT W t u9))=V:=hE
  have hcV:V.cpus=W.cpus:=hC.cp
  have cV:c<(V.cpus.length:Int):=by rw [hclV]; exact c1
  have hcr:=rb.c c c0 c1
  have hs:=zl6 (n:=Int.toNat c*5) (hp3.rd.c c c0 cV)
  have e1:=hM3.own.stoC c0 cV (j:=3) (vs:=[.int .i64 ((gi W.cpus c).busy+u9)]) (x:={ gi W.cpus c with busy:=(gi W.cpus c).busy+u9 }) (by rw [hcV]; rfl) (by simp)
  have hl1:(V.cpus.set c.toNat { gi W.cpus c with busy:=(gi W.cpus c).busy+u9 }).length=V.cpus.length:=List.length_set
  have hg1:gi (V.cpus.set c.toNat { gi W.cpus c with busy:=(gi W.cpus c).busy+u9 }) c={ gi W.cpus c with busy:=(gi W.cpus c).busy+u9 }:=(za4 _ _ c0 cV c0).trans (if_pos rfl)
  have e2:=e1.stoC c0 (by simpa using cV) (j:=2) (vs:=[.int .i64 ((gi W.cpus c).ran+u9)]) (x:=chC W c u9) (by rw [hg1]; rfl) (by simp)
  have hM4:Mp base pb [b] w m _ ({ V with cpus:=V.cpus.set c.toNat { gi W.cpus c with busy:=(gi W.cpus c).busy+u9 } }:Wld) m:=hM3.deed e1 subC (by simp [encW])
  have hM5:Mp base pb [b] w m _ ({ V with cpus:=(V.cpus.set c.toNat { gi W.cpus c with busy:=(gi W.cpus c).busy+u9 }).set c.toNat (chC W c u9) }:Wld) m:=hM4.deed e2 subC (by simp [encW])
  have hW5:({ V with cpus:=(V.cpus.set c.toNat { gi W.cpus c with busy:=(gi W.cpus c).busy+u9 }).set c.toNat (chC W c u9) }:Wld)=chW W c t u9:=by
   unfold chW setCp
   rw [hE,List.set_set]
  rw [hW5] at hM5
  have hb3:=zf7 (hp3.rd.c c c0 cV) (j:=3) rfl
  rw [hcV] at hb3
  have c4:c<((({ V with cpus:=V.cpus.set c.toNat { gi W.cpus c with busy:=(gi W.cpus c).busy+u9 } }:Wld).cpus.length:Nat):Int):=by show c<((V.cpus.set c.toNat _).length:Int); rw [hl1]; exact cV
  have hp4:=hM4.wpt
  have hr4:=zf7 (hp4.rd.c c c0 c4) (j:=2) rfl
  rw [show gi ({ V with cpus:=V.cpus.set c.toNat { gi W.cpus c with busy:=(gi W.cpus c).busy+u9 } }:Wld).cpus c=_ from hg1] at hr4
  have hcp4:=zhx hp4 c0 c4
  refine ⟨_,zhx hp3 c0 cV,hs,_,hb3,⟨by show _<=(gi W.cpus c).busy+u9; omega,by show (gi W.cpus c).busy+u9<=_; omega⟩,hs,zmb.2 (wrC hM3.own hM3.nb c0 cV (by decide)),?_⟩
  rw [zj7]
  refine ⟨_,hcp4,hs,_,hr4,⟨by show _<=(gi W.cpus c).ran+u9; omega,by show (gi W.cpus c).ran+u9<=_; omega⟩,hs,zmb.2 (wrC e1 hM3.nb c0 c4 (by decide)),?_⟩
  rw [zj7]
  exact fun wr9 hx9=>⟨rfl,(hM5.step hx9).close⟩
end
set_option maxRecDepth 100000
set_option maxHeartbeats 1600000
def cO:Code->Code
 | .loop c=>c
 | c=>c
noncomputable def zig (l:Option Nat):Cfg:={ P:=Tryz.prog,T:=zkm tbl,pf:=pfT,ef:=efT,tt:=ttT,vis:=[2,4],n:=52,pm:=false,wr:=false,rd:=l }
noncomputable def znt:List (Nat×zea):=[]
noncomputable def zd1:Code:=(cL ((zmc Tryz.f116)))
def zic (p:Option Addr) (p1:Int) (w:World) (R:Exit->List Value->World->Prop):Prop:=
  (∀b wb,ExtX [] w wb->w.heap.size<=b->wb.heap[b]? = some (Obj.cells ([.pointer p,I p1]:List Value).toArray zio (0,0))->b∉([]:List Nat)->
  (∀b1 aa,ExtX [] wb aa->wb.heap.size<=b1->aa.heap[b1]? = some (Obj.cells ([.bool false]:List Value).toArray zdg (0,0))->b1∉([]:List Nat)->
  (∀wr,ExtX [] aa wr->R .normal [.pointer ((some (Addr.mk b 0 none)).map (·.add 0)),.pointer ((some (Addr.mk b1 0 none)).map (·.add 0))] wr)))
theorem zn1 (l:Option Nat) (p:Option Addr) (p1:Int) (w:World) (R:Exit->List Value->World->Prop):evC (zig l) znt zd1 (zjw [(0,.agg #[.pointer p,.int .i64 p1])]) w (zw3 [2,4] R)=zic p p1 w R:=by kernel_rfl
theorem zm4 (l:Option Nat) (p:Option Addr) (p1:Int) {w:World} {R:Exit->List Value->World->Prop} {Q:Exit->Act->World->Prop} {a:Act} (hn:a.tmps.size=52) (hin:z3b [(0,.agg #[.pointer p,.int .i64 p1])] a) (hvc:zic p p1 w R) (hQ:∀e vs a1 w1,R e vs w1->FrO (zf1 zd1) [2,4] a a1 vs->Q e a1 w1):zd1.wpIn (fnc l) 0 Tryz.prog Q a w:=
 zaby (C:=zig l) (env _ _ _ _ _) hn hin (by rw [zn1]; exact hvc) hQ
noncomputable def zii (l:Option Nat):Cfg:={ P:=Tryz.prog,T:=zkm tbl,pf:=pfT,ef:=efT,tt:=ttT,vis:=[],n:=52,pm:=false,wr:=false,rd:=l }
noncomputable def znv:List (Nat×zea):=[]
noncomputable def zd2:Code:=(cL (cL (cR (cR ((zmc Tryz.f116))))))
def zie (fa:Int) (p:Option Addr) (w:World) (R:Exit->List Value->World->Prop):Prop:=
  p.isSome=true/\
  (∃(aa:Option Addr),
  zaa [] w p 0 [.pointer aa]/\
  aa.isSome=true/\
  (∃(ba:Option Addr) (ca:Nat) (da:Nat),
  zaa [] w aa (0+2) [S ba ca da]/\
  Ix ba ca fa/\
  (∃(ea:Int),
  zaa [] w ba (Int.toNat fa*9+1) [I ea]/\
  (∀wr,ExtX [] w wr->R .normal [I ea] wr))))
theorem zn3 (l:Option Nat) (task:Int) (p:Option Addr) (w:World) (R:Exit->List Value->World->Prop):evC (zii l) znv zd2 (zjw [(1,.int .i64 task),(2,.pointer p)]) w (zw3 [5] R)=zie task p w R:=by kernel_rfl
theorem zm6 (l:Option Nat) (task:Int) (p:Option Addr) {w:World} {R:Exit->List Value->World->Prop} {Q:Exit->Act->World->Prop} {a:Act} (hn:a.tmps.size=52) (hin:z3b [(1,.int .i64 task),(2,.pointer p)] a) (hvc:zie task p w R) (hQ:∀e vs a1 w1,R e vs w1->FrO (zf1 zd2) [5] a a1 vs->Q e a1 w1):zd2.wpIn (fnc l) 0 Tryz.prog Q a w:=
 zaby (C:=zii l) (env _ _ _ _ _) hn hin (by rw [zn3]; exact hvc) hQ
noncomputable def zi6 (l:Option Nat):Cfg:={ P:=Tryz.prog,T:=zkm tbl,pf:=pfT,ef:=efT,tt:=ttT,vis:=[],n:=52,pm:=false,wr:=false,rd:=l }
noncomputable def zow:List (Nat×zea):=[]
noncomputable def zd9:Code:=(cL (cO (cB (cR (cL (cR (cR ((zmc Tryz.f116)))))))))
def zi5 (g:Int) (w:World) (R:Exit->List Value->World->Prop):Prop:=
  ((g != 0)=true->
  (∀wr,ExtX [] w wr->R .normal [] wr))/\
  ((g != 0)=false->
  (∀aa,ExtX [] w aa->R (.exit 0) [] aa))
theorem zox (l:Option Nat) (g:Int) (w:World) (R:Exit->List Value->World->Prop):evC (zi6 l) zow zd9 (zjw [(5,.int .i64 g)]) w (zw3 [] R)=zi5 g w R:=by kernel_rfl
theorem zoo (l:Option Nat) (g:Int) {w:World} {R:Exit->List Value->World->Prop} {Q:Exit->Act->World->Prop} {a:Act} (hn:a.tmps.size=52) (hin:z3b [(5,.int .i64 g)] a) (hvc:zi5 g w R) (hQ:∀e vs a1 w1,R e vs w1->FrO (zf1 zd9) [] a a1 vs->Q e a1 w1):zd9.wpIn (fnc l) 0 Tryz.prog Q a w:=
 zaby (C:=zi6 l) (env _ _ _ _ _) hn hin (by rw [zox]; exact hvc) hQ
noncomputable def zif (l:Option Nat):Cfg:={ P:=Tryz.prog,T:=zkm tbl,pf:=pfT,ef:=efT,tt:=ttT,vis:=[],n:=52,pm:=false,wr:=false,rd:=l }
noncomputable def zns:List (Nat×zea):=[]
noncomputable def zct:List Code:=[cL (cB (cL (cR (cO (cB (cR (cL (cR (cR ((zmc Tryz.f116))))))))))),cL (cR (cB (cL (cR (cO (cB (cR (cL (cR (cR ((zmc Tryz.f116))))))))))))]
def zib (p:Option Addr) (g:Int) (w:World) (R:Exit->List Value->World->Prop):Prop:=
  p.isSome=true/\
  (∃(aa:Option Addr),
  zaa [] w p 0 [.pointer aa]/\
  aa.isSome=true/\
  (∃(ba:Option Addr) (ca:Nat) (da:Nat),
  zaa [] w aa (0+3) [S ba ca da]/\
  Ix ba ca g/\
  (∃(ea:Int),
  zaa [] w ba (Int.toNat g*14+8+0) [I ea]/\
  ((decide (ea>0))=true->p.isSome=true)/\
  (∃(fa:Int),
  ((decide (ea>0))=true->zaa [] w p 1 [I fa])/\
  ((decide (ea>0))=true->(∀wr,ExtX [] w wr->(∀bq∈([]:List Nat),bq<wr.heap.size)->
  Calls Tryz.prog zfd #[.pointer (ba.map (·.add (Int.toNat g*14+8))),.agg #[I 1,I fa,I 0]] wr fun e wv=>
  (∃(ga:Int),
  e = .returned (I ga)/\Kept [] wr wv/\
  (∀ha,ExtX [] wv ha->R .normal [.bool ((decide (ea>0))&&(ga==2))] ha))))/\
  (((decide (ea>0))=true->False)->
  (∀ia,ExtX [] w ia->R .normal [.bool false] ia))))))
theorem zn0 (l:Option Nat) (p:Option Addr) (g:Int) (w:World) (R:Exit->List Value->World->Prop):evL (zif l) zns zct (zjw [(2,.pointer p),(5,.int .i64 g)]) w (zw3 [48] R)=zib p g w R:=by kernel_rfl
theorem zm3 (l:Option Nat) (p:Option Addr) (g:Int) {w:World} {R:Exit->List Value->World->Prop} {X:Code} {Q:Exit->Act->World->Prop} {a:Act} (hn:a.tmps.size=52) (hin:z3b [(2,.pointer p),(5,.int .i64 g)] a) (hvc:zib p g w R) (hX:∀vs a1 w1,R .normal vs w1->FrO (zoz zct) [48] a a1 vs->X.wpIn (fnc l) 0 Tryz.prog Q a1 w1) (hQ:∀e vs a1 w1,e≠.normal->R e vs w1->FrO (zoz zct) [48] a a1 vs->Q e a1 w1):(seqs zct X).wpIn (fnc l) 0 Tryz.prog Q a w:=
 zakv (C:=zif l) (env _ _ _ _ _) hn hin (by rw [zn0]; exact hvc) hX hQ
noncomputable def zih (l:Option Nat):Cfg:={ P:=Tryz.prog,T:=zkm tbl,pf:=pfT,ef:=efT,tt:=ttT,vis:=[],n:=52,pm:=false,wr:=false,rd:=l }
noncomputable def znu:List (Nat×zea):=[]
noncomputable def zcu:Code:=(cR (cR (cO (cB (cR (cL (cR (cR ((zmc Tryz.f116))))))))))
def zid (p:Option Addr) (g:Int) (w:World) (R:Exit->List Value->World->Prop):Prop:=
  p.isSome=true/\
  (∃(aa:Option Addr),
  zaa [] w p 0 [.pointer aa]/\
  aa.isSome=true/\
  (∃(ba:Option Addr) (ca:Nat) (da:Nat),
  zaa [] w aa (0+3) [S ba ca da]/\
  Ix ba ca g/\
  (∃(ea:Int),
  zaa [] w ba (Int.toNat g*14+1) [I ea]/\
  (∀wr,ExtX [] w wr->R .normal [I ea] wr))))
theorem zn2 (l:Option Nat) (p:Option Addr) (g:Int) (w:World) (R:Exit->List Value->World->Prop):evC (zih l) znu zcu (zjw [(2,.pointer p),(5,.int .i64 g)]) w (zw3 [5] R)=zid p g w R:=by kernel_rfl
theorem zm5 (l:Option Nat) (p:Option Addr) (g:Int) {w:World} {R:Exit->List Value->World->Prop} {Q:Exit->Act->World->Prop} {a:Act} (hn:a.tmps.size=52) (hin:z3b [(2,.pointer p),(5,.int .i64 g)] a) (hvc:zid p g w R) (hQ:∀e vs a1 w1,R e vs w1->FrO (zf1 zcu) [5] a a1 vs->Q e a1 w1):zcu.wpIn (fnc l) 0 Tryz.prog Q a w:=
 zaby (C:=zih l) (env _ _ _ _ _) hn hin (by rw [zn2]; exact hvc) hQ
noncomputable def zhn (l:Option Nat):Cfg:={ P:=Tryz.prog,T:=zkm tbl,pf:=pfT,ef:=efT,tt:=ttT,vis:=[],n:=52,pm:=false,wr:=false,rd:=l }
noncomputable def zms:List (Nat×zea):=[]
noncomputable def zcg:Code:=(cR (cR (cR ((zmc Tryz.f116)))))
def zhm (aa:Option Addr) (w:World) (R:Exit->List Value->World->Prop):Prop:=
  WrX [] w aa 0 1/\
  (∀wr,ExtX [] (sto w aa 0 [.bool false]) wr->R .ret [] wr)
theorem zmt (l:Option Nat) (dry:Option Addr) (w:World) (R:Exit->List Value->World->Prop):evC (zhn l) zms zcg (zjw [(4,.pointer dry)]) w (zw3 [] R)=zhm dry w R:=by kernel_rfl
theorem zmn (l:Option Nat) (dry:Option Addr) {w:World} {R:Exit->List Value->World->Prop} {Q:Exit->Act->World->Prop} {a:Act} (hn:a.tmps.size=52) (hin:z3b [(4,.pointer dry)] a) (hvc:zhm dry w R) (hQ:∀e vs a1 w1,R e vs w1->FrO (zf1 zcg) [] a a1 vs->Q e a1 w1):zcg.wpIn (fnc l) 0 Tryz.prog Q a w:=
 zaby (C:=zhn l) (env _ _ _ _ _) hn hin (by rw [zmt]; exact hvc) hQ
end Go.Proofs.YtclpmgfpjeaibaaGreatDoor
