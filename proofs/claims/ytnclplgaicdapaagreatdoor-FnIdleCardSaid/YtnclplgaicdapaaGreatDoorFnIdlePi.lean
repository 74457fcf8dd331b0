/- Part 9 of what the law FnIdle needs. -/
import Derived.Test.YtnclplgaicdapaaGreatDoorFnIdlePh
set_option linter.unusedVariables false
set_option linter.unusedSimpArgs false
set_option maxRecDepth 100000
set_option maxHeartbeats 8000000
namespace Go.Proofs.YtnclplgaicdapaaGreatDoor
open Go.RowKit
def IU(W:Q8)(t:Int)(x:Lm):Q8:={ W with tasks:=W.tasks.set t.toNat x }
def S9(W:Q8)(c:Int)(x:KI):Q8:={ W with IE:=W.IE.set c.toNat x }
def Rn(W:Q8)(g:Int)(x:ZX):Q8:={ W with ID:=W.ID.set g.toNat x }
def Rv(W:Q8)(g c:Int)(s:LR):Q8:=Rn W g { gi W.ID g with IF:=(gi W.ID g).IF.set c.toNat s }
def RL(W:Q8)(g:Int)(b:Ve):Q8:=Rn W g { gi W.ID g with IP:=b }
theorem zdm{α:Type}[Inhabited α](l:List α)(i:Int):gi l i=gi l ((i.toNat:Nat):Int):=by unfold gi; rw[Ig]
structure Z1 (gs gs':List ZX):Prop where
 len:gs'.length=gs.length
 u:∀i:Int,(gi gs' i).used=(gi gs i).used
 p:∀i:Int,(gi gs' i).parent=(gi gs i).parent
 n:∀i:Int,(gi gs' i).name=(gi gs i).name
theorem Z1.refl(gs:List ZX):Z1 gs gs:=⟨rfl,λ_=>rfl,λ_=>rfl,λ_=>rfl⟩
theorem Z1.trans{a b c:List ZX}(h:Z1 a b)(k:Z1 b c):Z1 a c:=⟨k.len.trans h.len,λi=>(k.u i).trans (h.u i),λi=>(k.p i).trans (h.p i),λi=>(k.n i).trans (h.n i)⟩
theorem Z1.cQ{gs gs':List ZX}(h:Z1 gs gs')(i:Int):Q6 gs' i=Q6 gs i:=by unfold Q6; rw[h.len,h.u]
theorem Z1.dep{gs gs':List ZX}(h:Z1 gs gs'):∀(f:Nat) (i:Int),YtnclplgaicdapaaGreatDoor.dep f gs' i=YtnclplgaicdapaaGreatDoor.dep f gs i
 | 0,i=>rfl
 | f+1,i=>by simp only[YtnclplgaicdapaaGreatDoor.dep]; rw[h.p,h.dep f]
theorem Z1.path{gs gs':List ZX}(h:Z1 gs gs'):∀(f:Nat) (i:Int),Vc f gs' i=Vc f gs i
 | 0,i=>rfl
 | f+1,i=>by simp only[Vc]; rw[h.p,h.path f]
theorem Z1.tree{gs gs':List ZX}(h:Z1 gs gs')(t:Y8 gs):Y8 gs':=
 ⟨by rw[h.len]; exact t.len,by rw[h.u]; exact t.ru,by rw[h.p]; exact t.rp,by rw[h.n]; exact t.rn,λg a b c=>by rw[h.u] at c; rw[h.n]; exact t.nm g a b c,λg a b c=>by rw[h.u] at c; rw[h.cQ,h.p]; exact t.par g a b c,
  λg a b c=>by rw[h.u] at c; rw[h.dep]; exact t.dp g a b c,λg k a b c d e=>by rw[h.u] at d e; rw[h.p,h.p,h.n,h.n]; exact t.uniq g k a b c d e⟩
theorem Xk{W:Q8}{g:Int}{x:ZX}(h0:0<=g)(h1:g<(W.ID.length:Int)){i:Int}(hi:0<=i):gi (Rn W g x).ID i=if g=i then x else gi W.ID i:=QM _ _ h0 h1 hi
theorem U9{W:Q8}{g:Int}{x:ZX}(h0:0<=g)(h1:g<(W.ID.length:Int))(u:x.used=(gi W.ID g).used)(p:x.parent=(gi W.ID g).parent)(n:x.name=(gi W.ID g).name):Z1 W.ID (Rn W g x).ID:=by
 have key:∀i:Int,gi (Rn W g x).ID i=if g=((i.toNat:Nat):Int) then x else gi W.ID i:=λi=>by
  rw[zdm,Xk h0 h1 Qo,<-zdm W.ID i]
 refine⟨E',λi=>?_,λi=>?_,λi=>?_⟩
 all_goals
  rw[key];split
  ·rename_i e;rw[zdm W.ID i,<-e]; assumption
  ·rfl
theorem WA.set{W:Q8}(ha:WA W){g:Int}{x:ZX}(h0:0<=g)(h1:g<8)(u:x.used=(gi W.ID g).used)(p:x.parent=(gi W.ID g).parent)(n:x.name=(gi W.ID g).name)(hN:x.used=false->zv0 x)(hU:x.used=true->zpm W g x):WA (Rn W g x):=by
 have hl:=ha.gl;refine⟨ha.n1,ha.n2,ha.c1,ha.c2,ha.t,(U9 h0 Qo u p n).tree ha.tree,ha.ups,λk k0 k1=>?_⟩;show Kn (Rn W g x) k;unfold Kn;rw[Xk h0 Qo k0]
 by_cases e:g=k
 ·subst e;rw[C' rfl];exact⟨hN,λhu=>by have:=hU hu; exact⟨this.w1,this.w2,this.m,this.m0,this.s,this.len,this.root,this.none,this.IP⟩⟩
 ·rw[B' e];have:=ha.grp k k0 k1;exact⟨this.1,λhu=>by have:=this.2 hu; exact⟨this.w1,this.w2,this.m,this.m0,this.s,this.len,this.root,this.none,this.IP⟩⟩
theorem WA.Rv{W:Q8}(ha:WA W){g c:Int}{s:LR}(h0:0<=g)(h1:g<8):WA (Rv W g c s):=by
 have hg:=ha.grp g h0 h1;refine ha.set h0 h1 rfl rfl rfl (λhu=>?_) λhu=>?_
 ·have:=hg.1 hu;exact⟨this.p,this.n,this.w,this.c,this.pe,this.ne,this.s,by rw[E']; exact this.l,this.b⟩
 ·have:=hg.2 hu;exact⟨this.w1,this.w2,this.m,this.m0,this.s,by rw[E']; exact this.len,this.root,this.none,this.IP⟩
theorem Jw{W:Q8}{g c:Int}{s:LR}(h0:0<=g)(h1:g<(W.ID.length:Int))(c0:0<=c)(c1:c<((gi W.ID g).IF.length:Int)){i d:Int}(hi:0<=i)(hd:0<=d):Qa (Rv W g c s) i d=if g=i/\c=d then s else Qa W i d:=by
 unfold Qa YtnclplgaicdapaaGreatDoor.Rv;rw[Xk h0 h1 hi]
 by_cases e:g=i
 ·subst e;rw[C' rfl,QM _ _ c0 c1 hd]
  by_cases e2:c=d
  ·rw[C' e2,C' ⟨rfl,e2⟩]
  ·rw[B' e2,B' (λh=>e2 h.2)]
 ·rw[B' e,B' (λh=>e h.1)]
theorem YL{W:Q8}{g c:Int}{s:LR}(h0:0<=g)(h1:g<(W.ID.length:Int)):Z1 W.ID (Rv W g c s).ID:=U9 h0 h1 rfl rfl rfl
theorem HD{W:Q8}{g c:Int}{s:LR}(h0:0<=g)(h1:g<(W.ID.length:Int)){i d:Int}(hi:0<=i):Yx (Rv W g c s) i d=Yx W i d:=by
 unfold Yx YtnclplgaicdapaaGreatDoor.Rv;rw[Xk h0 h1 hi];split
 ·rename_i e; subst e; rfl
 ·rfl
theorem zja{W:Q8}{g c:Int}{s:LR}(h0:0<=g)(h1:g<(W.ID.length:Int)){i:Int}(hi:0<=i):(gi (Rv W g c s).ID i).IP=(gi W.ID i).IP:=by
 unfold YtnclplgaicdapaaGreatDoor.Rv;rw[Xk h0 h1 hi];split
 ·rename_i e; subst e; rfl
 ·rfl
theorem HR{W:Q8}{g c:Int}{s:LR}(h0:0<=g)(h1:g<(W.ID.length:Int)){i:Int}(hi:0<=i):(gi (Rv W g c s).ID i).IF.length=(gi W.ID i).IF.length:=by
 unfold YtnclplgaicdapaaGreatDoor.Rv;rw[Xk h0 h1 hi];split
 ·rename_i e; subst e; simp
 ·rfl
structure SW (K:Int) (W:Q8):Prop where
 a:WA W
 t:∀t:Int,0<=t->t<12->(Q7 W t).state≠0->Q6 W.ID (Q7 W t).group=true/\0<=(Q7 W t).IZ/\(Q7 W t).IZ<(W.IE.length:Int)
 tv:∀t:Int,0<=t->t<12->0<=(Q7 W t).v/\(Q7 W t).v<=K
 s:∀k c:Int,Q6 W.ID k=true->0<=c->c<(W.IE.length:Int)->0<=(Qa W k c).floor/\(Qa W k c).floor<=K/\0<=(Qa W k c).v/\(Qa W k c).v<=K/\1<=(Qa W k c).w/\(Qa W k c).w<=20
 cu:∀c:Int,0<=c->c<(W.IE.length:Int)->-1<=(gi W.IE c).cur/\(gi W.IE c).cur<12
structure SF (F K:Int) (W:Q8):Prop where
 w:SW K W
 f:∀k c:Int,Q6 W.ID k=true->0<=c->c<(W.IE.length:Int)->(Qa W k c).floor<=F
theorem SW.mono{K K':Int}{W:Q8}(h:SW K W)(hk:K<=K'):SW K' W:=
 ⟨h.a,h.t,λt a b=>by have:=h.tv t a b; omega,λk c u a b=>by have:=h.s k c u a b; omega,h.cu⟩
theorem SW.sf{K:Int}{W:Q8}(h:SW K W):SF K K W:=⟨h,λk c u a b=>(h.s k c u a b).2.1⟩
theorem SF.mono{F K F' K':Int}{W:Q8}(h:SF F K W)(hf:F<=F')(hk:K<=K'):SF F' K' W:=⟨h.w.mono hk,λk c u a b=>by have:=h.f k c u a b; omega⟩
theorem SW.li{K:Int}{W:Q8}(h:SW K W){t:Int}(t0:0<=t)(t1:t<(W.tasks.length:Int))(hs:(Q7 W t).state=1):Q6 W.ID (Q7 W t).group=true/\0<=(Q7 W t).IZ/\(Q7 W t).IZ<(W.IE.length:Int):=by
 have hl:=h.a.t;exact h.t t t0 Qo Qo
theorem SF.Rv{F K:Int}{W:Q8}(h:SF F K W){g c:Int}{s:LR}(hu:Q6 W.ID g=true)(c0:0<=c)(c1:c<(W.IE.length:Int))(f0:0<=s.floor)(f1:s.floor<=F)(fk:s.floor<=K)(v0:0<=s.v)(v1:s.v<=K)(w1:1<=s.w)(w2:s.w<=20):SF F K (Rv W g c s):=by
 obtain⟨u0,u1,_⟩:=Q4.1 hu;have hl:=h.w.a.gl;have hs:=h.w.a.sl hu;have hT:=YL (W:=W) (g:=g) (c:=c) (s:=s) u0 u1
 have e:∀k d:Int,Q6 (YtnclplgaicdapaaGreatDoor.Rv W g c s).ID k=true->0<=d->Qa (YtnclplgaicdapaaGreatDoor.Rv W g c s) k d=if g=k/\c=d then s else Qa W k d:=λk d uk hd=>by
  rw[hT.cQ] at uk;exact Jw u0 u1 c0 Qo (Q4.1 uk).1 hd
 refine⟨⟨h.w.a.Rv u0 Qo,λt a b n=>by rw[hT.cQ]; exact h.w.t t a b n,h.w.tv,λk d uk a b=>?_,h.w.cu⟩,λk d uk a b=>?_⟩
 ·rw[e k d uk a];rw[hT.cQ] at uk;split
  ·exact⟨f0,fk,v0,v1,w1,w2⟩
  ·exact h.w.s k d uk a b
 ·rw[e k d uk a];rw[hT.cQ] at uk;split
  ·exact f1
  ·exact h.f k d uk a b
def Y9(W:Q8)(k c:Int):LR:=
 { Qa W k c with
  v:=if (QJ W k c && !Yx W k c)=true/\(Qa W k c).on=false then (Qa W (gi W.ID k).parent c).floor+ZT ((Qa W k c).v-(Qa W (gi W.ID k).parent c).floor) (Qa W k c).w else (Qa W k c).v
  on:=QJ W k c && !Yx W k c }
def Zk(W:Q8)(c d:Int):Nat->Q8
 | 0=>W
 | k+1=>if (gi (Zk W c d k).ID (k:Int)).used=true/\dep 3 (Zk W c d k).ID (k:Int)=d then Rv (Zk W c d k) (k:Int) c (Y9 (Zk W c d k) (k:Int) c) else Zk W c d k
theorem zuq{W:Q8}{c d:Int}(h:d≠0):Zk W c d 1=W:=by
 show (if (gi W.ID ((0:Nat):Int)).used=true/\dep 3 W.ID ((0:Nat):Int)=d then _ else W)=W;refine B' λhc=>h ?_
 have:=hc.2;rw[show (((0:Nat):Int))=0 from rfl,Yj] at this;exact this.symm
def X4(W:Q8)(c:Int):Nat->Q8
 | 0=>W
 | j+1=>Zk (X4 W c j) c (3-(j:Int)) 8
def QI(W:Q8)(c:Int):Q8:=X4 W c 3
abbrev Qi:Int:=34686091440
theorem zxy{F K:Int}{W:Q8}(h:SF F K W)(hk:F+Qi<=K){k c d:Int}(hu:Q6 W.ID k=true)(hd:dep 3 W.ID k=d)(d1:1<=d)(c0:0<=c)(c1:c<(W.IE.length:Int)):SF F K (Rv W k c (Y9 W k c)):=by
 have hz:k≠0:=λe=>by subst e; rw[Yj] at hd; omega
 have hp:=h.w.a.up hu hz;have s1:=h.w.s k c hu c0 c1;have s2:=h.w.s _ c hp c0 c1;have f1:=h.f k c hu c0 c1;have f2:=h.f _ c hp c0 c1;have lc:=ZH ((Qa W k c).v-(Qa W (gi W.ID k).parent c).floor) (Qa W k c).w;have lm:=Y0 (Qa W k c).w;refine h.Rv hu c0 c1 s1.1 f1 (by show (Qa W k c).floor<=K; omega) ?_ ?_ s1.2.2.2.2.1 s1.2.2.2.2.2
 ·simp only[Y9]; split <;> omega
 ·simp only[Y9]; simp only[Qi] at hk; split <;> omega
structure Ut (W W':Q8):Prop where
 n:W'.now=W.now
 c:W'.IE=W.IE
 t:W'.tasks=W.tasks
 g:Z1 W.ID W'.ID
 b:∀i:Int,0<=i->(gi W'.ID i).IP=(gi W.ID i).IP
 l:∀i:Int,0<=i->(gi W'.ID i).IF.length=(gi W.ID i).IF.length
theorem Ut.refl(W:Q8):Ut W W:=⟨rfl,rfl,rfl,Z1.refl _,λ_ _=>rfl,λ_ _=>rfl⟩
theorem Ut.trans{A B C:Q8}(h:Ut A B)(k:Ut B C):Ut A C:=⟨k.n.trans h.n,k.c.trans h.c,k.t.trans h.t,h.g.trans k.g,λi hi=>(k.b i hi).trans (h.b i hi),λi hi=>(k.l i hi).trans (h.l i hi)⟩
theorem U6{W:Q8}{g c:Int}{s:LR}(h0:0<=g)(h1:g<(W.ID.length:Int)):Ut W (Rv W g c s):=⟨rfl,rfl,rfl,YL h0 h1,λ_ hi=>zja h0 h1 hi,λ_ hi=>HR h0 h1 hi⟩
theorem Bk{F K:Int}{W:Q8}(h:SF F K W)(hk:F+Qi<=K){c d:Int}(d1:1<=d)(c0:0<=c)(c1:c<(W.IE.length:Int)):∀k:Nat,k<=8->SF F K (Zk W c d k)/\Ut W (Zk W c d k)
 | 0,_=>⟨h,Ut.refl _⟩
 | k+1,hk8=>by
  obtain⟨ih,io⟩:=Bk h hk (d:=d) d1 c0 c1 k Qo;have hl:=ih.w.a.gl;simp only[Zk];split
  ·rename_i hc;have hu:Q6 (Zk W c d k).ID (k:Int)=true:=Q4.2 ⟨Qo,Qo,hc.1⟩;exact⟨zxy ih hk hu hc.2 d1 c0 (by rw[io.c]; exact c1),io.trans (U6 Qo Qo)⟩
  ·exact⟨ih,io⟩
theorem HI{F K:Int}{W:Q8}(h:SF F K W)(hk:F+Qi<=K){c:Int}(c0:0<=c)(c1:c<(W.IE.length:Int)):∀j:Nat,j<=3->SF F K (X4 W c j)/\Ut W (X4 W c j)
 | 0,_=>⟨h,Ut.refl _⟩
 | j+1,hj=>by
  obtain⟨a1,b1⟩:=HI h hk c0 c1 j Qo;obtain⟨a2,b2⟩:=Bk a1 hk (c:=c) (d:=3-(j:Int)) Qo c0 (by rw[b1.c]; exact c1) 8 Qo;exact⟨a2,b1.trans b2⟩
theorem HH{F K:Int}{W:Q8}(h:SF F K W)(hk:F+Qi<=K){c:Int}(c0:0<=c)(c1:c<(W.IE.length:Int)):SF F K (QI W c)/\Ut W (QI W c):=HI h hk c0 c1 3 (I7 _)
def ZU(W:Q8):Nat->Q8
 | 0=>W
 | c+1=>QI (ZU W c) (c:Int)
theorem OH{F K:Int}{W:Q8}(h:SF F K W)(hk:F+Qi<=K):∀c:Nat,c<=W.IE.length->SF F K (ZU W c)/\Ut W (ZU W c)
 | 0,_=>⟨h,Ut.refl _⟩
 | c+1,hc=>by
  obtain⟨a,b⟩:=OH h hk c Qo;obtain⟨a2,b2⟩:=HH a hk (c:=(c:Int)) Qo (by rw[b.c]; omega);exact⟨a2,b.trans b2⟩
def Yo(b:Ve)(c:Int):Ve:={ b with RD:=b.RD+gi b.locals c,locals:=b.locals.set c.toNat 0,Ry:=if b.RD+gi b.locals c>0 then List.replicate b.Ry.length false else b.Ry }
theorem BN(l:List Int)(c:Int)(x:Int)(c0:0<=c)(c1:c<(l.length:Int)):∀k:Nat,Xg (l.set c.toNat x) k=Xg l k+if c<(k:Int) then x-gi l c else 0
 | 0=>by simp only[Xg]; rw[B' Qo]; omega
 | k+1=>by
  simp only[Xg];rw[BN l c x c0 c1 k,QM _ _ c0 c1 Qo]
  by_cases e:c=(k:Int)
  ·subst e;rw[B' Qo,C' rfl,C' Qo]; omega
  ·rw[B' e]
   by_cases h:c<(k:Int)
   ·rw[C' h,C' Qo]; omega
   ·rw[B' h,B' Qo]; omega
theorem zmz{l:List Int}(h:∀c:Int,0<=c->c<(l.length:Int)->0<=gi l c){c:Int}(c0:0<=c):∀k:Nat,k<=l.length->0<=Xg l k/\(c<(k:Int)->gi l c<=Xg l k)
 | 0,_=>by simp only[Xg]; exact⟨Qo,λh=>by omega⟩
 | k+1,hk=>by
  have ih:=zmz h c0 k Qo;have:=h (k:Int) Qo Qo;simp only[Xg];refine⟨Qo,λhc=>?_⟩
  by_cases e:c=(k:Int)
  ·subst e; omega
  ·have:=ih.2 Qo; omega
theorem MB{α:Type}[Inhabited α](n:Nat)(x:α){i:Int}(h0:0<=i)(h1:i<(n:Int)):gi (List.replicate n x) i=x:=by
 obtain⟨k,rfl⟩:=Int.eq_ofNat_of_zero_le h0;rw[JX (by simp; omega)]; simp
theorem zxc{b:Ve}(h:P0 b){c:Int}(c0:0<=c)(c1:c<(b.locals.length:Int))(hp:0<gi b.locals c):P0 (Yo b c)/\(Yo b c).locals.length=b.locals.length/\(Yo b c).IX=b.IX:=by
 have hs:=BN b.locals c 0 c0 c1 b.locals.length;rw[C' c1] at hs;have hn:=zmz (λd d0 d1=>(h.each d d0 d1).1) c0 b.locals.length (I7 _);have hn2:=hn.2 c1;have p1:=h.p1;have s1:=h.s1;have su:=h.sum;have Bj2:b.RD+gi b.locals c>0:=Qo;refine⟨⟨h.q1,h.q2,?_,?_,?_,?_,?_,h.s1,h.s2,λd d0 d1=>?_,?_⟩,by simp[Yo],rfl⟩
 ·simp only[Yo,E']; exact h.l1
 ·simp only[Yo,E']; exact h.l2
 ·simp only[Yo]; rw[C' Bj2]; simp[h.dl]
 ·simp only[Yo]; omega
 ·simp only[Yo]; omega
 ·simp only[Yo,E'] at d1 ⊢;have hd:=h.dl;have he:=h.each d d0 d1;rw[C' Bj2,MB _ _ d0 Qo,QM _ _ c0 c1 d0];have:=h.q1;refine⟨?_,?_,λh=>by cases h⟩
  ·split <;> omega
  ·split <;> omega
 ·simp only[Yo,E'];rw[hs]; omega
def ZJ(W:Q8)(k:Int):Nat->Q8
 | 0=>W
 | c+1=>if gi (gi (ZJ W k c).ID k).IP.locals (c:Int)>0/\QJ (ZJ W k c) k (c:Int)=false then RL (ZJ W k c) k (Yo (gi (ZJ W k c).ID k).IP (c:Int)) else ZJ W k c
def Yd(W:Q8):Nat->Q8
 | 0=>W
 | k+1=>if (gi (Yd W k).ID (k:Int)).used=true/\(gi (Yd W k).ID (k:Int)).IP.IX≠0 then ZJ (Yd W k) (k:Int) (Yd W k).IE.length else Yd W k
def KT(W:Q8):Q8:=Yd W 8
structure Tm (W W':Q8):Prop where
 n:W'.now=W.now
 c:W'.IE=W.IE
 t:W'.tasks=W.tasks
 g:Z1 W.ID W'.ID
 s:∀i:Int,0<=i->(gi W'.ID i).IF=(gi W.ID i).IF
theorem Tm.refl(W:Q8):Tm W W:=⟨rfl,rfl,rfl,Z1.refl _,λ_ _=>rfl⟩
theorem Tm.trans{A B C:Q8}(h:Tm A B)(k:Tm B C):Tm A C:=⟨k.n.trans h.n,k.c.trans h.c,k.t.trans h.t,h.g.trans k.g,λi hi=>(k.s i hi).trans (h.s i hi)⟩
theorem Ac{W:Q8}{g:Int}{b:Ve}(h0:0<=g)(h1:g<(W.ID.length:Int)):Tm W (RL W g b):=⟨rfl,rfl,rfl,U9 h0 h1 rfl rfl rfl,λi hi=>by
 unfold RL;rw[Xk h0 h1 hi];split
 ·rename_i e; subst e; rfl
 ·rfl⟩
theorem SF.A46{F K:Int}{W W':Q8}(h:SF F K W)(ho:Tm W W')(ha:WA W'):SF F K W':=by
 have e:∀k c:Int,Q6 W'.ID k=true->Qa W' k c=Qa W k c:=λk c hu=>by unfold Qa; rw[ho.s k (Q4.1 hu).1]
 have et:∀t:Int,Q7 W' t=Q7 W t:=λt=>by unfold Q7; rw[ho.t]
 refine⟨⟨ha,λt a b n=>?_,λt a b=>by rw[et]; exact h.w.tv t a b,λk c u a b=>?_,λc a b=>?_⟩,λk c u a b=>?_⟩
 ·rw[et] at n ⊢; rw[ho.g.cQ,ho.c]; exact h.w.t t a b n
 ·rw[e k c u]; rw[ho.g.cQ] at u; rw[ho.c] at b; exact h.w.s k c u a b
 ·rw[ho.c] at b ⊢; exact h.w.cu c a b
 ·rw[e k c u]; rw[ho.g.cQ] at u; rw[ho.c] at b; exact h.f k c u a b
theorem WA.RL{W:Q8}(ha:WA W){g:Int}{b:Ve}(hu:Q6 W.ID g=true)(hq:(gi W.ID g).IP.IX≠0)(hb:P0 b)(hl:b.locals.length=W.IE.length)(he:b.IX=(gi W.ID g).IP.IX):WA (RL W g b):=by
 obtain⟨u0,u1,hg⟩:=ha.u hu;have hb0:=hg.IP hq;refine ha.set u0 u1 rfl rfl rfl (λhn=>?_) λ_=>⟨hg.w1,hg.w2,hg.m,hg.m0,hg.s,hg.len,λh=>⟨(hg.root h).1,(hg.root h).2.1,by show b.IX=0; rw[he]; exact(hg.root h).2.2⟩,λh=>Ir (he.symm.trans h) hq,λ_=>⟨hb,hl,hb0.2.2⟩⟩
 have:(gi W.ID g).used=false:=hn;rw[(Q4.1 hu).2.2] at this;cases this
theorem GN{F K:Int}{W:Q8}(h:SF F K W){k:Int}(hu:Q6 W.ID k=true)(hq:(gi W.ID k).IP.IX≠0):∀c:Nat,c<=W.IE.length->SF F K (ZJ W k c)/\Tm W (ZJ W k c)/\(gi (ZJ W k c).ID k).IP.IX≠0
 | 0,_=>⟨h,Tm.refl _,hq⟩
 | c+1,hc=>by
  obtain⟨a,b,q⟩:=GN h hu hq c Qo;simp only[ZJ];split
  ·rename_i AP5;have hu':Q6 (ZJ W k c).ID k=true:=by rw[b.g.cQ]; exact hu
   obtain⟨u0,u1,hg⟩:=a.w.a.u hu';have hb:=hg.IP q;have hl:=a.w.a.gl;have rV:(ZJ W k c).IE.length=W.IE.length:=by rw[b.c]
   obtain⟨g1,g2,g3⟩:=zxc hb.1 (c:=(c:Int)) Qo Qo AP5.1;have ho:=Ac (W:=ZJ W k c) (b:=Yo (gi (ZJ W k c).ID k).IP (c:Int)) u0 Qo;refine⟨a.A46 ho (a.w.a.RL hu' q g1 (by rw[g2,hb.2.1]) g3),b.trans ho,?_⟩;show (gi (Rn _ k _).ID k).IP.IX≠0;rw[Xk u0 Qo u0,C' rfl];exact λe=>q (by rw[<-g3]; exact e)
  ·exact⟨a,b,q⟩
theorem TT{F K:Int}{W:Q8}(h:SF F K W):∀k:Nat,k<=8->SF F K (Yd W k)/\Tm W (Yd W k)
 | 0,_=>⟨h,Tm.refl _⟩
 | k+1,hk=>by
  obtain⟨a,b⟩:=TT h k Qo;simp only[Yd];split
  ·rename_i hc;have hl:=a.w.a.gl;obtain⟨a2,b2,_⟩:=GN a (k:=(k:Int)) (Q4.2 ⟨Qo,Qo,hc.1⟩) hc.2 _ (I7 _);exact⟨a2,b.trans b2⟩
  ·exact⟨a,b⟩
def Ey(W:Q8)(k c:Int):LR:={ Qa W k c with floor:=Z2 W k c 20 }
def QN(W:Q8)(c:Int):Nat->Q8
 | 0=>W
 | k+1=>if (gi (QN W c k).ID (k:Int)).used=true/\Zx (QN W c k) (k:Int) c 20=true/\Z2 (QN W c k) (k:Int) c 20>(Qa (QN W c k) (k:Int) c).floor then Rv (QN W c k) (k:Int) c (Ey (QN W c k) (k:Int) c) else QN W c k
def Za(W:Q8)(c:Int):Q8:=QN W c 8
theorem zcq{K:Int}{W:Q8}(h:SW K W){k c:Int}(c0:0<=c)(c1:c<(W.IE.length:Int))(hK:0<=K):0<=Z2 W k c 20/\Z2 W k c 20<=K:=by
 unfold Z2;split
 ·omega
 ·rename_i hn;have hl:=h.a.gl;rcases Zu (Zq W k c) (Zm W c) 20 with h1 | h1
  ·omega
  ·obtain⟨j,hj⟩:∃j:Nat,QY (Zq W k c) (Zm W c) 20=(j:Int):=⟨(QY (Zq W k c) (Zm W c) 20).toNat,Qo⟩;rw[hj,Ig] at h1 ⊢;have hp:=h1.2.2.1;unfold Zm
   by_cases h12:j<12
   ·rw[C' h12];exact h.tv (j:Int) Qo Qo
   ·rw[B' h12];unfold Zq at hp;rw[B' h12] at hp;unfold Jd at hp;simp only[A'] at hp;have hu:Q6 W.ID ((j-12:Nat):Int)=true:=Q4.2 ⟨Qo,Qo,hp.1.2.1⟩;have:=h.s _ c hu c0 c1;omega
theorem M8{K:Int}{W:Q8}(h:SW K W)(hK:0<=K){c:Int}(c0:0<=c)(c1:c<(W.IE.length:Int)):∀k:Nat,k<=8->SW K (QN W c k)/\Ut W (QN W c k)
 | 0,_=>⟨h,Ut.refl _⟩
 | k+1,hk=>by
  obtain⟨a,b⟩:=M8 h hK c0 c1 k Qo;have hl:=a.a.gl;have qA:c<((QN W c k).IE.length:Int):=by rw[b.c]; exact c1
  simp only[QN];split
  ·rename_i hc;have hu:Q6 (QN W c k).ID (k:Int)=true:=Q4.2 ⟨Qo,Qo,hc.1⟩;have s1:=a.s _ c hu c0 qA;have br:=zcq a (k:=(k:Int)) c0 qA hK;exact⟨(a.sf.Rv (s:=Ey (QN W c k) (k:Int) c) hu c0 qA br.1 br.2 br.2 s1.2.2.1 s1.2.2.2.1 s1.2.2.2.2.1 s1.2.2.2.2.2).w,b.trans (U6 Qo Qo)⟩
  ·exact⟨a,b⟩
def XT(x:KI):KI:={ x with cur := -1,WQ:=0 }
def Rz(W:Q8)(c:Int):Q8:=S9 W c (XT (gi W.IE c))
theorem ztn{cs mO:List KI}:∀k:Nat,(∀j:Nat,j<k->(gi mO (j:Int)).up=(gi cs (j:Int)).up)->Vy mO k=Vy cs k
 | 0,_=>rfl
 | k+1,h=>by simp only[Vy]; rw[ztn k λj hj=>h j Qo,h k Qo]
theorem zm2{cs mO:List KI}(hl:mO.length=cs.length)(h:∀j:Nat,j<cs.length->(gi mO (j:Int)).up=(gi cs (j:Int)).up):U1 mO=U1 cs:=by
 unfold U1;rw[hl];exact ztn _ h
theorem WA.cp{W:Q8}(ha:WA W){cs:List KI}(hl:cs.length=W.IE.length)(hu:U1 cs≠0):WA { W with IE:=cs }:=
 ⟨ha.n1,ha.n2,by show 1<=cs.length; rw[hl]; exact ha.c1,by show cs.length<=4; rw[hl]; exact ha.c2,ha.t,ha.tree,hu,λk a b=>by
  have:=ha.grp k a b;refine⟨this.1,λhu=>?_⟩;have hg:=this.2 hu
  exact⟨hg.w1,hg.w2,hg.m,hg.m0,hg.s,by show (gi W.ID k).IF.length=cs.length; rw[hl]; exact hg.len,hg.root,hg.none,λq=>by
   have:=hg.IP q;exact⟨this.1,by show (gi W.ID k).IP.locals.length=cs.length; rw[hl]; exact this.2.1,this.2.2⟩⟩⟩
theorem SW.Rz{K:Int}{W:Q8}(h:SW K W){c:Int}(c0:0<=c)(c1:c<(W.IE.length:Int)):SW K (Rz W c):=by
 have hl:(W.IE.set c.toNat (XT (gi W.IE c))).length=W.IE.length:=E';have hg:∀d:Int,0<=d->gi (W.IE.set c.toNat (XT (gi W.IE c))) d=if c=d then XT (gi W.IE c) else gi W.IE d:=λd d0=>QM _ _ c0 c1 d0
 refine⟨h.a.cp hl ?_,λt a b n=>?_,h.tv,λk d u a b=>?_,λd a b=>?_⟩
 ·rw[zm2 hl λj hj=>?_]
  ·exact h.a.ups
  ·rw[hg _ Qo];split
   ·rename_i e; rw[e]; rfl
   ·rfl
 ·show _/\_/\_<(((W.IE.set c.toNat (XT (gi W.IE c))).length:Nat):Int);rw[hl];exact h.t t a b n
 ·have b:d<(((W.IE.set c.toNat (XT (gi W.IE c))).length:Nat):Int):=b;rw[hl] at b;exact h.s k d u a b
 ·have b:d<(((W.IE.set c.toNat (XT (gi W.IE c))).length:Nat):Int):=b;rw[hl] at b;show _<=(gi (W.IE.set c.toNat (XT (gi W.IE c))) d).cur/\_;rw[show (gi (YtnclplgaicdapaaGreatDoor.Rz W c).IE d).cur=(gi (W.IE.set c.toNat (XT (gi W.IE c))) d).cur from rfl,hg _ a];split
  ·exact⟨I2 _,show (-1:Int)<12 by decide⟩
  ·exact h.cu d a b
def MC(W:Q8)(c:Int):Bool:=decide ((gi W.IE c).cur>=0)&&(((Q7 W (gi W.IE c).cur).IZ != c) || !Z3 W (gi W.IE c).cur)
def UP(W:Q8)(c:Int):Q8:=if MC (Za (QI W c) c) c=true then Rz (Za (QI W c) c) c else Za (QI W c) c
def XM(W:Q8):Nat->Q8
 | 0=>W
 | c+1=>UP (XM W c) (c:Int)
def Qg(W:Q8):Q8:=XM (KT (ZU W W.IE.length)) W.IE.length
structure Fr (W W':Q8):Prop where
 n:W'.now=W.now
 c:W'.IE.length=W.IE.length
 t:W'.tasks=W.tasks
 g:Z1 W.ID W'.ID
theorem Fr.refl(W:Q8):Fr W W:=⟨rfl,rfl,rfl,Z1.refl _⟩
theorem Fr.trans{A B C:Q8}(h:Fr A B)(k:Fr B C):Fr A C:=⟨k.n.trans h.n,k.c.trans h.c,k.t.trans h.t,h.g.trans k.g⟩
theorem Ut.fr{W W':Q8}(h:Ut W W'):Fr W W':=⟨h.n,by rw[h.c],h.t,h.g⟩
theorem Tm.fr{W W':Q8}(h:Tm W W'):Fr W W':=⟨h.n,by rw[h.c],h.t,h.g⟩
theorem zdl(W:Q8)(c:Int):Fr W (Rz W c):=⟨rfl,E',rfl,Z1.refl _⟩
theorem zy8{K:Int}{W:Q8}(h:SW K W)(hK:0<=K){c:Int}(c0:0<=c)(c1:c<(W.IE.length:Int)):SW (K+Qi) (UP W c)/\Fr W (UP W c):=by
 obtain⟨a1,b1⟩:=HH (F:=K) (K:=K+Qi) (h.sf.mono (I2 _) (by simp only[Qi]; omega)) (I2 _) c0 c1;obtain⟨a2,b2⟩:=M8 a1.w (by simp only[Qi]; omega) c0 (c:=c) (by rw[b1.c]; exact c1) 8 Qo;have hf:=b1.fr.trans b2.fr;unfold UP;split
 ·exact⟨SW.Rz a2 c0 (by show c<((QN (QI W c) c 8).IE.length:Int); rw[hf.c]; exact c1),hf.trans (zdl _ _)⟩
 ·exact⟨a2,hf⟩
theorem Lg{K:Int}{W:Q8}(h:SW K W)(hK:0<=K):∀c:Nat,c<=W.IE.length->SW (K+(c:Int)*Qi) (XM W c)/\Fr W (XM W c)
 | 0,_=>⟨h.mono Qs,Fr.refl _⟩
 | c+1,hc=>by
  obtain⟨a,b⟩:=Lg h hK c Qo;obtain⟨a2,b2⟩:=zy8 a (by simp only[Qi]; omega) (c:=(c:Int)) Qo (by rw[b.c]; omega);exact⟨a2.mono (by simp only[Qi]; omega),b.trans b2⟩
abbrev Ud:Int:=5*Qi
theorem UN{K:Int}{W:Q8}(h:SW K W)(hK:0<=K):SW (K+Ud) (Qg W)/\Fr W (Qg W):=by
 obtain⟨a1,b1⟩:=OH (F:=K) (K:=K+Qi) (h.sf.mono (I2 _) (by simp only[Qi]; omega)) (I2 _) W.IE.length (I7 _);obtain⟨a2,b2⟩:=TT a1 8 Qo;have hf:=b1.fr.trans b2.fr;obtain⟨a3,b3⟩:=Lg a2.w (by simp only[Qi]; omega) W.IE.length (by show W.IE.length<=(Yd (ZU W W.IE.length) 8).IE.length; rw[hf.c]; exact I7 _);have:=h.a.c2;exact⟨a3.mono (by simp only[Qi,Ud]; omega),hf.trans b3⟩
abbrev Qn:Int:=50000000000000000
structure LO (W:Q8):Prop where
 n:W.now<=Qn
 c:∀c:Int,0<=c->c<(W.IE.length:Int)->(gi W.IE c).busy<=Qn/\(gi W.IE c).idle<=Qn
 t:∀t:Int,0<=t->t<(W.tasks.length:Int)->(gi W.tasks t).v<=Qn/\(gi W.tasks t).sum<=Qn/\(gi W.tasks t).used<=Qn
 g:∀k:Int,0<=k->k<(W.ID.length:Int)->(gi W.ID k).sum<=Qn
 s:∀k c:Int,0<=k->k<(W.ID.length:Int)->0<=c->c<((gi W.ID k).IF.length:Int)->(Qa W k c).floor<=Qn/\(Qa W k c).v<=Qn/\(Qa W k c).sum<=Qn
noncomputable def QT(W:Q8):Bool:=Ub (LO W)
theorem MR{W:Q8}(wp:YI W)(r:LO W):SW Qn W:=by
 have ht:=wp.a.t;have hg:=wp.a.gl;refine⟨wp.a,λt t0 t1 n=>?_,λt t0 t1=>?_,λk c u c0 c1=>?_,λc c0 c1=>?_⟩
 ·rcases wp.t t t0 t1 with h | h
  ·exact Ir h.1 n
  ·exact⟨h.2.g,GB wp.a h.2.c⟩
 ·refine⟨?_,(r.t t t0 Qo).1⟩;rcases wp.t t t0 t1 with h | h
  ·rw[h.2]; exact I2 _
  ·exact(Xl.1 h.2.v).1
 ·obtain⟨u0,u1,_⟩:=Q4.1 u;have hl:=wp.a.sl u;have hs:=wp.s k c u0 Qo c0 Qo;have hr:=r.s k c u0 u1 c0 Qo;exact⟨(Xl.1 hs.f).1,hr.1,(Xl.1 hs.v).1,hr.2.1,hs.w1,hs.w2⟩
 ·have hc:=wp.c c c0 c1;have h1:=hc.c1;have h2:=hc.c2;omega
theorem WA.tk{W:Q8}(ha:WA W){ts:List Lm}(hl:ts.length=W.tasks.length):WA { W with tasks:=ts }:=
 ⟨ha.n1,ha.n2,ha.c1,ha.c2,by show ts.length=12; rw[hl]; exact ha.t,ha.tree,ha.ups,λk a b=>by
  have:=ha.grp k a b;refine⟨this.1,λhu=>?_⟩;have hg:=this.2 hu;exact⟨hg.w1,hg.w2,hg.m,hg.m0,hg.s,hg.len,hg.root,hg.none,hg.IP⟩⟩
theorem SW.IU{K:Int}{W:Q8}(h:SW K W){t:Int}(t0:0<=t)(t1:t<12){x:Lm}(hx:x.state≠0->Q6 W.ID x.group=true/\0<=x.IZ/\x.IZ<(W.IE.length:Int))(v0:0<=x.v)(v1:x.v<=K):SW K (IU W t x):=by
 have hl:=h.a.t;have e:∀i:Int,0<=i->Q7 (YtnclplgaicdapaaGreatDoor.IU W t x) i=if t=i then x else Q7 W i:=λi i0=>QM _ _ t0 Qo i0
 refine⟨h.a.tk E',λi a b n=>?_,λi a b=>?_,h.s,h.cu⟩
 ·rw[e i a] at n ⊢;split
  ·rename_i he; rw[C' he] at n; exact hx n
  ·rename_i he; rw[B' he] at n; exact h.t i a b n
 ·rw[e i a];split
  ·exact⟨v0,v1⟩
  ·exact h.tv i a b
def Ll:Q8:=⟨0,[],[],[]⟩
def zzt:MW:=⟨none,0,none,0,none,0,λ_=>⟨none,0,none,0,none,0⟩⟩
noncomputable def YY(W:Q8)(bar:Int)(W':Q8):Q8×Int:=if QD W=false then (Ll,1) else if bar≠0 then (W,bar) else (W',0)
theorem zr1{W W':Q8}{bar:Int}(h:QD W=false):YY W bar W'=(Ll,1):=C' h
theorem zk4{W W':Q8}{bar:Int}(h:QD W=true)(hb:bar≠0):YY W bar W'=(W,bar):=by unfold YY; rw[B' (by rw[h]; decide),C' hb]
theorem zpp{W W':Q8}{bar:Int}(h:QD W=true)(hb:bar=0):YY W bar W'=(W',0):=by unfold YY; rw[B' (by rw[h]; decide),B' (by simpa using hb)]
def ZB(W:Q8)(t:Int):Bool:=YP t 0 ((W.tasks.length:Int)-1)&&((Q7 W t).state != 0)
theorem Yv{W:Q8}{t:Int}(h:ZB W t=true):0<=t/\t<(W.tasks.length:Int)/\(Q7 W t).state≠0:=by
 unfold ZB at h;simp only[A',It,ne_eq] at h;have:=Qv.1 h.1;exact⟨Qo,Qo,h.2⟩
noncomputable def Tr(W:Q8)(t:Int):Int:=if ZB W t=false then 2 else if (Q7 W t).state≠1 then 6 else if QT W=false then 10 else 0
def zk7(W:Q8)(t:Int):Q8:=Qg (IU W t { Q7 W t with state:=2 })
theorem zne{W:Q8}{t:Int}(hW:QD W=true)(hb:Tr W t=0):ZB W t=true/\(Q7 W t).state=1/\SW Qn W/\SW Qn (IU W t { Q7 W t with state:=2 }):=by
 have wp:=Qj.1 hW;unfold Tr at hb
 split at hb
 ·cases hb
 ·rename_i h1
  split at hb
  ·cases hb
  ·rename_i h2
   split at hb
   ·cases hb
   ·rename_i h3;have h1:ZB W t=true:=by simpa using h1
    have h2:(Q7 W t).state=1:=by simpa using h2
    have h3:QT W=true:=by simpa using h3
    have sw:=MR wp (Qj.1 h3);obtain⟨t0,t1,n⟩:=Yv h1;have hl:=wp.a.t;have hv:=sw.tv t t0 Qo;exact⟨h1,h2,sw,sw.IU t0 Qo (λ_=>sw.t t t0 Qo n) hv.1 hv.2⟩
theorem V3.same{α:Type}{enc:α->List Va}{z:Nat}{ty:TypeId}{base:Nat}{w:Wo}{o:OA}{cap:Nat}{l l':List α}(h:V3 enc z ty base w o cap l)(he:l'.flatMap enc=l.flatMap enc)(hl:l'.length=l.length):V3 enc z ty base w o cap l':=by
 rcases h with ⟨h1,rfl,h3⟩ | ⟨b,sp,rfl,h1,h2,h3,h4⟩
 ·exact .inl ⟨h1,List.eq_nil_of_length_eq_zero hl,h3⟩
 ·exact .inr ⟨b,sp,rfl,h1,by rw[he]; exact h2,by rw[he]; exact h3,Qo⟩
theorem DP{α:Type}{enc:α->List Va}:∀(l:List α) (i:Nat) (x:α),(∀y,l[i]? = some y->enc x=enc y)->(l.set i x).flatMap enc=l.flatMap enc
 | [],_,_,_=>rfl
 | y::r,0,x,h=>by simp only[List.set_cons_zero,List.flatMap_cons]; rw[h y rfl]
 | y::r,i+1,x,h=>by
  simp only[List.set_cons_succ,List.flatMap_cons];rw[DP r i x λz hz=>h z (by simpa using hz)]
theorem z3d{α:Type}[Inhabited α]{l:List α}{i:Int}(h0:0<=i)(hi:i<(l.length:Int)):l[i.toNat]? = some (gi l i):=by
 obtain⟨k,rfl⟩:=Int.eq_ofNat_of_zero_le h0;rw[Ig];exact z0p Qo
section
variable {base:Nat}{w w':Wo}{o:OA}{cap:Nat}{ps:List (ZX×MG)}
theorem Lo.BL1{α:Type}{enc:α->List Va}{z:Nat}{ty:TypeId}{aC qB:Nat}{o':OA}{l:List α}(h:Lo base w o cap ps)(h':V3 enc z ty aC w o' qB l)(n1:QV≠ty)(n2:Qc≠ty)(n3:Yg≠ty)(n4:ZD≠ty)(hx:Q0 (QL o') w w'):Lo base w' o cap ps:=
 ⟨h.row.ext hx (h.row.U' h' n1),λi a b=>(h.each i a b).ext hx λx hm=>by
  simp only[Qt,Im] at hm;rcases hm with (hm | hm) | hm
  ·exact(h.each i a b).loc.U' h' n2 x hm
  ·exact(h.each i a b).Ry.U' h' n3 x hm
  ·exact(h.each i a b).shl.U' h' n4 x hm,h.dj⟩
theorem Lo.R9(h:Lo base w o cap ps){i:Int}(h0:0<=i)(hi:i<(ps.length:Int)){p:ZX×MG}(hp:PR base w p)(hd:∀j:Int,0<=j->j<(ps.length:Int)->i≠j->∀b∈Qt (gi ps j).2,b∉Qt p.2){j:Nat}{vs:List Va}(he:Og p=(Og (gi ps i)).take j++vs++(Og (gi ps i)).drop (j+vs.length))(hj:j+vs.length<=14):Lo base (YtnclplgaicdapaaGreatDoor.R9 w o (Int.toNat i*14+j) vs) o cap (ps.set i.toNat p):=by
 have hx:=h.row.qW (Int.toNat i*14+j) vs;have hlen:(ps.set i.toNat p).length=ps.length:=E';refine⟨h.row.R9 YF.len h0 hi he hj,λk hk rY=>?_,λa k ha hal hk rY hak b hb fM=>?_⟩
 ·rw[hlen] at rY;rw[QM _ _ h0 hi hk];split
  ·exact hp.ext hx (JC h.row hp)
  ·exact(h.each k hk rY).ext hx (JC h.row (h.each k hk rY))
 ·rw[hlen] at hal rY;rw[QM _ _ h0 hi ha] at hb;rw[QM _ _ h0 hi hk] at fM
  by_cases e1:i=a
  ·rw[C' e1] at hb
   by_cases e2:i=k
   ·omega
   ·rw[B' e2] at fM;exact hd k hk rY e2 b fM hb
  ·rw[B' e1] at hb
   by_cases e2:i=k
   ·rw[C' e2] at fM;exact hd a ha hal e1 b hb fM
   ·rw[B' e2] at fM;exact h.dj a k ha hal hk rY hak b hb fM
theorem Lo.in(h:Lo base w o cap ps){i:Int}(h0:0<=i)(hi:i<(ps.length:Int)){p:ZX×MG}{bs:List Nat}(hx:Q0 bs w w')(hb:∀x∈bs,x∈Qt (gi ps i).2)(hp:PR base w' p)(hm:p.2=(gi ps i).2)(he:Og p=Og (gi ps i)):Lo base w' o cap (ps.set i.toNat p):=by
 have hlen:(ps.set i.toNat p).length=ps.length:=E';refine⟨?_,λk hk rY=>?_,λa k ha hal hk rY hak b cJ fM=>?_⟩
 ·refine(h.row.ext hx λb cJ bR=>JC h.row (h.each i h0 hi) b (hb b bR) cJ).same (DP _ _ _ λy hy=>?_) hlen;rw[z3d h0 hi] at hy;cases hy;exact he
 ·rw[hlen] at rY;rw[QM _ _ h0 hi hk];split
  ·exact hp
  ·rename_i bT;exact(h.each k hk rY).ext hx λb cJ bR=>h.dj i k h0 hi hk rY bT b (hb b bR) cJ
 ·rw[hlen] at hal rY;rw[QM _ _ h0 hi ha] at cJ;rw[QM _ _ h0 hi hk] at fM
  have e1:b∈Qt (gi ps a).2:=by
   by_cases e:i=a
   ·rw[C' e,hm,e] at cJ; exact cJ
   ·rw[B' e] at cJ; exact cJ
  have e2:b∈Qt (gi ps k).2:=by
   by_cases e:i=k
   ·rw[C' e,hm,e] at fM; exact fM
   ·rw[B' e] at fM; exact fM
  exact h.dj a k ha hal hk rY hak b e1 e2
end
def zs4(W:Q8)(m:MW):List (ZX×MG):=(List.range W.ID.length).map λ(k:Nat)=>(gi W.ID (k:Int),m.ms k)
theorem Up(W:Q8)(m:MW):(zs4 W m).length=W.ID.length:=by simp[zs4]
theorem MN{W:Q8}{m:MW}{i:Int}(h0:0<=i)(hi:i<(W.ID.length:Int)):gi (zs4 W m) i=(gi W.ID i,m.ms i.toNat):=by
 obtain⟨k,rfl⟩:=Int.eq_ofNat_of_zero_le h0;rw[JX (by rw[Up]; omega)];simp[zs4]
def QU(n:Nat)(m:MW):List Nat:=QL m.cO++QL m.tO++QL m.gO++(List.range n).flatMap λ(k:Nat)=>Qt (m.ms k)
structure Zo (n base:Nat) (w:Wo) (W:Q8) (m:MW):Prop where
 c:V3 Ge 5 Zb base w m.cO m.cC W.IE
 t:V3 XS 9 QO base w m.tO m.tC W.tasks
 g:Lo base w m.gO m.gC (zs4 W m)
 len:W.ID.length=n
section
variable {n base:Nat}{w w':Wo}{W:Q8}{m:MW}{bs:List Nat}
theorem zek{x:Nat}(h:x∈QL m.cO):x∈QU n m:=by simp[QU,h]
theorem zem{x:Nat}(h:x∈QL m.tO):x∈QU n m:=by simp[QU,h]
theorem zel{x:Nat}(h:x∈QL m.gO):x∈QU n m:=by simp[QU,h]
theorem UK{x k:Nat}(hk:k<n)(h:x∈Qt (m.ms k)):x∈QU n m:=by
 unfold QU;exact Iy _ (List.mem_flatMap.2 ⟨k,List.mem_range.2 hk,h⟩)
theorem AW{x:Nat}(h:x∈QU n m):x∈QL m.cO\/x∈QL m.tO\/x∈QL m.gO\/∃k,k<n/\x∈Qt (m.ms k):=by
 unfold QU at h;simp only[Im,List.mem_flatMap,List.mem_range] at h;rcases h with ((h | h) | h) | ⟨k,hk,h⟩
 ·exact .inl h
 ·exact .inr (.inl h)
 ·exact .inr (.inr (.inl h))
 ·exact .inr (.inr (.inr ⟨k,hk,h⟩))
theorem Zo.each(h:Zo n base w W m){i:Int}(h0:0<=i)(hi:i<(n:Int)):PR base w (gi W.ID i,m.ms i.toNat):=by
 have:=h.g.each i h0 (by rw[Up,h.len]; exact hi)
 rwa[MN h0 (by rw[h.len]; exact hi)] at this
theorem Zo.lt(h:Zo n base w W m):∀x∈QU n m,base<=x/\x<w.heap.size:=λx hx=>by
 rcases AW hx with hx | hx | hx | ⟨k,hk,hx⟩
 ·exact h.c.lt x hx
 ·exact h.t.lt x hx
 ·exact h.g.row.lt x hx
 ·exact(h.each (i:=(k:Int)) Qo Qo).lt x (by simpa using hx)
theorem Zo.ext(h:Zo n base w W m)(hx:Q0 bs w w')(hd:∀x∈QU n m,x∉bs):Zo n base w' W m:=
 ⟨h.c.ext hx λb hb=>hd b (zek hb),h.t.ext hx λb hb=>hd b (zem hb),
  ⟨h.g.row.ext hx λb hb=>hd b (zel hb),λi a b=>by
   have b':i<(W.ID.length:Int):=by rw[Up] at b; exact b
   have hl:=h.len;refine(h.g.each i a b).ext hx λx hm=>?_
   rw[MN a b'] at hm;exact hd x (UK Qo hm),h.g.dj⟩,h.len⟩
theorem Zo.Wt(h:Zo n base w W m)(hx:Q0 [] w w'):Zo n base w' W m:=h.ext hx Qs
theorem Zo.mono{aC:Nat}(h:Zo n base w W m)(hb:aC<=base):Zo n aC w W m:=⟨h.c.mono hb,h.t.mono hb,h.g.mono hb,h.len⟩
theorem Zo.rd(h:Zo n base w W m)(hd:∀x∈QU n m,x∉bs):XE bs w W m:=by
 have hl:=h.len;refine⟨h.c.rd HE.len λb hb=>hd b (zek hb),h.t.rd Mi.len λb hb=>hd b (zem hb),⟨λi h0 hi=>?_,λi h0 hi=>?_,λi h0 hi=>?_,λi h0 hi=>?_⟩⟩
 ·have:=h.g.row.rd YF.len (bs:=bs) (λb hb=>hd b (zel hb)) i h0 (by rw[Up]; exact hi)
  rwa[MN h0 hi] at this
 ·exact(h.each h0 Qo).loc.rd Y5.len λb hb=>hd b (UK (k:=i.toNat) Qo (by simp[Qt]; exact .inl hb))
 ·exact(h.each h0 Qo).Ry.rd XZ.len λb hb=>hd b (UK (k:=i.toNat) Qo (by simp[Qt]; exact .inr (.inl hb)))
 ·exact(h.each h0 Qo).shl.rd M7.len λb hb=>hd b (UK (k:=i.toNat) Qo (by simp[Qt]; exact .inr (.inr hb)))
theorem Zo.AD6(h:Zo n base w W m){i:Int}(h0:0<=i)(hi:i<(W.tasks.length:Int)){j:Nat}{vs:List Va}{x:Lm}(he:XS x=(XS (gi W.tasks i)).take j++vs++(XS (gi W.tasks i)).drop (j+vs.length))(hj:j+vs.length<=9) :
  Zo n base (R9 w m.tO (Int.toNat i*9+j) vs) { W with tasks:=W.tasks.set i.toNat x } m:=
 ⟨h.c.ext (h.t.qW _ _) (h.c.U' h.t Qd),h.t.R9 Mi.len h0 hi he hj,h.g.BL1 h.t Qd Qd Qd Qd (h.t.qW _ _),h.len⟩
theorem Zo.Av9(h:Zo n base w W m){i:Int}(h0:0<=i)(hi:i<(W.IE.length:Int)){j:Nat}{vs:List Va}{x:KI}(he:Ge x=(Ge (gi W.IE i)).take j++vs++(Ge (gi W.IE i)).drop (j+vs.length))(hj:j+vs.length<=5) :
  Zo n base (R9 w m.cO (Int.toNat i*5+j) vs) { W with IE:=W.IE.set i.toNat x } m:=
 ⟨h.c.R9 HE.len h0 hi he hj,h.t.ext (h.c.qW _ _) (h.t.U' h.c Qd),h.g.BL1 h.c Qd Qd Qd Qd (h.c.qW _ _),h.len⟩
def Gl(m:MW)(k:Nat)(p:MG):MW:={ m with ms:=λj=>if k=j then p else m.ms j }
theorem zkd(m:MW)(k:Nat):Gl m k (m.ms k)=m:=by
 unfold Gl
 have:(λj=>if k=j then m.ms k else m.ms j)=m.ms:=by
  funext j
  split
  ·rename_i e; rw[e]
  ·rfl
 rw[this]
theorem zs5{i:Int}(h0:0<=i)(hi:i<(W.ID.length:Int))(g:ZX)(p:MG):zs4 { W with ID:=W.ID.set i.toNat g } (Gl m i.toNat p)=(zs4 W m).set i.toNat (g,p):=by
 refine zqe (by rw[Up,E',E',Up]) λk hk=>?_
 rw[Up,E'] at hk;rw[MN Qo (by rw[E']; omega),QM _ _ h0 hi Qo,QM _ _ h0 (by rw[Up]; exact hi) Qo];simp only[Gl]
 by_cases e:i=(k:Int)
 ·rw[C' e,C' e,C' Qo]
 ·rw[B' e,B' e,B' Qo,MN Qo Qo]
theorem Zo.Bg8{p:MG}(h:Zo n base w W m){i:Int}(hn:∀x∈Qt p,x∉QU n m\/x∈Qt (m.ms i.toNat))(h0:0<=i)(hi:i<(n:Int)):∀j:Int,0<=j->j<((zs4 W m).length:Int)->i≠j->∀b∈Qt (gi (zs4 W m) j).2,b∉Qt p:=λj hj hjl hij b hb fM=>by
 have hl:=h.len;rw[Up] at hjl;have bR:=hb;rw[MN hj hjl] at hb;rcases hn b fM with h1 | h1
 ·exact h1 (UK Qo hb)
 ·have:=h.g.dj i j h0 (by rw[Up]; omega) hj (by rw[Up]; exact hjl) hij b (by rw[MN h0 Qo]; exact h1);exact this bR
theorem Zo.Bm3(h:Zo n base w W m){i:Int}(h0:0<=i)(hi:i<(n:Int)){g:ZX}{p:MG}(hp:PR base w (g,p))(hn:∀x∈Qt p,x∉QU n m\/x∈Qt (m.ms i.toNat)){j:Nat}{vs:List Va}(he:YJ g p=(YJ (gi W.ID i) (m.ms i.toNat)).take j++vs++(YJ (gi W.ID i) (m.ms i.toNat)).drop (j+vs.length))(hj:j+vs.length<=14) :
  Zo n base (R9 w m.gO (Int.toNat i*14+j) vs) { W with ID:=W.ID.set i.toNat g } (Gl m i.toNat p):=by
 have hl:=h.len;have hx:=h.g.row.qW (Int.toNat i*14+j) vs;refine⟨h.c.ext hx (h.c.U' h.g.row Qd),h.t.ext hx (h.t.U' h.g.row Qd),?_,by rw[E']; exact hl⟩;have:=h.g.R9 h0 (by rw[Up]; omega) hp (h.Bg8 hn h0 hi) (j:=j) (vs:=vs) (by rw[MN h0 Qo]; exact he) hj;rw[zs5 h0 Qo];exact this
theorem Zo.A48(h:Zo n base w W m){i:Int}(h0:0<=i)(hi:i<(n:Int)){g:ZX}(e1:g.IP.locals=(gi W.ID i).IP.locals)(e2:g.IP.Ry=(gi W.ID i).IP.Ry)(e3:g.IF=(gi W.ID i).IF){j:Nat}{vs:List Va}(he:YJ g (m.ms i.toNat)=(YJ (gi W.ID i) (m.ms i.toNat)).take j++vs++(YJ (gi W.ID i) (m.ms i.toNat)).drop (j+vs.length))(hj:j+vs.length<=14) :
  Zo n base (R9 w m.gO (Int.toNat i*14+j) vs) { W with ID:=W.ID.set i.toNat g } m:=by
 have hm:=h.each h0 hi;have:=h.Bm3 h0 hi (g:=g) (p:=m.ms i.toNat) ⟨by rw[e1]; exact hm.loc,by rw[e2]; exact hm.Ry,by rw[e3]; exact hm.shl⟩ (λx hx=>.inr hx) he hj
 rwa[zkd] at this
theorem Zo.in(h:Zo n base w W m){i:Int}(h0:0<=i)(hi:i<(n:Int)){g:ZX}(hx:Q0 bs w w')(hb:∀x∈bs,x∈Qt (m.ms i.toNat))(hp:PR base w' (g,m.ms i.toNat))(he:YJ g (m.ms i.toNat)=YJ (gi W.ID i) (m.ms i.toNat)) :
  Zo n base w' { W with ID:=W.ID.set i.toNat g } m:=by
 have hl:=h.len;have hmi:=h.each h0 hi
 have hf:∀{α:Type} {enc:α->List Va} {z:Nat} {ty:TypeId} {aC qB:Nat} {o':OA} {l:List α},V3 enc z ty aC w o' qB l->ty≠Qc->ty≠Yg->ty≠ZD->∀b∈QL o',b∉bs:=λho n1 n2 n3 b cJ bR=>by
  have hm:=hb b bR;simp only[Qt,Im] at hm;rcases hm with (hm | hm) | hm
  ·exact ho.U' hmi.loc n1 b cJ hm
  ·exact ho.U' hmi.Ry n2 b cJ hm
  ·exact ho.U' hmi.shl n3 b cJ hm
 refine⟨h.c.ext hx (hf h.c Qd Qd Qd),h.t.ext hx (hf h.t Qd Qd Qd),?_,by rw[E']; exact hl⟩;have:=h.g.in h0 (by rw[Up]; omega) (p:=(g,m.ms i.toNat)) hx (by rw[MN h0 Qo]; exact hb) hp (by rw[MN h0 Qo]) (by rw[MN h0 Qo]; exact he);have hs:=zs5 (m:=m) h0 (W:=W) Qo g (m.ms i.toNat);rw[zkd] at hs;rw[hs];exact this
theorem z1w(W:Q8)(i:Int)(c:Int)(x:LR)(mg:MG):YJ { gi W.ID i with IF:=(gi W.ID i).IF.set c.toNat x } mg=YJ (gi W.ID i) mg:=by
 simp[YJ]
theorem Zo.Bw9(h:Zo n base w W m){i c:Int}(h0:0<=i)(hi:i<(n:Int))(c0:0<=c)(c1:c<((gi W.ID i).IF.length:Int)){j:Nat}{vs:List Va}{x:LR}(he:Po x=(Po (gi (gi W.ID i).IF c)).take j++vs++(Po (gi (gi W.ID i).IF c)).drop (j+vs.length))(hj:j+vs.length<=5) :
  Zo n base (R9 w (m.ms i.toNat).sO (Int.toNat c*5+j) vs) { W with ID:=W.ID.set i.toNat { gi W.ID i with IF:=(gi W.ID i).IF.set c.toNat x } } m:=by
 have hm:=h.each h0 hi;have hx:=hm.shl.qW (Int.toNat c*5+j) vs;exact h.in h0 hi hx (λx hx=>by simp[Qt]; exact .inr (.inr hx)) ⟨hm.loc.ext hx (hm.loc.U' hm.shl Qd),hm.Ry.ext hx (hm.Ry.U' hm.shl Qd),hm.shl.R9 M7.len c0 c1 he hj⟩ (z1w _ _ _ _ _)
theorem Zo.dL(h:Zo n base w W m){i c:Int}(h0:0<=i)(hi:i<(n:Int))(c0:0<=c)(c1:c<((gi W.ID i).IP.locals.length:Int))(x:Int) :
  Zo n base (R9 w (m.ms i.toNat).lO (Int.toNat c*1+0) [I x]) { W with ID:=W.ID.set i.toNat { gi W.ID i with IP:={ (gi W.ID i).IP with locals:=(gi W.ID i).IP.locals.set c.toNat x } } } m:=by
 have hm:=h.each h0 hi;have hx:=hm.loc.qW (Int.toNat c*1+0) [I x];exact h.in h0 hi hx (λx hx=>by simp[Qt]; exact .inl hx) ⟨hm.loc.R9 Y5.len c0 c1 (j:=0) (vs:=[I x]) (x:=x) rfl Qs,hm.Ry.ext hx (hm.Ry.U' hm.loc Qd),hm.shl.ext hx (hm.shl.U' hm.loc Qd)⟩ (by simp[YJ])
theorem Zo.Bw8(h:Zo n base w W m){i c:Int}(h0:0<=i)(hi:i<(n:Int))(c0:0<=c)(c1:c<((gi W.ID i).IP.Ry.length:Int))(x:Bool) :
  Zo n base (R9 w (m.ms i.toNat).dO (Int.toNat c*1+0) [.bool x]) { W with ID:=W.ID.set i.toNat { gi W.ID i with IP:={ (gi W.ID i).IP with Ry:=(gi W.ID i).IP.Ry.set c.toNat x } } } m:=by
 have hm:=h.each h0 hi;have hx:=hm.Ry.qW (Int.toNat c*1+0) [.bool x];exact h.in h0 hi hx (λx hx=>by simp[Qt]; exact .inr (.inl hx)) ⟨hm.loc.ext hx (hm.loc.U' hm.Ry Qd),hm.Ry.R9 XZ.len c0 c1 (j:=0) (vs:=[.bool x]) (x:=x) rfl Qs,hm.shl.ext hx (hm.shl.U' hm.Ry Qd)⟩ (by simp[YJ])
end
structure Mv (n base:Nat) (bs:List Nat) (w0:Wo) (m0:MW) (w:Wo) (W:Q8) (m:MW):Prop where
 own:Zo n base w W m
 ext:Q0 (QU n m0) w0 w
 sub:∀x∈QU n m,x∈QU n m0\/w0.heap.size<=x
 hd:m={ m0 with ms:=m.ms }
 nb:∀x∈QU n m,x∉bs
 new:∀x∈bs,w0.heap.size<=x
section
variable {n base:Nat}{bs cs:List Nat}{w0 w w':Wo}{W W':Q8}{m0 m m':MW}{b:Nat}
theorem Mv.start(h:Zo n base w W m):Mv n base [] w m w W m:=⟨h,Q0.refl _ _,λx hx=>.inl hx,rfl,Qs,Qs⟩
theorem Mv.add(h:Mv n base bs w0 m0 w W m)(hb:w.heap.size<=b):Mv n base (bs++[b]) w0 m0 w W m:=⟨h.own,h.ext,h.sub,h.hd,λx hx hm=>by
 rcases Im.1 hm with hm | hm
 ·exact h.nb x hx hm
 ·have:x=b:=by simpa using hm
  have:=(h.own.lt x hx).2;omega,λx hm=>by
 rcases Im.1 hm with hm | hm
 ·exact h.new x hm
 ·have:x=b:=by simpa using hm
  have:=h.ext.size;omega⟩
theorem Mv.BI6(h:Mv n base bs w0 m0 w W m)(hs:∀x∈cs,x∈bs):Mv n base cs w0 m0 w W m:=⟨h.own,h.ext,h.sub,h.hd,λx hx hm=>h.nb x hx (hs x hm),λx hm=>h.new x (hs x hm)⟩
theorem Mv.close(h:Mv n base bs w0 m0 w W m):Mv n base [] w0 m0 w W m:=h.BI6 Qs
theorem Mv.step(h:Mv n base bs w0 m0 w W m)(hx:Q0 bs w w'):Mv n base bs w0 m0 w' W m:=⟨h.own.ext hx h.nb,h.ext.fresh hx λx hm=>.inl (h.new x hm),h.sub,h.hd,h.nb,h.new⟩
theorem Mv.R4(h:Mv n base bs w0 m0 w W m)(hx:Q0 [] w w'):Mv n base bs w0 m0 w' W m:=⟨h.own.Wt hx,h.ext.trans hx.of_nil,h.sub,h.hd,h.nb,h.new⟩
theorem Mv.call(h:Mv n base bs w0 m0 w W m)(k:Mv n base [] w m w' W' m')(hs:∀x∈bs,x<w.heap.size):Mv n base bs w0 m0 w' W' m':=
 ⟨k.own,h.ext.fresh k.ext λx hm=>(h.sub x hm).symm,λx hx=>by
  rcases k.sub x hx with h1 | h1
  ·exact h.sub x h1
  ·have:=h.ext.size;exact .inr Qo,by rw[k.hd,h.hd],λx hx hm=>by
  rcases k.sub x hx with h1 | h1
  ·exact h.nb x h1 hm
  ·have:=hs x hm;omega,h.new⟩
theorem Mv.Sn(h:Mv n base bs w0 m0 w W m)(k:Zo n base w' W' m)(hx:Q0 (QU n m) w w'):Mv n base bs w0 m0 w' W' m:=
 ⟨k,h.ext.fresh hx λx hm=>(h.sub x hm).symm,h.sub,h.hd,h.nb,h.new⟩
theorem Mv.kept(h:Mv n base bs w0 m0 w W m)(k:Mv n base [] w m w' W' m')(hs:∀x∈bs,x<w.heap.size):Q9 bs w w':=λx hm=>k.ext.block x (hs x hm) λgI=>h.nb x gI hm
theorem Mv.rd(h:Mv n base bs w0 m0 w W m):XE bs w W m:=h.own.rd h.nb
theorem Mv.rd0(h:Mv n base bs w0 m0 w W m):XE [] w W m:=h.own.rd Qs
theorem Mv.trans{w1:Wo}{W1:Q8}{m1:MW}(h:Mv n base [] w0 m0 w W m)(k:Mv n base [] w m w1 W1 m1):Mv n base [] w0 m0 w1 W1 m1:=h.call k Qs
theorem Mv.AN1(h:Mv n base bs w0 m0 w W m){W0:Q8}(e0:W.now=W0.now)(e1:W.IE.length=W0.IE.length)(e2:W.tasks.length=W0.tasks.length)(e3:W.ID.length=W0.ID.length):Qb W m=Qb W0 m0:=by
 rw[h.hd];simp only[Qb,e0,e1,e2,e3]
end
structure OW (n base:Nat) (bs:List Nat) (w:Wo) (W:Q8) (m:MW):Prop where
 own:Zo n base w W m
 nb:∀x∈QU n m,x∉bs
section
variable {n base:Nat}{bs cs:List Nat}{w w':Wo}{W:Q8}{m:MW}{b:Nat}
theorem OW.of(h:Zo n base w W m)(hs:∀x∈bs,x<base):OW n base bs w W m:=⟨h,λx hx hm=>by
 have:=(h.lt x hx).1;have:=hs x hm;omega⟩
theorem OW.step(h:OW n base bs w W m)(hx:Q0 bs w w'):OW n base bs w' W m:=⟨h.own.ext hx h.nb,h.nb⟩
theorem OW.R4(h:OW n base bs w W m)(hx:Q0 [] w w'):OW n base bs w' W m:=⟨h.own.Wt hx,h.nb⟩
theorem OW.call(h:OW n base bs w W m)(hx:Q0 cs w w')(hd:∀x∈QU n m,x∉cs):OW n base bs w' W m:=⟨h.own.ext hx hd,h.nb⟩
theorem OW.add(h:OW n base bs w W m)(hb:w.heap.size<=b):OW n base (bs++[b]) w W m:=⟨h.own,λx hx hm=>by
 rcases Im.1 hm with hm | hm
 ·exact h.nb x hx hm
 ·have:x=b:=by simpa using hm
  have:=(h.own.lt x hx).2;omega⟩
theorem OW.put(h:OW n base bs w W m)(hx:Q0 bs w w')(hb:w.heap.size<=b):OW n base (bs++[b]) w' W m:=⟨(h.step hx).own,(h.add hb).nb⟩
theorem OW.AG3{b2:Nat}(h:OW n base bs w W m)(hx:Q0 bs w w')(hb:w.heap.size<=b)(bR:w.heap.size<=b2):OW n base (bs++[b]++[b2]) w' W m:=⟨(h.step hx).own,((h.add hb).add bR).nb⟩
theorem OW.sub(h:OW n base bs w W m)(hs:∀x∈cs,x∈bs):OW n base cs w W m:=⟨h.own,λx hx hm=>h.nb x hx (hs x hm)⟩
theorem OW.mono{aC:Nat}(h:OW n base bs w W m)(hb:aC<=base):OW n aC bs w W m:=⟨h.own.mono hb,h.nb⟩
theorem OW.rd(h:OW n base bs w W m):XE bs w W m:=h.own.rd h.nb
theorem OW.rd0(h:OW n base bs w W m):XE [] w W m:=h.own.rd Qs
end
def JB(b:Ve):Ve:=⟨b.IX,b.IX,0,List.replicate b.Ry.length 0,List.replicate b.Ry.length false⟩
def Yf(b:Ve)(c:Int):Ve×Int:=
 if gi b.locals c>0 then (b,0)
 else (⟨b.IX,b.RD-ZI 20 b.RD,b.Sl,b.locals.set c.toNat (ZI 20 b.RD),b.Ry.set c.toNat (ZI 20 b.RD==0)⟩,if ZI 20 b.RD=0 then 2 else 0)
def XX(b:Ve)(c n:Int):Ve×Int:=
 if n<1\/n>gi b.locals c then (b,3) else ({ b with Sl:=b.Sl+n,locals:=b.locals.set c.toNat (gi b.locals c-n) },0)
def Y1(b:Ve)(op:z5h):Ve×Int:=
 if op.kind=4 then (JB b,0)
 else if YP op.oJ 0 ((b.locals.length:Int)-1)=false then (b,1)
 else if op.kind=1 then Yf b op.oJ
 else if op.kind=2 then XX b op.oJ op.n
 else if op.kind=3 then (Yo b op.oJ,0)
 else (b,1)
structure Zs (base:Nat) (w:Wo) (b:Ve) (p:MG):Prop where
 loc:V3 Jz 1 Qc base w p.lO p.lC b.locals
 Ry:V3 MY 1 Yg base w p.dO p.dC b.Ry
def YN(p:MG):List Nat:=QL p.lO++QL p.dO
theorem Zs.lt{base:Nat}{w:Wo}{b:Ve}{p:MG}(h:Zs base w b p):∀x∈YN p,base<=x/\x<w.heap.size:=λx hx=>by
 rcases Im.1 hx with hx | hx
 ·exact h.loc.lt x hx
 ·exact h.Ry.lt x hx
theorem Zs.ext{base:Nat}{w w':Wo}{b:Ve}{p:MG}{bs:List Nat}(h:Zs base w b p)(hx:Q0 bs w w')(hd:∀x∈YN p,x∉bs):Zs base w' b p:=
 ⟨h.loc.ext hx λx hm=>hd x (Ia _ hm),h.Ry.ext hx λx hm=>hd x (Iy _ hm)⟩
theorem Zs.Wt{base:Nat}{w w':Wo}{b:Ve}{p:MG}(h:Zs base w b p)(hx:Q0 [] w w'):Zs base w' b p:=h.ext hx Qs
theorem Zs.CJ9{base:Nat}{w w':Wo}{b:Ve}{p:MG}{bs:List Nat}(h:Zs base w b p)(hx:Q0 bs w w')(hb:∀x∈bs,x<base):Zs base w' b p:=h.ext hx λx hm gI=>by
 have:=(h.lt x hm).1;have:=hb x gI;omega
theorem Zs.mono{base aC:Nat}{w:Wo}{b:Ve}{p:MG}(h:Zs base w b p)(hb:aC<=base):Zs aC w b p:=⟨h.loc.mono hb,h.Ry.mono hb⟩
theorem Zs.dL{base:Nat}{w:Wo}{b:Ve}{p:MG}(h:Zs base w b p){c:Int}(c0:0<=c)(c1:c<(b.locals.length:Int))(x:Int):Zs base (R9 w p.lO (Int.toNat c*1) [I x]) { b with locals:=b.locals.set c.toNat x } p:=
 ⟨h.loc.R9 Y5.len c0 c1 (j:=0) (vs:=[I x]) (x:=x) rfl Qs,h.Ry.ext (h.loc.qW _ _) (h.Ry.U' h.loc Qd)⟩
theorem Zs.Bw8{base:Nat}{w:Wo}{b:Ve}{p:MG}(h:Zs base w b p){c:Int}(c0:0<=c)(c1:c<(b.Ry.length:Int))(x:Bool):Zs base (R9 w p.dO (Int.toNat c*1) [.bool x]) { b with Ry:=b.Ry.set c.toNat x } p:=
 ⟨h.loc.ext (h.Ry.qW _ _) (h.loc.U' h.Ry Qd),h.Ry.R9 XZ.len c0 c1 (j:=0) (vs:=[.bool x]) (x:=x) rfl Qs⟩
theorem Zs.xL{base:Nat}{w:Wo}{b:Ve}{p:MG}(h:Zs base w b p)(n:Nat)(vs:List Va):Q0 (YN p) w (R9 w p.lO n vs):=(h.loc.qW n vs).mono λx hx=>Ia _ hx
theorem Zs.xD{base:Nat}{w:Wo}{b:Ve}{p:MG}(h:Zs base w b p)(n:Nat)(vs:List Va):Q0 (YN p) w (R9 w p.dO n vs):=(h.Ry.qW n vs).mono λx hx=>Iy _ hx
section
variable {b:Ve}{m:MG}{w:Wo}
theorem Hn{α:Type}[Inhabited α]{l:List α}{i:Nat}(h:i<l.length):l.take i++[gi l (i:Int)]=l.take (i+1):=by
 rw[List.take_succ_eq_append_getElem h,JX h]
theorem Be(h1:zm9 [] w m.lO b.locals)(h2:zv3 [] w m.dO b.Ry)(hd:b.Ry.length=b.locals.length)(hl:b.locals.length<=1048576) :
  Cz OQ #[.agg (Zy b m).toArray] w λe w'=>∃p,e=.returned (.agg (Zy b p).toArray)/\Zs w.heap.size w' b p/\Q0 [] w w':=by
 refine(zlk b.IX b.RD b.Sl m.lO b.locals.length m.lC m.dO b.Ry.length m.dC (R:=λv w'=>∃p,v=.agg (Zy b p).toArray/\Zs w.heap.size w' b p/\Q0 [] w w') ?_).mono λe w' ⟨v,he,p,hv,h3⟩=>⟨p,by rw[he,hv],h3⟩
 intro x mZ x5 Sm x6 WT
 refine⟨λvs w1=>∃(i:Nat) (p:MG),vs=[I (i:Int),I b.IX,I b.RD,I b.Sl,.slice p.lO (b.locals.take i).length p.lC,.slice p.dO (b.Ry.take i).length p.dC]/\i<=b.locals.length/\Sc w [x,x5,x6] w1/\Ob Jz 1 Qc w.heap.size [x,x5,x6] w1 p.lO p.lC (b.locals.take i)/\Ob MY 1 Yg w.heap.size [x,x5,x6] w1 p.dO p.dC (b.Ry.take i),
  Zt b.locals.length 0,λwr hx _=>⟨0,⟨none,0,none,0,none,0⟩,Qs,Ic _,(((Sc.start w).add mZ).add Sm |>.add WT).R4 hx,⟨.inl ⟨rfl,rfl,rfl⟩,by simp[QL]⟩,⟨.inl ⟨rfl,rfl,rfl⟩,by simp[QL]⟩⟩,?_⟩
 rintro c1 l l1 l2 S7 S8 Sa l4O l4L l4C wv hs ⟨i,p,he,hi,s1,hO,hD⟩;simp only[I4,I5,Iv,true_and,and_true] at he;obtain⟨rfl,rfl,rfl,rfl,⟨rfl,rfl,rfl⟩,rfl,rfl,rfl⟩:=he;refine⟨λIN=>?_,λRx=>?_⟩
 ·have IN:=Ot IN;have uQ:=h1.scb s1;refine⟨uQ.ix XV Qo IN,_,uQ i Qo IN,λb8 hb8=>⟨rfl,λRr R6 fQ Ss=>?_⟩⟩;have s2:=s1.put R6 hb8;have jQ:=hO.put R6 hb8;have hD2:=hD.put R6 hb8;obtain⟨o2,c2,w2,W8,uP,zW,SI⟩:=jQ.AA1 Y5 Vx (x:=gi b.locals (i:Int)) fQ s2.ext.size Ss (zu0 _) (by rw[List.length_take]; omega) Qd Z9 #[false,false];rw[Hn Qo] at W8 zW;have s3:=s2.call SI λx hm=>(jQ.own.lt x hm).1
  have hD3:=hD2.call SI (hD2.own.U' jQ.own Qd);have tZ:=h2.scb s3;refine⟨_,_,_,w2,W8,uP,tZ.ix Lv Qo Qo,_,tZ i Qo Qo,λb9 hb9=>⟨rfl,λRu SK eZ B81=>?_⟩⟩;have s4:=s3.put SK hb9;have hO4:=zW.put SK hb9;have hD4:=hD3.put SK hb9;obtain⟨o4,c4,w4,B25,hk4,hD5,iY⟩:=hD4.AA1 XZ Li (x:=gi b.Ry (i:Int)) eZ s4.ext.size B81 (z41 _) (by rw[List.length_take]; omega) Qd Jg #[false,false];rw[Hn Qo] at B25 hD5;have s5:=s4.call iY λx hm=>(hD4.own.lt x hm).1
  have hO5:=hO4.call iY (hO4.own.U' hD4.own Qd);refine⟨_,_,_,w4,B25,hk4,⟨Qo,Qo⟩,λw5 Sm _=>⟨⟨i+1,⟨o2,c2,o4,c4,none,0⟩,rfl,Qo,(s5.step Sm).sub Qs,(hO5.step Sm).sub Qs,(hD5.step Sm).sub Qs⟩,?_⟩⟩;simp only[Zt,Xy,ZE,Ie];omega
 ·have Rx:=Ou Rx;have e1:b.locals.take i=b.locals:=List.take_of_length_le Qo;have e2:b.Ry.take i=b.Ry:=List.take_of_length_le Qo;rw[e1] at hO ⊢;rw[e2] at hD ⊢;exact λw2 R5=>⟨p,rfl,⟨(hO.step R5).own,(hD.step R5).own⟩,(s1.step R5).ext⟩
theorem zpg(l:List Bool)(k:Nat)(h:k<l.length):(List.replicate k false++l.drop k).set k false=List.replicate (k+1) false++l.drop (k+1):=by
 rw[List.set_append,B' Qs,List.length_replicate,Nat.sub_self,List.drop_eq_getElem_cons h,List.set_cons_zero,List.replicate_succ',List.append_assoc,List.singleton_append]
theorem Bg{base:Nat}(h:Zs base w b m)(hl:b.Ry.length<=1048576) :
  Cz OR #[.agg (Zy b m).toArray] w λe w'=>e=.returned (.agg (Zy b m).toArray)/\Zs base w' { b with Ry:=List.replicate b.Ry.length false } m/\Q0 (YN m) w w':=by
 refine(zll b.IX b.RD b.Sl m.lO b.locals.length m.lC m.dO b.Ry.length m.dC (R:=λv w'=>v=.agg (Zy b m).toArray/\Zs base w' { b with Ry:=List.replicate b.Ry.length false } m/\Q0 (YN m) w w') ?_).mono λe w' ⟨v,he,hv,h3⟩=>⟨by rw[he,hv],h3⟩
 intro x mZ x5 Sm
 have hnb:∀y∈YN m,y∉[x,x5]:=λy hy hm=>by
  have:=(h.lt y hy).2;simp only[Ii,List.not_mem_nil,or_false] at hm;rcases hm with rfl | rfl <;> omega
 have sX:∀y∈[x,x5],w.heap.size<=y:=λy hm=>by
  simp only[Ii,List.not_mem_nil,or_false] at hm;rcases hm with rfl | rfl <;> assumption
 refine XJ b.Ry.length 0 rfl (λk w1=>k<=b.Ry.length/\Zs base w1 { b with Ry:=List.replicate k false++b.Ry.drop k } m/\Q0 (YN m) w w1) (λw1 RZ _=>⟨Ic _,by simpa using h.Wt RZ,RZ.of_nil⟩) λk w1 hs ⟨hk,hO,hX⟩=>⟨λIN=>?_,λRx=>?_⟩
 ·have IN:=Ot IN;have hlen:(List.replicate k false++b.Ry.drop k).length=b.Ry.length:=by simp; omega
  have e1:=hO.Bw8 (c:=(k:Int)) Qo (by show (k:Int)<((List.replicate k false++b.Ry.drop k).length:Int); rw[hlen]; exact IN) false;have e2:({ b with Ry:=(List.replicate k false++b.Ry.drop k).set k false }:Ve)={ b with Ry:=List.replicate (k+1) false++b.Ry.drop (k+1) }:=by rw[zpg _ _ Qo]
  have Wg:=hO.Ry.ix (i:=(k:Int)) Qo (by show (k:Int)<((List.replicate k false++b.Ry.drop k).length:Int); rw[hlen]; exact IN);have uK:=hO.Ry.wr XZ.len (bs:=[x,x5]) (λy hy=>hnb y (Iy _ hy)) (i:=(k:Int)) Qo (by show (k:Int)<((List.replicate k false++b.Ry.drop k).length:Int); rw[hlen]; exact IN) (j:=0) (n:=1) Qd;refine⟨by rw[<-hlen]; exact Wg,uK,⟨Qo,Qo⟩,λw2 R5 _=>Qp Qo ⟨Qo,?_,(hX.trans (hO.xD _ _)).fresh R5 λy hy=>.inl (sX y hy)⟩⟩;rw[Ig] at e1;have:=(e2▸e1:Zs base (R9 w1 m.dO (k*1) [.bool false]) { b with Ry:=List.replicate (k+1) false++b.Ry.drop (k+1) } m);exact this.ext (by rw[Ig] at R5; exact R5) hnb
 ·have Rx:=Ou Rx;have uP:k=b.Ry.length:=Qo;subst uP;rw[List.drop_length,List.append_nil] at hO;exact λw2 R5=>⟨rfl,hO.ext R5 hnb,hX.fresh R5 λy hy=>.inl (sX y hy)⟩
theorem zbi{p:Int}(h:0<=p):0<=ZI 20 p/\ZI 20 p<=p:=by unfold ZI; split <;> omega
theorem Vt{op:z5h}(hb:P0 b)(h1:zm9 [] w m.lO b.locals)(h2:zv3 [] w m.dO b.Ry) :
  Cz XF #[.agg (Zy b m).toArray,.agg (z4r op).toArray] w λe w'=>∃p,e=.returned (.tuple #[.agg (Zy (Y1 b op).1 p).toArray,I (Y1 b op).2])/\Zs w.heap.size w' (Y1 b op).1 p/\Q0 [] w w':=by
 refine(zhg b.IX b.RD b.Sl m.lO b.locals.length m.lC m.dO b.Ry.length m.dC op.kind op.oJ op.n (R:=λv w'=>∃p,v=.tuple #[.agg (Zy (Y1 b op).1 p).toArray,I (Y1 b op).2]/\Zs w.heap.size w' (Y1 b op).1 p/\Q0 [] w w') ?_).mono λe w' ⟨v,he,p,hv,h3⟩=>⟨p,by rw[he,hv],h3⟩
 have hm9:=ZV;have hl2:=hb.l2;have hdl:=hb.dl;have q1:=hb.q1;have q2:=hb.q2;have p1:=hb.p1;have p2:=hb.p2;have s1':=hb.s1;have s2':=hb.s2;intro x mZ x5 Sm x6 WT;have hok:=DV (bs:=[]) h1 h2 Qo;rw[Qj.2 hb] at hok;refine⟨true,hok,λh=>by simp at h,λ_ I' RZ bX=>?_⟩;have t1:=((((Sc.start w).add mZ).add Sm).add WT).R4 RZ;refine(Be (h1.ext RZ) (h2.ext RZ) hdl Qo).mono λe wv ⟨p,he,hO,cP⟩=>⟨_,_,_,_,_,_,_,_,_,he,Qf cP bX,λg4=>?_,λg4=>?_⟩
 ·have g4:op.kind=4:=by simpa using g4
  have t2:=t1.R4 cP;have hbl:∀y∈[x,x5,x6],y<I'.heap.size:=bX;refine λM' R5 SR=>⟨_,_,_,_,KF Y5 Vx b.Ry.length Qo Qo M',Qf (Z7 _ _) SR,λRr R6 fQ=>?_⟩
  have hLo:=(Vv (enc:=Jz) Y5.len Qc b.Ry.length (0:Int) M').ext R6 λy hy hm=>by
   have:y=M'.heap.size:=by simpa[QL] using hy
   have:=SR y hm;omega
  have hD3:V3 MY 1 Yg I'.heap.size Rr p.dO p.dC b.Ry:=((hO.CJ9 R5 hbl).Wt (Z7 M' _)).CJ9 R6 hbl |>.Ry
  have Cw0:I'.heap.size<=M'.heap.size:=IB cP.size R5.size;have hB3:Zs I'.heap.size Rr { b with locals:=List.replicate b.Ry.length 0 } ⟨some ⟨M'.heap.size,0,none⟩,b.Ry.length,p.dO,p.dC,none,0⟩:=⟨hLo.mono Cw0,hD3⟩;have t3:=((t2.step R5).R4 (Z7 M' (.cells ((List.replicate b.Ry.length (0:Int)).flatMap Jz).toArray Qc))).step R6;have hw:=Bg (b:=⟨b.IX,b.IX,0,List.replicate b.Ry.length 0,b.Ry⟩) (m:=⟨some ⟨M'.heap.size,0,none⟩,b.Ry.length,p.dO,p.dC,none,0⟩) (base:=I'.heap.size) ⟨hB3.loc,hB3.Ry⟩ (by show b.Ry.length<=_; omega);simp only[Zy,List.length_replicate] at hw;refine I3 hw λe w4 ⟨he4,hO4,iY⟩=>⟨_,_,_,_,_,_,_,_,_,he4,λy hm=>iY.block y (fQ y hm) λgI=>?_,λRu SK=>⟨⟨some ⟨M'.heap.size,0,none⟩,b.Ry.length,p.dO,p.dC,none,0⟩,?_,?_,?_⟩⟩
  ·have:=(hB3.lt y gI).1;have:=bX y hm;omega
  ·have:Y1 b op=(JB b,0):=by unfold Y1; rw[C' g4]
   rw[this]; simp[Zy,JB]
  ·have:Y1 b op=(JB b,0):=by unfold Y1; rw[C' g4]
   rw[this]
   exact(Zs.mono ⟨hO4.loc,hO4.Ry⟩ RZ.size).ext SK λy hy hm=>by
    have:=(hB3.lt y hy).1;have:=bX y hm;omega
  ·exact((t3.call iY λy hy=>IB RZ.size (hB3.lt y hy).1).step SK).ext
 ·have g4:¬op.kind=4:=by simpa using g4
  have t2:=t1.R4 cP
  have hbl:∀y∈YN p,y∉[x,x5,x6]:=λy hy hm=>by
   have:=(hO.lt y hy).1;have:=bX y hm;omega
  have hO0:Zs w.heap.size wv b p:=hO.mono RZ.size
  have fin:∀{b':Ve} {c:Int} {w1 w2:Wo},Y1 b op=(b',c)->Zs w.heap.size w1 b' p->Q0 (YN p) wv w1->Q0 [x,x5,x6] w1 w2->Zs w.heap.size w2 (Y1 b op).1 p/\Q0 [] w w2:=λe hB hX hx=>by
   rw[e];exact⟨hB.ext hx hbl,((t2.call hX λy hy=>(hO0.lt y hy).1).step hx).ext⟩
  have uQ:zm9 [x,x5,x6] wv p.lO b.locals:=hO.loc.rd Y5.len λy hy=>hbl y (Ia _ hy)
  refine⟨⟨Qo,Qo⟩,_,Qm,λg5 wr hx=>⟨p,?_,fin (b':=b) (c:=1) ?_ hO0 (Q0.refl _ _) hx⟩,λg5=>?_⟩
  ·have:Y1 b op=(b,1):=by unfold Y1; rw[B' g4,C' (by simpa using g5)]
   rw[this]; rfl
  ·unfold Y1; rw[B' g4,C' (by simpa using g5)]
  have g5':YP op.oJ 0 ((b.locals.length:Int)-1)=true:=by simpa using g5
  have dH:Y1 b op=if op.kind=1 then Yf b op.oJ else if op.kind=2 then XX b op.oJ op.n else if op.kind=3 then (Yo b op.oJ,0) else (b,1):=by
   unfold Y1; rw[B' g4,B' (by rw[g5']; decide)]
  obtain⟨c0,c1⟩:=Qv.1 g5';have c1:op.oJ<(b.locals.length:Int):=Qo;have he':=hb.each _ c0 c1;have Wg:=uQ.ix XV c0 c1;have hwL:Xm [x,x5,x6] wv p.lO (Int.toNat op.oJ*1) 1:=hO.loc.wr Y5.len (λy hy=>hbl y (Ia _ hy)) c0 c1 (j:=0) Qd;refine⟨λg6=>?_,λg6=>?_⟩
  ·have g6:op.kind=1:=by simpa using g6
   rw[C' g6] at dH;refine⟨Wg,_,uQ _ c0 c1,λg7 wr hx=>⟨p,?_,fin (b':=b) (c:=0) ?_ hO0 (Q0.refl _ _) hx⟩,λg7=>?_⟩
   ·rw[dH]; unfold Yf; rw[C' (Ot g7)]; rfl
   ·rw[dH]; unfold Yf; rw[C' (Ot g7)]
   have g7:=Ou g7;have ht:Yf b op.oJ=(⟨b.IX,b.RD-ZI 20 b.RD,b.Sl,b.locals.set op.oJ.toNat (ZI 20 b.RD),b.Ry.set op.oJ.toNat (ZI 20 b.RD==0)⟩,if ZI 20 b.RD=0 then 2 else 0):=by unfold Yf; rw[B' g7]
   rw[ht] at dH;have hm:=zbi p1;have e1:=hO0.dL c0 c1 (ZI 20 b.RD);have e2:=e1.Bw8 (c:=op.oJ) c0 (by show op.oJ<(b.Ry.length:Int); omega) (ZI 20 b.RD==0);have hX:=(hO0.xL (Int.toNat op.oJ*1) [I (ZI 20 b.RD)]).trans (e1.xD (Int.toNat op.oJ*1) [.bool (ZI 20 b.RD==0)]);refine⟨_,JR,⟨Qo,Qo⟩,Wg,hwL,e1.Ry.ix c0 (by show op.oJ<(b.Ry.length:Int); omega),e1.Ry.wr XZ.len (λy hy=>hbl y (Iy _ hy)) c0 (by show op.oJ<(b.Ry.length:Int); omega) (j:=0) Qd,λg8 wr hx=>⟨p,?_,fin dH ⟨e2.loc,e2.Ry⟩ hX hx⟩,λg8 wr hx=>⟨p,?_,fin dH ⟨e2.loc,e2.Ry⟩ hX hx⟩⟩
   ·rw[dH,C' (by simpa using g8)]; simp[Zy]
   ·rw[dH,B' (by simpa using g8)]; simp[Zy]
  ·have g6:¬op.kind=1:=by simpa using g6
   rw[B' g6] at dH;refine⟨λg7=>?_,λg7=>?_⟩
   ·have g7:op.kind=2:=by simpa using g7
    rw[C' g7] at dH;refine⟨λ_=>Wg,_,λ_=>uQ _ c0 c1,λg8 wr hx=>⟨p,?_,fin (b':=b) (c:=3) ?_ hO0 (Q0.refl _ _) hx⟩,λg8=>?_⟩
    ·rw[dH]; unfold XX; rw[C' (by simpa using g8)]; rfl
    ·rw[dH]; unfold XX; rw[C' (by simpa using g8)]
    have g8':¬(op.n<1\/op.n>gi b.locals op.oJ):=by simpa using g8
    have ht:XX b op.oJ op.n=({ b with Sl:=b.Sl+op.n,locals:=b.locals.set op.oJ.toNat (gi b.locals op.oJ-op.n) },0):=by unfold XX; rw[B' g8']
    rw[ht] at dH;have e1:=hO0.dL c0 c1 (gi b.locals op.oJ-op.n);refine⟨Wg,_,uQ _ c0 c1,⟨Qo,Qo⟩,Wg,hwL,⟨Qo,Qo⟩,λwr hx=>⟨p,?_,fin dH ⟨e1.loc,e1.Ry⟩ (hO0.xL _ _) hx⟩⟩;rw[dH]; simp[Zy]
   ·have g7:¬op.kind=2:=by simpa using g7
    rw[B' g7] at dH;refine⟨λg8=>?_,λg8 wr hx=>⟨p,?_,fin (b':=b) (c:=1) ?_ hO0 (Q0.refl _ _) hx⟩⟩
    ·have g8:op.kind=3:=by simpa using g8
     rw[C' g8] at dH;have e1:=hO0.dL c0 c1 0;refine⟨Wg,_,uQ _ c0 c1,⟨Qo,Qo⟩,Wg,hwL,λg9 wr hx hs=>?_,λg9 wr hx=>⟨p,?_,fin dH ?_ (hO0.xL _ _) hx⟩⟩
     ·have g9:=Ot g9;have e2:Zs w.heap.size wr ⟨b.IX,b.RD+gi b.locals op.oJ,b.Sl,b.locals.set op.oJ.toNat 0,b.Ry⟩ p:=Zs.ext ⟨e1.loc,e1.Ry⟩ hx hbl;have hw:=Bg e2 (by show b.Ry.length<=_; omega);simp only[Zy,E'] at hw;refine I3 hw λe w4 ⟨he4,hO4,iY⟩=>⟨_,_,_,_,_,_,_,_,_,he4,λy hm=>iY.block y (hs y hm) λgI=>hbl y gI hm,λRu SK=>⟨p,?_,?_,?_⟩⟩
      ·rw[dH]; simp[Zy,Yo,C' g9]
      ·rw[dH];have:Yo b op.oJ=⟨b.IX,b.RD+gi b.locals op.oJ,b.Sl,b.locals.set op.oJ.toNat 0,List.replicate b.Ry.length false⟩:=by unfold Yo; rw[C' g9]
       rw[this];exact Zs.ext ⟨hO4.loc,hO4.Ry⟩ SK hbl
      ·exact((((t2.call (hO0.xL _ _) λy hy=>(hO0.lt y hy).1).step hx).call iY λy hy=>(hO0.lt y hy).1).step SK).ext
     ·have g9:=Ou g9;rw[dH]; simp[Zy,Yo,B' g9]
     ·have g9:=Ou g9;have:Yo b op.oJ=⟨b.IX,b.RD+gi b.locals op.oJ,b.Sl,b.locals.set op.oJ.toNat 0,b.Ry⟩:=by unfold Yo; rw[B' g9]
      rw[this];exact⟨e1.loc,e1.Ry⟩
    ·rw[dH,B' (by simpa using g8)]; rfl
    ·rw[dH,B' (by simpa using g8)]
end
section
variable {base:Nat}{W:Q8}{m:MW}{w:Wo}
theorem Xa{w:Wo}{x x1:Nat}(h:w.heap.size<=x)(h1:w.heap.size<=x1):∀y∈[x,x1],w.heap.size<=y:=λy hm=>by
 simp only[Ii,List.not_mem_nil,or_false] at hm;rcases hm with rfl | rfl <;> assumption
theorem Mv.two{n:Nat}(h:Zo n base w W m){x x1:Nat}(hx:w.heap.size<=x)(RZ:w.heap.size<=x1):Mv n base [x,x1] w m w W m:=((Mv.start h).add hx).add RZ
theorem zfy{n:Nat}{m:MW}{w:Wo}{k:Nat}{vs:List Va}:Q0 (QU n m) w (R9 w m.cO k vs):=JS λa ha=>zek (by rw[ha]; simp[QL])
theorem Hm{n:Nat}{m:MW}{w:Wo}{k:Nat}{vs:List Va}:Q0 (QU n m) w (R9 w m.tO k vs):=JS λa ha=>zem (by rw[ha]; simp[QL])
theorem za3{n:Nat}{m:MW}{w:Wo}{k:Nat}{vs:List Va}:Q0 (QU n m) w (R9 w m.gO k vs):=JS λa ha=>zel (by rw[ha]; simp[QL])
theorem zmx{n:Nat}{m:MW}{w:Wo}{i k:Nat}{vs:List Va}(hi:i<n):Q0 (QU n m) w (R9 w (m.ms i).sO k vs):=JS λa ha=>UK hi (by simp[Qt,QL,ha])
theorem z11{n:Nat}{m:MW}{w:Wo}{i k:Nat}{vs:List Va}(hi:i<n):Q0 (QU n m) w (R9 w (m.ms i).lO k vs):=JS λa ha=>UK hi (by simp[Qt,QL,ha])
theorem z47{n:Nat}{m:MW}{w:Wo}{i k:Nat}{vs:List Va}(hi:i<n):Q0 (QU n m) w (R9 w (m.ms i).dO k vs):=JS λa ha=>UK hi (by simp[Qt,QL,ha])
theorem zzp{n:Nat}{bs:List Nat}(h:Zo n base w W m)(hd:∀x∈QU n m,x∉bs){i:Int}(h0:0<=i)(h1:i<(W.IE.length:Int)){j k:Nat}(hj:j+k<=5):Xm bs w m.cO (Int.toNat i*5+j) k:=h.c.wr HE.len (λb hb=>hd b (zek hb)) h0 h1 hj
theorem zts{n:Nat}{bs:List Nat}(h:Zo n base w W m)(hd:∀x∈QU n m,x∉bs){i:Int}(h0:0<=i)(h1:i<(W.tasks.length:Int)){j k:Nat}(hj:j+k<=9):Xm bs w m.tO (Int.toNat i*9+j) k:=h.t.wr Mi.len (λb hb=>hd b (zem hb)) h0 h1 hj
theorem ztr{n:Nat}{bs:List Nat}(h:Zo n base w W m)(hd:∀x∈QU n m,x∉bs){i:Int}(h0:0<=i)(h1:i<(n:Int)){j k:Nat}(hj:j+k<=14):Xm bs w m.gO (Int.toNat i*14+j) k:=h.g.row.wr YF.len (λb hb=>hd b (zel hb)) h0 (by rw[Up,h.len]; exact h1) hj
theorem z5c{n:Nat}{bs:List Nat}(h:Zo n base w W m)(hd:∀x∈QU n m,x∉bs){i c:Int}(h0:0<=i)(h1:i<(n:Int))(c0:0<=c)(c1:c<((gi W.ID i).IF.length:Int)){j k:Nat}(hj:j+k<=5):Xm bs w (m.ms i.toNat).sO (Int.toNat c*5+j) k:=
 (h.each h0 h1).shl.wr M7.len (λb hb=>hd b (UK (k:=i.toNat) Qo (by simp[Qt]; exact .inr (.inr hb)))) c0 c1 hj
theorem z6h{n:Nat}{bs:List Nat}(h:Zo n base w W m)(hd:∀x∈QU n m,x∉bs){i c:Int}(h0:0<=i)(h1:i<(n:Int))(c0:0<=c)(c1:c<((gi W.ID i).IP.locals.length:Int)){j k:Nat}(hj:j+k<=1):Xm bs w (m.ms i.toNat).lO (Int.toNat c*1+j) k:=
 (h.each h0 h1).loc.wr Y5.len (λb hb=>hd b (UK (k:=i.toNat) Qo (by simp[Qt]; exact .inl hb))) c0 c1 hj
theorem z6g{n:Nat}{bs:List Nat}(h:Zo n base w W m)(hd:∀x∈QU n m,x∉bs){i c:Int}(h0:0<=i)(h1:i<(n:Int))(c0:0<=c)(c1:c<((gi W.ID i).IP.Ry.length:Int)){j k:Nat}(hj:j+k<=1):Xm bs w (m.ms i.toNat).dO (Int.toNat c*1+j) k:=
 (h.each h0 h1).Ry.wr XZ.len (λb hb=>hd b (UK (k:=i.toNat) Qo (by simp[Qt]; exact .inr (.inl hb)))) c0 c1 hj
theorem zsy{n:Nat}(h:Zo n base w W m){c:Int}(c0:0<=c)(c1:c<(W.IE.length:Int)) :
  (Zo n base (R9 w m.cO (Int.toNat c*5+1) [I (-1)]) { W with IE:=W.IE.set c.toNat { gi W.IE c with cur := -1 } } m)/\
  Zo n base (R9 (R9 w m.cO (Int.toNat c*5+1) [I (-1)]) m.cO (Int.toNat c*5+2) [I 0]) (Rz W c) m:=by
 have e1:=h.Av9 c0 c1 (j:=1) (vs:=[I (-1)]) (x:={ gi W.IE c with cur := -1 }) rfl Qd;refine⟨e1,?_⟩;have hg:gi (W.IE.set c.toNat { gi W.IE c with cur := -1 }) c={ gi W.IE c with cur := -1 }:=by rw[QM _ _ c0 c1 c0,C' rfl]
 have e2:=e1.Av9 c0 (by simpa using c1) (j:=2) (vs:=[I 0]) (x:=XT (gi W.IE c)) (by rw[hg]; rfl) Qd;rw[List.set_set] at e2;exact e2
theorem ZG{n:Nat}(h:Zo n base w W m){c:Int}(c0:0<=c)(c1:c<(W.IE.length:Int)) :
  Cz Zc #[.agg (Qb W m).toArray,I c] w λe w'=>e=.returned (.agg (Qb (Rz W c) m).toArray)/\Mv n base [] w m w' (Rz W c) m:=by
 refine(zlm _ _ _ _ _ _ _ _ _ _ c (R:=λv w'=>v=.agg (Qb (Rz W c) m).toArray/\Mv n base [] w m w' (Rz W c) m) ?_).mono λe w' ⟨v,he,hv,h3⟩=>⟨by rw[he,hv],h3⟩
 intro x hx x1 RZ;obtain⟨e1,e2⟩:=zsy h c0 c1;have hr:=h.rd (bs:=[]) Qs;refine⟨hr.c.ix Y6 c0 c1,zzp h Qs c0 c1 Qd,hr.c.ix Y6 c0 c1,zzp e1 Qs c0 (by simpa using c1) Qd,λwr R5=>⟨by simp[Qb,Rz,S9],((Mv.start h).Sn e2 (zfy.trans zfy)).R4 R5⟩⟩
theorem z2q{W:Q8}{g c:Int}{s:LR}:Rv W g c s={ W with ID:=W.ID.set g.toNat { gi W.ID g with IF:=(gi W.ID g).IF.set c.toNat s } }:=rfl
theorem J0{W W':Q8}{m:MW}(h:Fr W W'):Qb W' m=Qb W m:=by
 simp only[Qb,h.n,h.c,h.t,h.g.len]
theorem zlb{gs:List ZX}(ht:Y8 gs){k:Int}(hu:Q6 gs k=true):Pc (gs.length+1) gs k 0=dep 3 gs k:=by
 have hp:∀g:Int,g≠0->Q6 gs g=true->Q6 gs (gi gs g).parent=true:=λg hz hu=>(Y3 ht hu hz).1
 have hd:0<=dep 3 gs k/\dep 3 gs k<=3:=by
  by_cases hz:k=0
  ·subst hz; rw[Yj]; omega
  ·obtain⟨_,_,_,d,e,_,hd⟩:=Y3 ht hu hz;omega
 have hm:=GE gs 3 gs.length k hd.1 (by rw[ht.len]; omega);rw[Bi hp _ _ _ hu,hm,B' Qo];omega
theorem zef{F K:Int}{n:Nat}(dI:SF F K W)(h:Zo n base w W m)(hk:F+Qi<=K){k c:Int}(hu:Q6 W.ID k=true)(hn:n=8)(c0:0<=c)(c1:c<(W.IE.length:Int))(s:LR) :
  Zo n base (R9 w (m.ms k.toNat).sO (Int.toNat c*5) (Po s)) (Rv W k c s) m:=by
 obtain⟨u0,u1,_⟩:=Q4.1 hu;have hl:=dI.w.a.gl;have hs:=dI.w.a.sl hu;exact h.Bw9 u0 Qo c0 Qo (j:=0) (vs:=Po s) (x:=s) (by simp[Po]) (by simp[Po])
theorem GY{F K:Int}(h:Zo 8 base w W m)(dI:SF F K W)(hk:F+Qi<=K)(hK:K<=1000000000000000000){c:Int}(c0:0<=c)(c1:c<(W.IE.length:Int)) :
  Cz VJ #[.agg (Qb W m).toArray,I c] w λe w'=>e=.returned (.agg (Qb W m).toArray)/\Mv 8 base [] w m w' (QI W c) m:=by
 refine(zc9 _ _ _ _ _ _ _ _ _ _ c (R:=λv w'=>v=.agg (Qb W m).toArray/\Mv 8 base [] w m w' (QI W c) m) ?_).mono λe w' ⟨v,he,hv,h3⟩=>⟨by rw[he,hv],h3⟩
 intro x hx x1 RZ;have bZ:=dI.w.a.gl
 refine⟨λvs w1=>∃(j:Nat),vs=[I (3-(j:Int))]/\j<=3/\Mv 8 base [x,x1] w m w1 (X4 W c j) m,
  λvs _=>(ZE 0 vs).toNat,λwr mZ _=>⟨0,rfl,Qd,(Mv.two h hx RZ).R4 mZ⟩,?_⟩
 rintro d wv hs ⟨j,he,j3,hM⟩;obtain⟨hS,hO⟩:=HI dI hk c0 c1 j j3;have hN:X4 W c (j+1)=Zk (X4 W c j) c (3-(j:Int)) 8:=rfl;have hE:j=3->X4 W c j=QI W c:=λe=>by rw[e]; rfl
 generalize X4 W c j=W1 at hM hS hO hN hE;simp only[I4,I5,true_and,and_true] at he;refine⟨λhd=>?_,λhd=>?_⟩
 ·have hd:=Ot hd;have qA:c<(W1.IE.length:Int):=by rw[hO.c]; exact c1
  refine XJ W.ID.length 1 rfl (λk w2=>1<=k/\k<=8/\Mv 8 base [x,x1] w m w2 (Zk W1 c d k) m) (λw2 R5 _=>⟨I7 _,Qd,?_⟩) λk w2 SR ⟨hk1,hk8,Wz⟩=>?_
  ·have e:Zk W1 c d 1=W1:=zuq Qo;rw[e];exact hM.step R5
  obtain⟨oF,jQ⟩:=Bk hS hk (c:=c) (d:=d) Qo c0 qA k hk8;have hf2:=hO.trans jQ;have e0:Qb (Zk W1 c d k) m=Qb W m:=J0 hf2.fr;have hr:=Wz.rd;have rM:(Zk W1 c d k).ID.length=W.ID.length:=hf2.g.len;have AP4:(Zk W1 c d k).IE.length=W.IE.length:=by rw[hf2.c]
  have W5:Zk W1 c d (k+1)=if (gi (Zk W1 c d k).ID (k:Int)).used=true/\dep 3 (Zk W1 c d k).ID (k:Int)=d then Rv (Zk W1 c d k) (k:Int) c (Y9 (Zk W1 c d k) (k:Int) c) else Zk W1 c d k:=rfl;have hN8:k=8->X4 W c (j+1)=Zk W1 c d k:=λe=>by rw[hN,<-he,e]
  generalize Zk W1 c d k=W2 at Wz oF jQ hf2 e0 hr rM AP4 W5 hN8;refine⟨λIN=>?_,λRx=>?_⟩
  ·have IN:=Ot IN;have RA:(k:Int)<(W2.ID.length:Int):=Qo;have hdp:=MI (g:=(k:Int)) (c:=m.gC) hr.g (by have:=ZV; omega);rw[rM] at hdp;refine⟨by have:=hr.g.ix (i:=(k:Int)) Qo RA; rwa[rM] at this,(gi W2.ID (k:Int)).used,hr.g.used Qo RA,_,λ_=>hdp,λg=>?_,λg=>?_⟩
   ·refine⟨⟨Qo,Qo⟩,λw3 R6 _=>Qp Qo ⟨Qo,Qo,?_⟩⟩;rw[W5,B']
    ·exact Wz.step R6
    ·rintro⟨h1,h2⟩;have hu:Q6 W2.ID (k:Int)=true:=Q4.2 ⟨Qo,RA,h1⟩;have:=zlb oF.w.a.tree hu;rw[rM] at this;rw[this,h1,h2] at g;simp at g
   ·simp only[H',I6,bne_eq_false_iff_eq] at g;have hu:Q6 W2.ID (k:Int)=true:=Q4.2 ⟨Qo,RA,g.1⟩;have hdk:=zlb oF.w.a.tree hu;rw[rM,g.2] at hdk;rw[C' ⟨g.1,hdk.symm⟩] at W5;have hsl:=oF.w.a.sl hu;have hz:(k:Int)≠0:=Qo;have hp:=oF.w.a.up hu hz;obtain⟨p0,p1,_⟩:=Q4.1 hp;have hpl:=oF.w.a.sl hp;have s1:=oF.w.s _ c hu c0 Qo;have s2:=oF.w.s _ c hp c0 Qo;have lc:=ZH ((Qa W2 (k:Int) c).v-(Qa W2 (gi W2.ID (k:Int)).parent c).floor) (Qa W2 (k:Int) c).w;have lm:=Y0 (Qa W2 (k:Int) c).w;have Wg:Ix m.gO W.ID.length (k:Int):=by have:=hr.g.ix (i:=(k:Int)) Qo RA; rwa[rM] at this
    have AL3:=(hr.g.IF (k:Int) Qo RA).ix X0 c0 Qo;have AF3:=PB (g:=(k:Int)) hr oF.w.a c0 Qo;have Bt8:=PZ (g:=(k:Int)) hr oF.w.a hu c0 Qo;rw[e0] at AF3 Bt8;have SN:=λs=>zef oF Wz.own hk hu rfl c0 (c:=c) Qo s
    have BE9:∀{vs:List Va},Q0 (QU 8 m) w2 (R9 w2 (m.ms k).sO (Int.toNat c*5) vs):=λ{vs}=>zmx Qo
    have uK:=z5c Wz.own Wz.nb (i:=(k:Int)) Qo Qo c0 Qo (j:=0) (k:=5) Qd;simp only[Ig] at SN uK AL3;refine⟨Wg,_,_,_,hr.g.R0 Qo RA,AL3,_,_,_,_,_,(hr.g.IF (k:Int) Qo RA) c c0 Qo,λb2 bR=>⟨QJ W2 (k:Int) c,AF3,Yx W2 (k:Int) c,λ_=>Bt8,λg2=>?_,λg2=>?_⟩⟩
    ·have tA:Y9 W2 (k:Int) c=⟨(Qa W2 (k:Int) c).floor,QJ W2 (k:Int) c && !Yx W2 (k:Int) c,(Qa W2 (gi W2.ID (k:Int)).parent c).floor+ZT ((Qa W2 (k:Int) c).v-(Qa W2 (gi W2.ID (k:Int)).parent c).floor) (Qa W2 (k:Int) c).w,(Qa W2 (k:Int) c).w,(Qa W2 (k:Int) c).sum⟩:=by
      unfold Y9;rw[C']
      simpa[Qa] using g2
     have SN:=SN (Y9 W2 (k:Int) c);rw[tA] at SN;have AF7:Ix m.gO W.ID.length (gi W2.ID (k:Int)).parent:=by have:=hr.g.ix p0 p1; rwa[rM] at this
     refine⟨Wg,_,hr.g.parent Qo RA,AF7,_,_,_,hr.g.R0 p0 p1,(hr.g.IF _ p0 p1).ix X0 c0 Qo,_,zna.f (hr.g.IF _ p0 p1) c0 Qo (j:=0) rfl,⟨by show _<=(Qa W2 (k:Int) c).v-(Qa W2 (gi W2.ID (k:Int)).parent c).floor; omega,by show (Qa W2 (k:Int) c).v-(Qa W2 (gi W2.ID (k:Int)).parent c).floor<=_; omega⟩,_,KB,⟨?_,?_⟩,Wg,_,_,_,hr.g.R0 Qo RA,AL3,uK,⟨Qo,Qo⟩,λw3 R6 _=>Qp Qo ⟨Qo,Qo,?_⟩⟩
     ·show -9223372036854775808<=(Qa W2 (gi W2.ID (k:Int)).parent c).floor+ZT ((Qa W2 (k:Int) c).v-(Qa W2 (gi W2.ID (k:Int)).parent c).floor) (Qa W2 (k:Int) c).w;omega
     ·show (Qa W2 (gi W2.ID (k:Int)).parent c).floor+ZT ((Qa W2 (k:Int) c).v-(Qa W2 (gi W2.ID (k:Int)).parent c).floor) (Qa W2 (k:Int) c).w<=9223372036854775807;omega
     ·rw[W5,tA];exact(Wz.Sn SN BE9).step R6
    ·have tA:Y9 W2 (k:Int) c=⟨(Qa W2 (k:Int) c).floor,QJ W2 (k:Int) c && !Yx W2 (k:Int) c,(Qa W2 (k:Int) c).v,(Qa W2 (k:Int) c).w,(Qa W2 (k:Int) c).sum⟩:=by
      unfold Y9;rw[B'];intro h1;rw[h1.1,show (gi (gi W2.ID (k:Int)).IF c).on=false from h1.2] at g2;cases g2
     have SN:=SN (Y9 W2 (k:Int) c);rw[tA] at SN;refine⟨Wg,_,_,_,hr.g.R0 Qo RA,AL3,uK,⟨Qo,Qo⟩,λw3 R6 _=>Qp Qo ⟨Qo,Qo,?_⟩⟩;rw[W5,tA];exact(Wz.Sn SN BE9).step R6
  ·have Rx:=Ou Rx;have hN8:=hN8 Qo;refine⟨⟨Qo,Qo⟩,λw3 R6 _=>⟨⟨j+1,?_,Qo,?_⟩,?_⟩⟩
   ·rw[show d-1=3-((j+1:Nat):Int) by omega]
   ·rw[hN8];exact Wz.step R6
   ·show (d-1).toNat<d.toNat;omega
 ·have hd:=Ou hd;rw[<-hE Qo];exact λw2 R5=>⟨rfl,(hM.step R5).close⟩
end
theorem OM{n:Nat}{m:MW}{i:Nat}{p:MG}:∀x∈QU n (Gl m i p),x∈QU n m\/x∈Qt p:=λx hx=>by
 rcases AW hx with h | h | h | ⟨k,hk,h⟩
 ·exact .inl (zek h)
 ·exact .inl (zem h)
 ·exact .inl (zel h)
 ·simp only[Gl] at h
  split at h
  ·exact .inr h
  ·exact .inl (UK hk h)
theorem Mv.swap{n base:Nat}{bs:List Nat}{w0 w w':Wo}{W W':Q8}{m0 m m':MW}(h:Mv n base bs w0 m0 w W m)(k:Zo n base w' W' m')(hx:Q0 (QU n m) w w')(hm:m'={ m with ms:=m'.ms })(BE9:∀x∈QU n m',x∈QU n m\/(w0.heap.size<=x/\x∉bs)):Mv n base bs w0 m0 w' W' m':=
 ⟨k,h.ext.fresh hx λx hm=>(h.sub x hm).symm,λx hx=>by
  rcases BE9 x hx with h1 | h1
  ·exact h.sub x h1
  ·exact .inr h1.1,by rw[hm,h.hd],λx hx=>by
  rcases BE9 x hx with h1 | h1
  ·exact h.nb x h1
  ·exact h1.2,h.new⟩
section
variable {base:Nat}{W:Q8}{m:MW}{w:Wo}
theorem zae{K:Int}(h:Zo 8 base w W m)(dI:SW K W)(hK:0<=K){c:Int}(c0:0<=c)(c1:c<(W.IE.length:Int)) :
  Cz Oy #[.agg (Qb W m).toArray,I c] w λe w'=>e=.returned (.agg (Qb W m).toArray)/\Mv 8 base [] w m w' (Za W c) m:=by
 refine(q9 _ _ _ _ _ _ _ _ _ _ c (R:=λv w'=>v=.agg (Qb W m).toArray/\Mv 8 base [] w m w' (Za W c) m) ?_).mono λe w' ⟨v,he,hv,h3⟩=>⟨by rw[he,hv],h3⟩
 intro x hx x1 RZ;have bZ:=dI.a.gl;refine XJ W.ID.length 0 rfl (λk w2=>k<=8/\Mv 8 base [x,x1] w m w2 (QN W c k) m) (λw2 R5 _=>⟨Qd,(Mv.two h hx RZ).R4 R5⟩) λk w2 SR ⟨hk8,Wz⟩=>?_
 obtain⟨oF,jQ⟩:=M8 dI hK c0 c1 k hk8;have e0:Qb (QN W c k) m=Qb W m:=J0 jQ.fr;have hr:=Wz.rd;have rM:(QN W c k).ID.length=W.ID.length:=jQ.g.len;have AP4:(QN W c k).IE.length=W.IE.length:=by rw[jQ.c]
 have W5:QN W c (k+1)=if (gi (QN W c k).ID (k:Int)).used=true/\Zx (QN W c k) (k:Int) c 20=true/\Z2 (QN W c k) (k:Int) c 20>(Qa (QN W c k) (k:Int) c).floor then Rv (QN W c k) (k:Int) c (Ey (QN W c k) (k:Int) c) else QN W c k:=rfl;have hN8:k=8->Za W c=QN W c k:=λe=>by rw[e]; rfl
 generalize QN W c k=W2 at Wz oF jQ e0 hr rM AP4 W5 hN8;refine⟨λIN=>?_,λRx=>?_⟩
 ·have IN:=Ot IN;have RA:(k:Int)<(W2.ID.length:Int):=Qo;have Wg:Ix m.gO W.ID.length (k:Int):=by have:=hr.g.ix (i:=(k:Int)) Qo RA; rwa[rM] at this
  refine⟨Wg,(gi W2.ID (k:Int)).used,hr.g.used Qo RA,λg=>?_,λg=>?_⟩
  ·refine⟨⟨Qo,Qo⟩,λw3 R6 _=>Qp Qo ⟨Qo,?_⟩⟩;rw[W5,B' (λh1=>by rw[h1.1] at g; cases g)];exact Wz.step R6
  ·have g:(gi W2.ID (k:Int)).used=true:=by simpa using g
   have hu:Q6 W2.ID (k:Int)=true:=Q4.2 ⟨Qo,RA,g⟩;have hsl:=oF.a.sl hu;have hle:=GX (g:=(k:Int)) hr oF.a c0 Qo;rw[e0] at hle;have tA:=hr.g.IF (k:Int) Qo RA;have AL3:=tA.ix X0 c0 Qo;have uK:=z5c Wz.own Wz.nb (i:=(k:Int)) Qo Qo c0 Qo (j:=0) (k:=1) Qd;have SN:=Wz.own.Bw9 (i:=(k:Int)) Qo Qo c0 Qo (j:=0) (vs:=[I (Z2 W2 (k:Int) c 20)]) (x:=Ey W2 (k:Int) c) rfl Qs;rw[<-z2q] at SN;have BE9:Q0 (QU 8 m) w2 (R9 w2 (m.ms k).sO (Int.toNat c*5+0) [I (Z2 W2 (k:Int) c 20)]):=zmx Qo;simp only[Ig] at uK AL3 SN;refine⟨_,_,hle,λ_=>Wg,_,_,_,λ_=>hr.g.R0 Qo RA,λ_=>AL3,_,λ_=>zna.f tA c0 Qo (j:=0) rfl,λg2=>?_,λg2=>?_⟩
   ·refine⟨Wg,_,_,_,hr.g.R0 Qo RA,AL3,uK,⟨Qo,Qo⟩,λw3 R6 _=>Qp Qo ⟨Qo,?_⟩⟩;rw[W5,C' ⟨g,by simpa[Qa] using g2⟩];exact(Wz.Sn SN BE9).step R6
   ·refine⟨⟨Qo,Qo⟩,λw3 R6 _=>Qp Qo ⟨Qo,?_⟩⟩;rw[W5,B']
    ·exact Wz.step R6
    ·rintro⟨_,h1,h2⟩;rw[h1,show decide (Z2 W2 (k:Int) c 20>(gi (gi W2.ID (k:Int)).IF c).floor)=true from Ih h2] at g2;cases g2
 ·have Rx:=Ou Rx;rw[hN8 Qo];exact λw3 R6=>⟨rfl,(Wz.step R6).close⟩
theorem Lp.CW2{bs:List Nat}{w:Wo}{gs:List ZX}{ms:Nat->MG}{o:OA}(h:Lp bs w o gs ms){i:Int}(h0:0<=i)(h1:i<(gs.length:Int)):Q1 bs w o (Int.toNat i*14+8+3) [.slice (ms i.toNat).lO (gi gs i).IP.locals.length (ms i.toNat).lC]:=(h.cells i h0 h1).get 11 _ rfl
theorem Lp.quo{bs:List Nat}{w:Wo}{gs:List ZX}{ms:Nat->MG}{o:OA}(h:Lp bs w o gs ms){i:Int}(h0:0<=i)(h1:i<(gs.length:Int)):Q1 bs w o (Int.toNat i*14+8+0) [I (gi gs i).IP.IX]:=(h.cells i h0 h1).get 8 _ rfl
def KE(m:MG)(p:MG):MG:=⟨p.lO,p.lC,p.dO,p.dC,m.sO,m.sC⟩
theorem OL{m p:MG}:∀x∈Qt (KE m p),x∈YN p\/x∈Qt m:=λx hx=>by
 simp only[Qt,KE,YN,Im] at hx ⊢;rcases hx with (h | h) | h
 ·exact .inl (.inl h)
 ·exact .inl (.inr h)
 ·exact .inr (.inr h)
theorem Zo.Bw7{n:Nat}(h:Zo n base w W m){i:Int}(h0:0<=i)(hi:i<(n:Int)){b:Ve}{p:MG}(hb:Zs base w b p)(hn:∀x∈YN p,x∉QU n m) :
  Zo n base (R9 w m.gO (Int.toNat i*14+8) (Zy b p)) (RL W i b) (Gl m i.toNat (KE (m.ms i.toNat) p)):=by
 have hm:=h.each h0 hi;refine h.Bm3 h0 hi (g:={ gi W.ID i with IP:=b }) (p:=KE (m.ms i.toNat) p) ⟨hb.loc,hb.Ry,hm.shl⟩ (λx hx=>?_) rfl (by simp[Zy]);rcases OL x hx with h1 | h1
 ·exact .inl (hn x h1)
 ·exact .inr h1
theorem zh1{F K:Int}(h:Zo 8 base w W m)(dI:SF F K W)(sR:base<=w.heap.size) :
  Cz Mu #[.agg (Qb W m).toArray] w λe w'=>∃m',e=.returned (.agg (Qb W m).toArray)/\Mv 8 base [] w m w' (KT W) m':=by
 refine(zhj _ _ _ _ _ _ _ _ _ _ (R:=λv w'=>∃m',v=.agg (Qb W m).toArray/\Mv 8 base [] w m w' (KT W) m') ?_).mono λe w' ⟨v,he,m',hv,h3⟩=>⟨m',by rw[he,hv],h3⟩
 intro x hx x1 RZ;have bZ:=dI.w.a.gl;have CN6:=dI.w.a.c2;have At2:=Xa hx RZ;refine XJ W.ID.length 0 rfl (λk w2=>k<=8/\∃m2,Mv 8 base [x,x1] w m w2 (Yd W k) m2) (λw2 R5 _=>⟨Qd,m,(Mv.two h hx RZ).R4 R5⟩) λk w2 SR ⟨hk8,m2,Wz⟩=>?_
 obtain⟨oF,jQ⟩:=TT dI k hk8;have rM:(Yd W k).ID.length=W.ID.length:=jQ.g.len;have AP4:(Yd W k).IE.length=W.IE.length:=by rw[jQ.c]
 have W5:Yd W (k+1)=if (gi (Yd W k).ID (k:Int)).used=true/\(gi (Yd W k).ID (k:Int)).IP.IX≠0 then ZJ (Yd W k) (k:Int) (Yd W k).IE.length else Yd W k:=rfl;have hN8:k=8->KT W=Yd W k:=λe=>by rw[e]; rfl
 generalize Yd W k=W2 at Wz oF jQ rM AP4 W5 hN8;have hmg:m2.gO=m.gO:=by rw[Wz.hd]
 have hr:=Wz.rd;refine⟨λIN=>?_,λRx=>?_⟩
 ·have IN:=Ot IN;have RA:(k:Int)<(W2.ID.length:Int):=Qo;have Wg:Ix m.gO W.ID.length (k:Int):=by have:=hr.g.ix (i:=(k:Int)) Qo RA; rwa[rM,hmg] at this
  have hru:=hr.g.used (i:=(k:Int)) Qo RA;have hrq:=hr.g.quo (i:=(k:Int)) Qo RA;rw[hmg] at hru hrq;refine⟨Wg,(gi W2.ID (k:Int)).used,hru,λ_=>Wg,_,λ_=>hrq,λg=>?_,λg=>?_⟩
  ·refine⟨⟨Qo,Qo⟩,λw3 R6 _=>Qp Qo ⟨Qo,m2,?_⟩⟩;rw[W5,B']
   ·exact Wz.step R6
   ·rintro⟨h1,h2⟩;rw[h1] at g;simp[h2] at g
  ·simp only[H',I6,beq_eq_false_iff_ne] at g;have hu:Q6 W2.ID (k:Int)=true:=Q4.2 ⟨Qo,RA,g.1⟩;rw[C' ⟨g.1,g.2⟩] at W5;refine XJ W.IE.length 0 rfl (λc w3=>c<=W.IE.length/\∃m3,Mv 8 base [x,x1] w m w3 (ZJ W2 (k:Int) c) m3) (λw3 R6 _=>⟨Ic _,m2,Wz.step R6⟩) λc w3 fQ ⟨hc,m3,iV⟩=>?_
   obtain⟨hS3,zW,hq3⟩:=GN oF hu g.2 c Qo;have CP2:(ZJ W2 (k:Int) c).ID.length=W.ID.length:=by rw[zW.g.len,rM]
   have CN5:(ZJ W2 (k:Int) c).IE.length=W.IE.length:=by rw[zW.c,AP4]
   have AA7:ZJ W2 (k:Int) (c+1)=if gi (gi (ZJ W2 (k:Int) c).ID (k:Int)).IP.locals (c:Int)>0/\QJ (ZJ W2 (k:Int) c) (k:Int) (c:Int)=false then RL (ZJ W2 (k:Int) c) (k:Int) (Yo (gi (ZJ W2 (k:Int) c).ID (k:Int)).IP (c:Int)) else ZJ W2 (k:Int) c:=rfl;have hN3:c=W.IE.length->Yd W (k+1)=ZJ W2 (k:Int) c:=λe=>by rw[W5,AP4,e]
   have e3:Qb (ZJ W2 (k:Int) c) m3=Qb W m:=iV.AN1 (by rw[zW.n,jQ.n]) CN5 (by rw[zW.t,jQ.t]) CP2;have hu3:Q6 (ZJ W2 (k:Int) c).ID (k:Int)=true:=by rw[zW.g.cQ]; exact hu
   generalize ZJ W2 (k:Int) c=W3 at iV hS3 zW hq3 CP2 CN5 AA7 hN3 e3 hu3;have CR1:m3.gO=m.gO:=by rw[iV.hd]
   have hr3:=iV.rd;refine⟨λCR0=>?_,λBX0=>?_⟩
   ·have CR0:=Ot CR0;obtain⟨u0,u1,jW⟩:=hS3.w.a.u hu3;obtain⟨hb,hbl,_⟩:=jW.IP hq3;have AY7:(k:Int)<(W3.ID.length:Int):=Qo;have hrl:=hr3.g.CW2 (i:=(k:Int)) Qo AY7;have hrb:=hr3.g.IP (i:=(k:Int)) Qo AY7;rw[CR1] at hrl hrb;have hLo:=hr3.g.locals (k:Int) Qo AY7;have hDo:=hr3.g.Ry (k:Int) Qo AY7;have AF3:=PB (g:=(k:Int)) (c:=(c:Int)) hr3 hS3.w.a Qo Qo;rw[e3] at AF3;refine⟨Wg,_,_,_,hrl,hLo.ix XV Qo Qo,_,hLo (c:Int) Qo Qo,_,λ_=>AF3,λg3=>?_,λg3=>?_⟩
    ·simp only[A',Ij,IC] at g3;rw[C' g3] at AA7;refine⟨Wg,_,_,_,_,_,_,_,_,_,hrb,λRr R6 eZ=>?_⟩;have gN:=iV.step R6;have hr4:=gN.rd0;refine I3 (Vt (op:=⟨3,(c:Int),0⟩) hb (hr4.g.locals (k:Int) Qo AY7) (hr4.g.Ry (k:Int) Qo AY7)) ?_;rintro e RF ⟨p,he,hO,hy⟩
     have dH:Y1 (gi W3.ID (k:Int)).IP ⟨3,(c:Int),0⟩=(Yo (gi W3.ID (k:Int)).IP (c:Int),0):=by
      unfold Y1;rw[B' (show ¬(3:Int)=4 by decide),B' (by rw[Qv.2 (by show 0<=(c:Int)/\(c:Int)<=_; omega)]; decide),B' (show ¬(3:Int)=1 by decide),B' (show ¬(3:Int)=2 by decide),C' rfl]
     rw[dH] at he hO
     dsimp only at he hO
     have hM5:=gN.R4 hy;have hbs:base<=Rr.heap.size:=by have:=gN.ext.size; omega
     have hOb:∀y∈YN p,Rr.heap.size<=y:=λy hy=>(hO.lt y hy).1
     have BE6:=hM5.own.Bw7 (i:=(k:Int)) Qo Qo (hO.mono hbs) (λy hy hm=>by have:=hOb y hy; have:=(gN.own.lt y hm).2; omega);have uK:=ztr hM5.own hM5.nb (i:=(k:Int)) Qo Qo (j:=8) (k:=5) Qd;have rH:=gN.ext.size
     have hM6:=hM5.swap BE6 za3 rfl λy hy=>by
      rcases OM y hy with h1 | h1
      ·exact .inl h1
      ·rcases OL y h1 with h2 | h2
       ·have:=hOb y h2;exact .inr ⟨Qo,λhm=>by have:=eZ y hm; omega⟩
       ·exact .inl (UK Qo h2)
     rw[CR1] at uK hM6;refine⟨_,_,_,_,_,_,_,_,_,_,he,Qf hy eZ,λb2 bR=>⟨Wg,uK,⟨Qo,Qo⟩,λw5 Sm _=>Qp (w1:=w3) Qo ⟨Qo,Gl m3 (Int.toNat (k:Int)) (KE (m3.ms (Int.toNat (k:Int))) p),?_⟩⟩⟩;rw[AA7];exact hM6.step Sm
    ·refine⟨⟨Qo,Qo⟩,λw5 Sm _=>Qp Qo ⟨Qo,m3,?_⟩⟩;rw[AA7,B']
     ·exact iV.step Sm
     ·rintro⟨h1,h2⟩;rw[h2,Ih h1] at g3;cases g3
   ·have BX0:=Ou BX0;refine⟨⟨Qo,Qo⟩,λw5 Sm _=>Qp Qo ⟨Qo,m3,?_⟩⟩;rw[hN3 Qo];exact iV.step Sm
 ·have Rx:=Ou Rx;rw[hN8 Qo];exact λw3 R6=>⟨m2,rfl,(Wz.step R6).close⟩
end
section
variable {base:Nat}{W:Q8}{m:MW}{w:Wo}
theorem Lx{W W':Q8}(h:Fr W W'):W'.IE.length=W.IE.length/\W'.tasks.length=W.tasks.length/\W'.ID.length=W.ID.length:=⟨h.c,by rw[h.t],h.g.len⟩
theorem zqf{n:Nat}{bs:List Nat}{w0 w:Wo}{W0 W:Q8}{m0 m:MW}(h:Mv n base bs w0 m0 w W m)(hf:Fr W0 W):Qb W m=Qb W0 m0:=h.AN1 hf.n hf.c (by rw[hf.t]) hf.g.len
theorem QA{K:Int}(h:Zo 8 base w W m)(dI:SW K W)(hK0:0<=K)(hK:K<=100000000000000000)(sR:base<=w.heap.size) :
  Cz Qq #[.agg (Qb W m).toArray] w λe w'=>∃m',e=.returned (.agg (Qb (Qg W) m').toArray)/\Mv 8 base [] w m w' (Qg W) m':=by
 refine(k7 _ _ _ _ _ _ _ _ _ _ (R:=λv w'=>∃m',v=.agg (Qb (Qg W) m').toArray/\Mv 8 base [] w m w' (Qg W) m') ?_).mono λe w' ⟨v,he,m',hv,h3⟩=>⟨m',by rw[he,hv],h3⟩
 intro x hx x1 RZ;have bZ:=dI.a.gl;have CN6:=dI.a.c2;have hm9:=ZV;refine⟨λvs w1=>∃(k:Nat),vs=I (k:Int)::Qb W m/\k<=W.IE.length/\Mv 8 base [x,x1] w m w1 (ZU W k) m,Zt W.IE.length 0,λw1 mZ _=>⟨0,rfl,Ic _,(Mv.two h hx RZ).R4 mZ⟩,?_⟩;rintro c1 l S5 Sb Sh S6 Se Sg S7 S8 Sa RF SR ⟨k,he,hk,hM⟩;obtain⟨hS,hO⟩:=OH (F:=K) (K:=K+Qi) (dI.sf.mono (I2 _) (by simp only[Qi]; omega)) (I2 _) k hk;have W5:ZU W (k+1)=QI (ZU W k) (k:Int):=rfl;have rL:k=W.IE.length->ZU W W.IE.length=ZU W k:=λe=>by rw[e]
 have e0:=zqf hM hO.fr;obtain⟨n1,n2,n3⟩:=Lx hO.fr;simp only[Qb,I4,I5,Iv,true_and,and_true] at he;obtain⟨rfl,rfl,⟨rfl,rfl,rfl⟩,⟨rfl,rfl,rfl⟩,rfl,rfl,rfl⟩:=he;generalize ZU W k=W1 at hM hS hO W5 rL e0 n1 n2 n3;refine⟨λIN Rr R6 fQ=>?_,λRx RN Sm kK=>?_⟩
 ·have IN:=Ot IN;have iV:=hM.step R6;have Rq:=GY iV.own hS Qo (by simp only[Qi]; omega) (c:=(k:Int)) Qo Qo;rw[e0] at Rq;refine I3 Rq ?_;rintro e RU ⟨he,hy⟩;refine⟨_,_,_,_,_,_,_,_,_,_,he,iV.kept hy fQ,⟨Qo,Qo⟩,λRu SK _=>⟨⟨k+1,rfl,Qo,?_⟩,?_⟩⟩
  ·rw[W5];exact(iV.call hy fQ).step SK
  ·simp only[Zt,Xy,ZE,Ie]; omega
 ·have Rx:=Ou Rx;have hkk:k=W.IE.length:=Qo;have rL:=rL hkk;have hM5:=hM.step Sm;have hb5:base<=RN.heap.size:=by have:=hM5.ext.size; omega
  have Rq:=zh1 hM5.own hS hb5;rw[e0] at Rq;refine I3 Rq ?_;rintro e2 aX ⟨m4,aR,SI⟩;obtain⟨hS4,hO4⟩:=TT hS 8 Qd;have hM6:=hM5.call SI kK;have SN:Qg W=XM (KT W1) W.IE.length:=by unfold Qg; rw[rL]
  have hf4:Fr W (KT W1):=hO.fr.trans hO4.fr;have CL9:SW (K+Qi) (KT W1):=hS4.w;have CQ6:=Lx hf4;generalize KT W1=W4 at hM6 SN hf4 CL9 CQ6;refine⟨_,_,_,_,_,_,_,_,_,_,aR,hM5.kept SI kK,λvs w1=>∃(k:Nat) (m1:MW),vs=I (k:Int)::Qb W m/\k<=W.IE.length/\Mv 8 base [x,x1] w m w1 (XM W4 k) m1,Zt W.IE.length 0,λw1 mZ _=>⟨0,m4,rfl,Ic _,hM6.step mZ⟩,?_⟩;rintro c3 l S5 Sb Sh S6 Se Sg S7 S8 Sa fJ hs7 ⟨k,m7,he,hk,sP⟩;obtain⟨hS7,hf7⟩:=Lg CL9 (by simp only[Qi]; omega) k Qo;have AP6:XM W4 (k+1)=UP (XM W4 k) (k:Int):=rfl;have AP8:k=W.IE.length->Qg W=XM W4 k:=λe=>by rw[SN,e]
  have hfW:=hf4.trans hf7;have e7:=zqf sP hfW;obtain⟨q1,q2,q3⟩:=Lx hfW;simp only[Qb,I4,I5,Iv,true_and,and_true] at he;obtain⟨rfl,rfl,⟨rfl,rfl,rfl⟩,⟨rfl,rfl,rfl⟩,rfl,rfl,rfl⟩:=he;generalize XM W4 k=W7 at sP hS7 hf7 AP6 AP8 hfW e7 q1 q2 q3;refine⟨λIN WS gL hs9=>?_,λRx=>?_⟩
  ·have IN:=Ot IN;have hM9:=sP.step gL;have hk4:(k:Int)<=4:=Qo;have hKb:K+Qi+(k:Int)*Qi+Qi<=1000000000000000000:=by simp only[Qi]; omega
   have qA:(k:Int)<(W7.IE.length:Int):=Qo;have hSF:=hS7.sf.mono (F':=K+Qi+(k:Int)*Qi) (K':=K+Qi+(k:Int)*Qi+Qi) (I2 _) (by simp only[Qi]; omega);have Rq:=GY hM9.own hSF (I2 _) hKb (c:=(k:Int)) Qo qA;rw[e7] at Rq;refine I3 Rq ?_;rintro e4 vV ⟨he4,iY⟩;obtain⟨hS8,hO8⟩:=HH hSF (I2 _) (c:=(k:Int)) Qo qA;have hM8:=hM9.call iY hs9;refine⟨_,_,_,_,_,_,_,_,_,_,he4,hM9.kept iY hs9,λSi tD nQ=>?_⟩;have BD1:=hM8.step tD;have cA:UP W7 (k:Int)=if MC (Za (QI W7 (k:Int)) (k:Int)) (k:Int)=true then Rz (Za (QI W7 (k:Int)) (k:Int)) (k:Int) else Za (QI W7 (k:Int)) (k:Int):=rfl;have c2':(k:Int)<((QI W7 (k:Int)).IE.length:Int):=by rw[hO8.c]; exact qA
   have Bh8:=zae BD1.own hS8.w (by simp only[Qi]; omega) (c:=(k:Int)) Qo c2';rw[J0 hO8.fr,e7] at Bh8;obtain⟨B76,B75⟩:=M8 hS8.w (by simp only[Qi]; omega) (c:=(k:Int)) Qo c2' 8 Qd;refine I3 Bh8 ?_;rintro e5 zZ ⟨he5,hy5⟩;have AY6:=BD1.call hy5 nQ;have BD0:=BD1.kept hy5 nQ;have BW6:Fr W (Za (QI W7 (k:Int)) (k:Int)):=(hfW.trans hO8.fr).trans B75.fr;have sQ:SW (K+Qi+(k:Int)*Qi+Qi) (Za (QI W7 (k:Int)) (k:Int)):=B76;generalize Za (QI W7 (k:Int)) (k:Int)=zV at AY6 BW6 sQ cA;have e11:=zqf AY6 BW6;have Bu6:m7.cO=m.cO/\m7.tO=m.tO:=by rw[sP.hd]; exact⟨rfl,rfl⟩
   obtain⟨r1,r2,r3⟩:=Lx BW6;have hr:=AY6.rd;have c3':(k:Int)<(zV.IE.length:Int):=Qo;have qE:=sQ.cu (k:Int) Qo c3';have eM:=sQ.a.t;have CP8:=hr.c.ix Y6 (i:=(k:Int)) Qo c3';have hrC:=hr.c.f (i:=(k:Int)) Qo c3' (j:=1) rfl
   have hT:(decide ((gi zV.IE (k:Int)).cur>=0))=true->0<=(gi zV.IE (k:Int)).cur/\(gi zV.IE (k:Int)).cur<(zV.tasks.length:Int):=λg=>by
    have:=Ot g;exact⟨this,Qo⟩
   have mY:∀g:(decide ((gi zV.IE (k:Int)).cur>=0))=true,PX [x,x1] Yr #[.agg (Qb W m).toArray,I (gi zV.IE (k:Int)).cur] zZ (.bool (Z3 zV (gi zV.IE (k:Int)).cur)):=λg=>by
    have:=JZ hr sQ.a (hT g).1 (hT g).2 (λhs=>sQ.li (hT g).1 (hT g).2 hs)
    rwa[e11] at this
   rw[r1,Bu6.1] at CP8;rw[Bu6.1] at hrC;refine⟨_,_,_,_,_,_,_,_,_,_,he5,BD0,CP8,_,hrC,λg=>?_,(Q7 zV (gi zV.IE (k:Int)).cur).IZ,λg=>?_,Z3 zV (gi zV.IE (k:Int)).cur,λ_ g=>mY g,λg Sk AF8 AA9=>?_,λg=>?_⟩
   ·have:=hr.t.ix QF (hT g).1 (hT g).2
    rwa[r2,Bu6.2] at this
   ·have:=hr.t.f (hT g).1 (hT g).2 (j:=2) rfl
    rwa[Bu6.2] at this
   ·have BD2:=AY6.step AF8;have Bh9:=ZG BD2.own (c:=(k:Int)) Qo c3';rw[e11] at Bh9;refine I3 Bh9 ?_;rintro e6 gW ⟨he6,hy6⟩;have e12:=J0 (m:=m7) (zdl zV (k:Int));rw[e11] at e12;rw[e12] at he6;refine⟨_,_,_,_,_,_,_,_,_,_,he6,BD2.kept hy6 AA9,⟨Qo,Qo⟩,λSJ vM _=>⟨⟨k+1,m7,rfl,Qo,?_⟩,?_⟩⟩
    ·rw[AP6,cA,C' (by unfold MC; exact g)];exact(BD2.call hy6 AA9).step vM
    ·simp only[Zt,Xy,ZE,Ie]; omega
   ·refine⟨⟨Qo,Qo⟩,λSJ vM _=>⟨⟨k+1,m7,rfl,Qo,?_⟩,?_⟩⟩
    ·rw[AP6,cA,B' (by unfold MC; rw[g]; decide)];exact AY6.step vM
    ·simp only[Zt,Xy,ZE,Ie]; omega
  ·have Rx:=Ou Rx;have AP8:=AP8 Qo;rw[AP8];refine λw9 gL=>⟨m7,?_,(sP.step gL).close⟩
   rw[e7]; rfl
end
theorem Yy{n:Int}{w:Wo}{bs:List Nat}:PX bs ZA #[I n] w (.bool (decide (n<=Qn))):=ziu n λwr hx=>rfl
section
variable {W:Q8}{m:MW}{w:Wo}{bs:List Nat}
theorem KY(h:XE bs w W m)(hl:Ua W):PX bs Ui #[.agg (Qb W m).toArray] w (.bool (Ub (YI W/\LO W))):=
 Ap _ _ _ _ _ _ _ _ _ _ λwr hx=>by
  have h:=(h.ext hx).less (cs:=[]) Qs;intro x hx;refine⟨_,YC h hl.c hl.t hl.g hl.f,_,λ_=>Yy,λg=>Gg ?_,λg=>?_⟩
  ·rintro⟨wp,r⟩;rw[show QD W=true from Qj.2 wp,show decide (W.now<=Qn)=true from Ih r.n] at g;cases g
  ·simp only[H',I6] at g;have wp:YI W:=Qj.1 g.1;have CR8:=Ot g.2;have bZ:=wp.a.gl;have eM:=wp.a.t;have rV:=wp.a.c2;refine YV W.IE.length 0 rfl (λk=>k<=W.IE.length/\∀c:Int,0<=c->c<(k:Int)->(gi W.IE c).busy<=Qn/\(gi W.IE c).idle<=Qn) ⟨Ic _,λc a b=>by omega⟩ λk ⟨hk,hI⟩=>⟨λIN=>?_,λRx=>?_⟩
   ·have IN:=Ot IN;refine⟨h.c.ix Y6 Qo IN,_,h.c.f Qo IN (j:=3) rfl,_,Yy,λ_=>h.c.ix Y6 Qo IN,_,λ_=>h.c.f Qo IN (j:=4) rfl,_,λ_=>Yy,λg2=>Gg ?_,λg2=>⟨⟨Qo,Qo⟩,Qu Qo ⟨Qo,λc a b=>?_⟩⟩⟩
    ·rintro⟨_,r⟩;have:=r.c (k:Int) Qo IN;rw[Ih this.1,Ih this.2] at g2;cases g2
    ·by_cases e:c=(k:Int)
     ·subst e;simp only[H',I6] at g2;exact⟨Ot g2.1,Ot g2.2⟩
     ·exact hI c a Qo
   have Rx:=Ou Rx;have hC:∀c:Int,0<=c->c<(W.IE.length:Int)->(gi W.IE c).busy<=Qn/\(gi W.IE c).idle<=Qn:=λc a b=>hI c a Qo
   clear hI;refine YV W.tasks.length 0 rfl (λk=>k<=W.tasks.length/\∀t:Int,0<=t->t<(k:Int)->(gi W.tasks t).v<=Qn/\(gi W.tasks t).sum<=Qn/\(gi W.tasks t).used<=Qn) ⟨Ic _,λc a b=>by omega⟩ λk ⟨hk,hI⟩=>⟨λIN=>?_,λRx=>?_⟩
   ·have IN:=Ot IN;have Wg:=h.t.ix QF (i:=(k:Int)) Qo IN;refine⟨Wg,_,h.t.f Qo IN (j:=5) rfl,_,Yy,λ_=>Wg,_,λ_=>h.t.f Qo IN (j:=6) rfl,_,λ_=>Yy,λ_=>Wg,_,λ_=>h.t.f Qo IN (j:=7) rfl,_,λ_=>Yy,λg2=>Gg ?_,λg2=>⟨⟨Qo,Qo⟩,Qu Qo ⟨Qo,λc a b=>?_⟩⟩⟩
    ·rintro⟨_,r⟩;have:=r.t (k:Int) Qo IN;rw[Ih this.1,Ih this.2.1,Ih this.2.2] at g2;cases g2
    ·by_cases e:c=(k:Int)
     ·subst e;simp only[H',I6] at g2;exact⟨Ot g2.1.1,Ot g2.1.2,Ot g2.2⟩
     ·exact hI c a Qo
   have Rx:=Ou Rx;have hT:∀t:Int,0<=t->t<(W.tasks.length:Int)->(gi W.tasks t).v<=Qn/\(gi W.tasks t).sum<=Qn/\(gi W.tasks t).used<=Qn:=λc a b=>hI c a Qo
   clear hI;refine YV W.ID.length 0 rfl (λk=>k<=W.ID.length/\∀j:Int,0<=j->j<(k:Int)->(gi W.ID j).sum<=Qn/\∀c:Int,0<=c->c<((gi W.ID j).IF.length:Int)->(Qa W j c).floor<=Qn/\(Qa W j c).v<=Qn/\(Qa W j c).sum<=Qn) ⟨Ic _,λc a b=>by omega⟩ λk ⟨hk,hI⟩=>⟨λIN=>?_,λRx=>?_⟩
   ·have IN:=Ot IN;have Wg:=h.g.ix (i:=(k:Int)) Qo IN
    have hsl:(gi W.ID (k:Int)).IF.length<=4:=by
     have:=wp.a.grp (k:Int) Qo Qo
     cases hu:(gi W.ID (k:Int)).used with
     | true=>have:=(this.2 hu).len; omega
     | false=>have:=(this.1 hu).l; omega
    refine⟨Wg,_,(h.g.cells (k:Int) Qo IN).get 7 _ rfl,_,Yy,λg2=>Gg ?_,λg2=>?_⟩
    ·rintro⟨_,r⟩;have:=r.g (k:Int) Qo IN;rw[Ih this] at g2;cases g2
    have g2:(gi W.ID (k:Int)).sum<=Qn:=by simpa using g2
    have hrs:=h.g.IF (k:Int) Qo IN;refine YV (gi W.ID (k:Int)).IF.length 0 rfl (λq=>q<=(gi W.ID (k:Int)).IF.length/\∀c:Int,0<=c->c<(q:Int)->(Qa W (k:Int) c).floor<=Qn/\(Qa W (k:Int) c).v<=Qn/\(Qa W (k:Int) c).sum<=Qn) ⟨Ic _,λc a b=>by omega⟩ λq ⟨hq,hJ⟩=>⟨Wg,_,_,_,h.g.R0 Qo IN,λRA=>?_,λaN=>?_⟩
    ·have RA:=Ot RA;refine⟨Wg,_,_,_,h.g.R0 Qo IN,hrs.ix X0 Qo RA,_,_,_,_,_,hrs (q:Int) Qo RA,λb1 cJ=>⟨_,Yy,_,λ_=>Yy,_,λ_=>Yy,λg3=>Gg ?_,λg3=>⟨⟨Qo,Qo⟩,Qu Qo ⟨Qo,λc a b=>?_⟩⟩⟩⟩
     ·rintro⟨_,r⟩;have:=r.s (k:Int) (q:Int) Qo IN Qo RA;unfold Qa at this;rw[Ih this.1,Ih this.2.1,Ih this.2.2] at g3;cases g3
     ·by_cases e:c=(q:Int)
      ·subst e;simp only[H',I6] at g3;exact⟨Ot g3.1.1,Ot g3.1.2,Ot g3.2⟩
      ·exact hJ c a Qo
    ·have aN:=Ou aN;refine⟨⟨Qo,Qo⟩,Qu Qo ⟨Qo,λj a b=>?_⟩⟩
     by_cases e:j=(k:Int)
     ·subst e;exact⟨g2,λc a b=>hJ c a Qo⟩
     ·exact hI j a Qo
   ·have Rx:=Ou Rx;exact zpi ⟨wp,⟨CR8,hC,hT,λj a b=>(hI j a Qo).1,λj c a b c0 c1=>(hI j a Qo).2 c c0 c1⟩⟩
theorem Xx{t:Int}(h:XE bs w W m)(hl:W.tasks.length<=maxLen):PX bs Yl #[.agg (Qb W m).toArray,I t] w (.bool (ZB W t)):=
 ziw _ _ _ _ _ _ _ _ _ _ t λwr hx=>by
  have h:=(h.ext hx).less (cs:=[]) Qs;intro x hx;have:=XD;refine⟨⟨Qo,Qo⟩,_,Qm,λg=>?_,_,λg=>?_,rfl⟩
  ·have:=Qv.1 g;exact h.t.ix QF Qo Qo
  ·have:=Qv.1 g;exact h.t.f Qo Qo (j:=0) rfl
end
structure BV (base:Nat) (bs:List Nat) (w:Wo) (o:OA) (cap:Nat) (ps:List (ZX×MG)):Prop where
 own:Lo base w o cap ps
 nb:∀x∈QL o,x∉bs
 nm:∀i:Int,0<=i->i<(ps.length:Int)->∀x∈Qt (gi ps i).2,x∉bs
section
variable {base:Nat}{bs cs:List Nat}{w w':Wo}{o:OA}{cap:Nat}{ps:List (ZX×MG)}{b:Nat}
theorem BV.lt(h:BV base bs w o cap ps):(∀x∈QL o,base<=x/\x<w.heap.size)/\∀i:Int,0<=i->i<(ps.length:Int)->∀x∈Qt (gi ps i).2,base<=x/\x<w.heap.size:=⟨h.own.row.lt,λi a b=>(h.own.each i a b).lt⟩
theorem BV.ext(h:BV base bs w o cap ps)(hx:Q0 cs w w')(h1:∀x∈QL o,x∉cs)(h2:∀i:Int,0<=i->i<(ps.length:Int)->∀x∈Qt (gi ps i).2,x∉cs):BV base bs w' o cap ps:=
 ⟨⟨h.own.row.ext hx h1,λi a b=>(h.own.each i a b).ext hx (h2 i a b),h.own.dj⟩,h.nb,h.nm⟩
theorem BV.step(h:BV base bs w o cap ps)(hx:Q0 bs w w'):BV base bs w' o cap ps:=h.ext hx h.nb h.nm
theorem BV.R4(h:BV base bs w o cap ps)(hx:Q0 [] w w'):BV base bs w' o cap ps:=h.ext hx Qs Qs
theorem BV.add(h:BV base bs w o cap ps)(hb:w.heap.size<=b):BV base (bs++[b]) w o cap ps:=
 have key:∀x,x<w.heap.size->x∉bs->x∉bs++[b]:=λx hl hx hm=>by
  rcases Im.1 hm with hm | hm
  ·exact hx hm
  ·have:x=b:=by simpa using hm
   omega
 ⟨h.own,λx hx=>key x (h.lt.1 x hx).2 (h.nb x hx),λi a c x hx=>key x (h.lt.2 i a c x hx).2 (h.nm i a c x hx)⟩
theorem BV.put(h:BV base bs w o cap ps)(hx:Q0 bs w w')(hb:w.heap.size<=b):BV base (bs++[b]) w' o cap ps:=⟨(h.step hx).own,(h.add hb).nb,(h.add hb).nm⟩
theorem BV.sub(h:BV base bs w o cap ps)(hs:∀x∈cs,x∈bs):BV base cs w o cap ps:=⟨h.own,λx hx hm=>h.nb x hx (hs x hm),λi a c x hx hm=>h.nm i a c x hx (hs x hm)⟩
theorem BV.nil(base:Nat)(bs:List Nat)(w:Wo):BV base bs w none 0 []:=⟨⟨.inl ⟨rfl,rfl,rfl⟩,λi a b=>by simp at b; omega,λi j a b=>by simp at b; omega⟩,by simp[QL],λi a b=>by simp at b; omega⟩
theorem z3c{α:Type}[Inhabited α]{l:List α}{x:α}{i:Int}(h0:0<=i)(h1:i<(l.length:Int)):gi (l++[x]) i=gi l i:=by
 obtain⟨k,rfl⟩:=Int.eq_ofNat_of_zero_le h0;rw[JX (by simp; omega),JX Qo,List.getElem_append_left]
theorem z0n{α:Type}[Inhabited α]{l:List α}{x:α}:gi (l++[x]) (l.length:Int)=x:=by
 rw[JX Qs]; simp
theorem BV.AA1{p:ZX×MG}{t':TypeId}{fz:Nat×Nat}(h:BV base bs w o cap ps)(hs:∀x∈bs,x<w.heap.size)(sR:base<=w.heap.size)(hp:PR base w p)(hpb:∀x∈Qt p.2,x∉bs)(hd:∀i:Int,0<=i->i<(ps.length:Int)->∀x∈Qt (gi ps i).2,x∉Qt p.2)(hb:w.heap[b]? = some (.cells (Og p).toArray t' fz))(h1:Zl (Og p)=true)(hl:ps.length<=1048576)(tr:TypeId)(cs:Array Bool) :
  ∃o' qB w',(builtin .append #[QE,QE] tr cs #[.slice o ps.length cap,.slice (some ⟨b,0,none⟩) 1 1]).run Tryz.prog w=.ok (.value (.slice o' (ps++[p]).length qB)) w'/\Q9 bs w w'/\BV base bs w' o' qB (ps++[p])/\Q0 (QL o) w w':=by
 obtain⟨o2,c2,w2,W8,hk,hO,hx⟩:=Ob.AA1 YF PC (⟨h.own.row,h.nb⟩:Ob Og 14 QV base bs w o cap ps) hs sR hb h1 hl Qd tr cs;have hlen:(ps++[p]).length=ps.length+1:=Qs
 have BL6:∀i:Int,0<=i->i<((ps++[p]).length:Int)->(i<(ps.length:Int)/\gi (ps++[p]) i=gi ps i)\/(i=(ps.length:Int)/\gi (ps++[p]) i=p):=λi a b=>by
  by_cases e:i<(ps.length:Int)
  ·exact .inl ⟨e,z3c a e⟩
  ·have:i=(ps.length:Int):=Qo;subst this;exact .inr ⟨rfl,z0n⟩
 refine⟨o2,c2,w2,W8,hk,⟨⟨hO.own,λi a b=>?_,λi j a b c d e=>?_⟩,hO.nb,λi a b=>?_⟩,hx⟩
 ·rcases BL6 i a b with ⟨hi,hg⟩ | ⟨hi,hg⟩
  ·rw[hg]; exact(h.own.each i a hi).ext hx (JC h.own.row (h.own.each i a hi))
  ·rw[hg]; exact hp.ext hx (JC h.own.row hp)
 ·rcases BL6 i a b with ⟨hi,hg⟩ | ⟨hi,hg⟩ <;> rcases BL6 j c d with ⟨hj,hg'⟩ | ⟨hj,hg'⟩
  ·rw[hg,hg']; exact h.own.dj i j a hi c hj e
  ·rw[hg,hg']; exact hd i a hi
  ·rw[hg,hg']; exact λx hx hm=>hd j c hj x hm hx
  ·omega
 ·rcases BL6 i a b with ⟨hi,hg⟩ | ⟨hi,hg⟩
  ·rw[hg]; exact h.nm i a hi
  ·rw[hg]; exact hpb
end
theorem z42(g:ZX)(m:MG):Zl (YJ g m)=true:=rfl
theorem KM{W:Q8}(ha:WA W){k:Int}(k0:0<=k)(k1:k<8):(gi W.ID k).IP.Ry.length=(gi W.ID k).IP.locals.length/\(gi W.ID k).IP.locals.length<=4/\(gi W.ID k).IF.length<=4:=by
 have hg:=ha.grp k k0 k1;have hc:=ha.c2
 cases hu:(gi W.ID k).used with
 | false=>
  have:=hg.1 hu;have hb:=Ha this.b;have:=this.l;omega
 | true=>
  have:=hg.2 hu;have hl:=this.len
  by_cases hq:(gi W.ID k).IP.IX=0
  ·have hb:=Ha (this.none hq).1;omega
  ·have hb:=(this.IP hq).1;have h1:=hb.dl;have h2:=hb.l2;omega
section
variable {W:Q8}{m:MW}{w:Wo}{bs:List Nat}
def O9(W:Q8)(ms:Nat->MG)(k:Nat):List (ZX×MG):=(List.range k).map λ(j:Nat)=>(gi W.ID (j:Int),ms j)
theorem Xe(W:Q8)(ms:Nat->MG)(k:Nat):(O9 W ms k).length=k:=by simp[O9]
theorem HO{W:Q8}{ms:Nat->MG}{k:Nat}{i:Int}(h0:0<=i)(h1:i<(k:Int)):gi (O9 W ms k) i=(gi W.ID i,ms i.toNat):=by
 obtain⟨j,rfl⟩:=Int.eq_ofNat_of_zero_le h0;rw[JX (by rw[Xe]; omega)];simp[O9]
theorem zu9(W:Q8)(ms:Nat->MG)(k:Nat)(p:MG):O9 W (λj=>if j=k then p else ms j) (k+1)=O9 W ms k++[(gi W.ID (k:Int),p)]:=by
 unfold O9;rw[List.range_succ,List.map_append]
 congr 1
 ·refine List.map_congr_left λj hj=>?_
  have:=List.mem_range.1 hj;show (_,if j=k then p else ms j)=_;rw[B' Qo]
 ·simp
theorem M0(h:XE [] w W m)(ha:WA W) :
  Cz U4 #[.agg (Qb W m).toArray] w λe w'=>∃m',e=.returned (.agg (Qb W m').toArray)/\Zo 8 w.heap.size w' W m'/\Q0 [] w w':=by
 refine(zln _ _ _ _ _ _ _ _ _ _ (R:=λv w'=>∃m',v=.agg (Qb W m').toArray/\Zo 8 w.heap.size w' W m'/\Q0 [] w w') ?_).mono λe w' ⟨v,he,m',hv,h3⟩=>⟨m',by rw[he,hv],h3⟩
 have rV:=ha.c2;have eM:=ha.t;have bZ:=ha.gl;intro x hx x1 RZ x2 R5;have s0:Sc w [x,x1,x2] w:=(((Sc.start w).add hx).add RZ).add R5
 refine⟨λvs w1=>∃(i:Nat) (cO:OA) (cC:Nat),vs=[I (i:Int),I W.now,.slice cO (W.IE.take i).length cC,.slice none 0 0,.slice none 0 0]/\i<=W.IE.length/\Sc w [x,x1,x2] w1/\Ob Ge 5 Zb w.heap.size [x,x1,x2] w1 cO cC (W.IE.take i),
  Zt W.IE.length 0,λwr hx _=>⟨0,none,0,Qs,Ic _,s0.R4 hx,⟨.inl ⟨rfl,rfl,rfl⟩,by simp[QL]⟩⟩,?_⟩
 rintro c1 l S5 Sb Sh S6 Se Sg S7 S8 Sa RF SR ⟨i,cO,cC,he,hi,s1,hC⟩;simp only[I4,I5,Iv,true_and,and_true] at he;obtain⟨rfl,rfl,⟨rfl,rfl,rfl⟩,⟨rfl,rfl,rfl⟩,rfl,rfl,rfl⟩:=he;refine⟨λIN=>?_,λRx=>?_⟩
 ·have IN:=Ot IN;have hr:=h.c.scb s1;refine⟨hr.ix Y6 Qo IN,_,_,_,_,_,hr i Qo IN,λb4 hb4=>⟨rfl,λRr R6 fQ Ss=>?_⟩⟩;have s2:=s1.put R6 hb4;have hC2:=hC.put R6 hb4;obtain⟨o2,c2,w2,W8,uP,hC3,SI⟩:=hC2.AA1 HE KH (x:=gi W.IE (i:Int)) fQ s2.ext.size Ss (z3t _) (by rw[List.length_take]; omega) Qd Zr #[false,false];rw[Hn Qo] at W8 hC3;have s3:=s2.call SI λy hm=>(hC2.own.lt y hm).1
  refine⟨_,_,_,w2,W8,uP,⟨Qo,Qo⟩,λw5 Sm _=>⟨⟨i+1,o2,c2,rfl,Qo,(s3.step Sm).sub Qs,(hC3.step Sm).sub Qs⟩,?_⟩⟩;simp only[Zt,Xy,ZE,Ie]; omega
 have Rx:=Ou Rx;rw[show W.IE.take i=W.IE from List.take_of_length_le Qo] at hC ⊢
 refine⟨λvs w1=>∃(i:Nat) (tO:OA) (tC:Nat),vs=[I (i:Int),I W.now,.slice S5 W.IE.length Sh,.slice tO (W.tasks.take i).length tC,.slice none 0 0]/\i<=W.tasks.length/\Sc w [x,x1,x2] w1/\Ob Ge 5 Zb w.heap.size [x,x1,x2] w1 S5 Sh W.IE/\Ob XS 9 QO w.heap.size [x,x1,x2] w1 tO tC (W.tasks.take i),
  Zt W.tasks.length 0,λwr hx _=>⟨0,none,0,Qs,Ic _,s1.step hx,hC.step hx,⟨.inl ⟨rfl,rfl,rfl⟩,by simp[QL]⟩⟩,?_⟩
 clear hC s1 hi Rx SR;rintro t1 l4 mS iZ mR mM oZ mL kF nX mT gJ hs6 ⟨i,tO,tC,he,hi,s1,hC,hT⟩;simp only[I4,I5,Iv,true_and,and_true] at he;obtain⟨rfl,rfl,⟨rfl,rfl,rfl⟩,⟨rfl,rfl,rfl⟩,rfl,rfl,rfl⟩:=he;refine⟨λIN=>?_,λRx=>?_⟩
 ·have IN:=Ot IN;have hr:=h.t.scb s1;refine⟨hr.ix QF Qo IN,_,_,_,_,_,_,_,_,_,hr i Qo IN,λb4 hb4=>⟨rfl,λRr R6 fQ Ss=>?_⟩⟩;have s2:=s1.put R6 hb4;have hC2:=hC.put R6 hb4;have hT2:=hT.put R6 hb4;obtain⟨o2,c2,w2,W8,uP,hT3,SI⟩:=hT2.AA1 Mi MT (x:=gi W.tasks (i:Int)) fQ s2.ext.size Ss (z43 _) (by rw[List.length_take]; omega) Qd Z0 #[false,false];rw[Hn Qo] at W8 hT3;have s3:=s2.call SI λy hm=>(hT2.own.lt y hm).1
  have hC3:=hC2.call SI (hC2.own.U' hT2.own Qd);refine⟨_,_,_,w2,W8,uP,⟨Qo,Qo⟩,λw5 Sm _=>⟨⟨i+1,o2,c2,rfl,Qo,(s3.step Sm).sub Qs,(hC3.step Sm).sub Qs,(hT3.step Sm).sub Qs⟩,?_⟩⟩;simp only[Zt,Xy,ZE,Ie]; omega
 have Rx:=Ou Rx;rw[show W.tasks.take i=W.tasks from List.take_of_length_le Qo] at hT ⊢
 refine⟨λvs w1=>∃(i:Nat) (gO:OA) (gC:Nat) (ms:Nat->MG),vs=[I (i:Int),I W.now,.slice mS W.IE.length mR,.slice mM W.tasks.length mL,.slice gO (O9 W ms i).length gC]/\i<=W.ID.length/\Sc w [x,x1,x2] w1/\Ob Ge 5 Zb w.heap.size [x,x1,x2] w1 mS mR W.IE/\Ob XS 9 QO w.heap.size [x,x1,x2] w1 mM mL W.tasks/\BV w.heap.size [x,x1,x2] w1 gO gC (O9 W ms i),
  Zt W.ID.length 0,λwr hx _=>⟨0,none,0,λ_=>default,by simp[O9],Ic _,s1.step hx,hC.step hx,hT.step hx,BV.nil _ _ _⟩,?_⟩
 clear hC hT s1 hi Rx hs6;rintro k1 l22 A14 BX8 A13 A16 BX9 A15 BF6 Bk0 BF5 lY DM1 ⟨i,gO,gC,ms,he,hi,s1,hC,hT,hG⟩;simp only[I4,I5,Iv,true_and,and_true] at he;obtain⟨rfl,rfl,⟨rfl,rfl,rfl⟩,⟨rfl,rfl,rfl⟩,rfl,rfl,rfl⟩:=he;refine⟨λIN=>?_,λRx=>?_⟩
 ·have IN:=Ot IN;have hr:=h.g.ext s1.ext;have hrb:Lp [x,x1,x2] lY m.gO W.ID m.ms:=(h.g.wide (cs:=[x,x1,x2]) λy hm=>.inr (s1.new y hm)).ext s1.ext.of_nil;have Wg:=hrb.ix (i:=(i:Int)) Qo IN;obtain⟨bl1,bl2,bl3⟩:=KM ha (k:=(i:Int)) Qo Qo;refine⟨Wg,_,_,_,_,_,_,_,_,_,_,_,_,_,_,_,_,_,_,_,_,hrb.cells (i:Int) Qo IN,λnN Bt2=>⟨Wg,_,_,_,_,_,_,_,_,_,hrb.IP Qo IN,λeY Bv5 CA1=>?_⟩⟩;have s2:=s1.put Bv5 Bt2;have hC2:=hC.put Bv5 Bt2;have hT2:=hT.put Bv5 Bt2;have hG2:=hG.put Bv5 Bt2;have tZ:=h.g.ext s2.ext;refine I3 (Be (tZ.locals (i:Int) Qo IN) (tZ.Ry (i:Int) Qo IN) bl1 Qo) ?_;rintro e oB ⟨p,he,hB,hy⟩;have s3:=s2.R4 hy;have hC3:=hC2.R4 hy;have hT3:=hT2.R4 hy;have hG3:=hG2.R4 hy;have hBn:∀y∈YN p,eY.heap.size<=y:=λy hm=>(hB.lt y hm).1
  have hBb:∀y∈YN p,y∉[x,x1,x2]++[nN]:=λy hm gI=>by
   have:=hBn y hm;have:=CA1 y gI;omega
  refine⟨_,_,_,_,_,_,_,_,_,he,Qf hy CA1,λvs w1=>∃(c:Nat) (sO:OA) (sC:Nat),vs=[I (c:Int),.bool (gi W.ID (i:Int)).used,I (gi W.ID (i:Int)).parent,.string (gi W.ID (i:Int)).name,I (gi W.ID (i:Int)).weight,I (gi W.ID (i:Int)).IE,I (gi W.ID (i:Int)).period,I (gi W.ID (i:Int)).next,I (gi W.ID (i:Int)).sum,I (gi W.ID (i:Int)).IP.IX,I (gi W.ID (i:Int)).IP.RD,I (gi W.ID (i:Int)).IP.Sl,.slice p.lO (gi W.ID (i:Int)).IP.locals.length p.lC,.slice p.dO (gi W.ID (i:Int)).IP.Ry.length p.dC,.slice sO ((gi W.ID (i:Int)).IF.take c).length sC]/\c<=(gi W.ID (i:Int)).IF.length/\Sc w ([x,x1,x2]++[nN]) w1/\eY.heap.size<=w1.heap.size/\Ob Ge 5 Zb w.heap.size ([x,x1,x2]++[nN]) w1 A14 A13 W.IE/\Ob XS 9 QO w.heap.size ([x,x1,x2]++[nN]) w1 A16 A15 W.tasks/\BV w.heap.size ([x,x1,x2]++[nN]) w1 BF6 BF5 (O9 W ms i)/\Zs eY.heap.size w1 (gi W.ID (i:Int)).IP p/\Ob Po 5 ZD eY.heap.size ([x,x1,x2]++[nN]) w1 sO sC ((gi W.ID (i:Int)).IF.take c),
   Zt (gi W.ID (i:Int)).IF.length 0,λwr hx _=>⟨0,none,0,Qs,Ic _,s3.step hx,IB hy.size hx.size,hC3.step hx,hT3.step hx,hG3.step hx,hB.ext hx hBb,⟨.inl ⟨rfl,rfl,rfl⟩,by simp[QL]⟩⟩,?_⟩
  have rH:w.heap.size<=eY.heap.size:=s2.ext.size;have CL1:=hG2.lt;clear hB s3 hC3 hT3 hG3 hC2 hT2;rintro c4 l26 l27 l28 l29 l30 l31 l32 l33 l34 l35 l36 A19 A18 A17 A22 A21 A20 Au5 BF7 Au4 mV DM2 ⟨c,sO,sC,he,hc,s4,hz4,hC4,hT4,hG4,hB4,hS4⟩;simp only[I4,I5,Iv,Value.bool.injEq,Value.string.injEq,true_and,and_true] at he;obtain⟨rfl,rfl,rfl,rfl,rfl,rfl,rfl,rfl,rfl,rfl,rfl,rfl,⟨rfl,rfl,rfl⟩,⟨rfl,rfl,rfl⟩,rfl,rfl,rfl⟩:=he;have B98:Lp ([x,x1,x2]++[nN]) mV m.gO W.ID m.ms:=(h.g.wide (cs:=[x,x1,x2]++[nN]) λy hm=>.inr (s4.new y hm)).ext s4.ext.of_nil;refine⟨Wg,_,_,_,B98.R0 Qo IN,λRA=>?_,λaN=>?_⟩
  ·have RA:=Ot RA;have hrs:=B98.IF (i:Int) Qo IN;refine⟨Wg,_,_,_,B98.R0 Qo IN,hrs.ix X0 Qo RA,_,_,_,_,_,hrs c Qo RA,λuY Bh5=>⟨rfl,λjK BF2 Cv5 Ss=>?_⟩⟩;have s5:=s4.put BF2 Bh5;have hS5:=hS4.put BF2 Bh5;have CT9:eY.heap.size<=jK.heap.size:=IB hz4 BF2.size;obtain⟨o2,c2,w2,W8,uP,hS6,SI⟩:=hS5.AA1 M7 PD (x:=gi (gi W.ID (i:Int)).IF (c:Int)) Cv5 CT9 Ss (z3u _) (by rw[List.length_take]; omega) Qd Z8 #[false,false];rw[Hn Qo] at W8 hS6;have hG5:=hG4.put BF2 Bh5;have hC5:=hC4.put BF2 Bh5;have hT5:=hT4.put BF2 Bh5;have hB5:=hB4.ext BF2 hBb;have s6:=s5.call SI λy hm=>IB rH (hS5.own.lt y hm).1
   have hC6:=hC5.call SI (hC5.own.U' hS5.own Qd);have hT6:=hT5.call SI (hT5.own.U' hS5.own Qd)
   have hG6:=hG5.ext SI (hG5.own.row.U' hS5.own Qd) λj a b y hm gI=>by
    have:=(CL1.2 j a b y hm).2;have:=(hS5.own.lt y gI).1;omega
   have Co1:∀y∈YN p,y∉[x,x1,x2]++[nN]++[uY]:=λy hm gI=>by
    rcases Im.1 gI with h2 | h2
    ·exact hBb y hm h2
    ·have:y=uY:=by simpa using h2
     have:=(hB4.lt y hm).2;omega
   have hB6:=hB5.ext SI λy hm=>by
    rcases Im.1 hm with hm | hm
    ·exact hB5.loc.U' hS5.own Qd y hm
    ·exact hB5.Ry.U' hS5.own Qd y hm
   refine⟨_,_,_,w2,W8,uP,⟨Qo,Qo⟩,λw5 Sm _=>⟨⟨c+1,o2,c2,rfl,Qo,(s6.step Sm).sub Qs,?_,(hC6.step Sm).sub Qs,(hT6.step Sm).sub Qs,(hG6.step Sm).sub Qs,hB6.ext Sm Co1,(hS6.step Sm).sub Qs⟩,?_⟩⟩
   ·have:=SI.size;have:=Sm.size;omega
   ·simp only[Zt,Xy,ZE,Ie]; omega
  ·have aN:=Ou aN;rw[show (gi W.ID (i:Int)).IF.take c=(gi W.ID (i:Int)).IF from List.take_of_length_le Qo] at hS4 ⊢;intro b13 Bh6 mU BX6 Cv6 Ss;have s5:=s4.put BX6 Bh6;have hG5:=hG4.put BX6 Bh6;have hC5:=hC4.put BX6 Bh6;have hT5:=hT4.put BX6 Bh6;have hB5:=hB4.ext BX6 hBb;have hS5:=hS4.put BX6 Bh6
   have B21:∀y∈Qt ⟨p.lO,p.lC,p.dO,p.dC,Au5,Au4⟩,eY.heap.size<=y/\y<mV.heap.size:=λy hm=>by
    simp only[Qt,Im] at hm;rcases hm with (hm | hm) | hm
    ·exact hB4.loc.lt y hm
    ·exact hB4.Ry.lt y hm
    ·exact hS4.own.lt y hm
   obtain⟨o2,c2,w2,W8,uP,hG6,SI⟩:=hG5.AA1 (p:=(gi W.ID (i:Int),⟨p.lO,p.lC,p.dO,p.dC,Au5,Au4⟩)) Cv6 s5.ext.size ⟨(hB5.mono rH).loc,(hB5.mono rH).Ry,hS5.own.mono rH⟩ (λy hm gI=>by
     have h1:=B21 y hm;rcases Im.1 gI with h2 | h2
     ·have:=CA1 y h2; omega
     ·have:y=b13:=by simpa using h2
      omega) (λj a b y hm gI=>by
     have:=(CL1.2 j a b y hm).2;have:=(B21 y gI).1;omega) Ss (z42 _ _) (by rw[Xe]; omega) QE #[false,false]
   rw[<-zu9] at W8 hG6;have s6:=s5.call SI λy hm=>(hG5.own.row.lt y hm).1
   have hC6:=hC5.call SI (hC5.own.U' hG5.own.row Qd);have hT6:=hT5.call SI (hT5.own.U' hG5.own.row Qd);refine⟨_,_,_,w2,W8,uP,⟨Qo,Qo⟩,λw5 Sm _=>⟨⟨i+1,o2,c2,_,rfl,Qo,(s6.step Sm).sub Qs,(hC6.step Sm).sub Qs,(hT6.step Sm).sub Qs,(hG6.step Sm).sub Qs⟩,?_⟩⟩;simp only[Zt,Xy,ZE,Ie]; omega
 ·have Rx:=Ou Rx;have hi8:i=W.ID.length:=Qo;subst hi8;refine λw9 gL=>⟨⟨A14,A13,A16,A15,BF6,BF5,ms⟩,?_,⟨(hC.step gL).own,(hT.step gL).own,(hG.step gL).own,bZ⟩,(s1.step gL).ext⟩
  rw[Xe];rfl
theorem Zh(h:XE [] w W m)(hl:Ua W) :
  Cz QX #[.agg (Qb W m).toArray] w λe w'=>(QD W=false/\e=.returned (.tuple #[.agg (Qb Ll zzt).toArray,I 1])/\Q0 [] w w')\/(QD W=true/\∃m',e=.returned (.tuple #[.agg (Qb W m').toArray,I (if QT W=true then 0 else 10)])/\Zo 8 w.heap.size w' W m'/\Q0 [] w w'):=by
 refine(CZ _ _ _ _ _ _ _ _ _ _ (R:=λv w'=>(QD W=false/\v=.tuple #[.agg (Qb Ll zzt).toArray,I 1]/\Q0 [] w w')\/(QD W=true/\∃m',v=.tuple #[.agg (Qb W m').toArray,I (if QT W=true then 0 else 10)]/\Zo 8 w.heap.size w' W m'/\Q0 [] w w')) ?_).mono λe w' ⟨v,he,h3⟩=>by
  rw[he];rcases h3 with ⟨a,hv,b⟩ | ⟨a,m',hv,b⟩
  ·exact .inl ⟨a,by rw[hv],b⟩
  ·exact .inr ⟨a,m',by rw[hv],b⟩
 intro x hx x1 RZ;refine⟨_,YC h hl.c hl.t hl.g hl.f,λg wr hx=>.inl ⟨by simpa using g,rfl,hx⟩,λg I' R5 bX=>?_⟩;have hW:QD W=true:=by simpa using g
 have wp:=Qj.1 hW;refine I3 (M0 (h.ext R5) wp.a) ?_;rintro e wv ⟨m',he,hM,hy⟩
 have hnb:∀y∈QU 8 m',y∉[x,x1]:=λy hy hm=>by
  have:=(hM.lt y hy).1;have:=bX y hm;omega
 have hro:=KY (hM.rd hnb) hl;have Az8:∀w2,Q0 [x,x1] wv w2->Zo 8 w.heap.size w2 W m'/\Q0 [] w w2:=λw2 h2=>⟨(hM.mono R5.size).ext h2 hnb,(R5.trans hy).fresh h2 λy hm=>.inl (Xa hx RZ y hm)⟩
 refine⟨_,_,_,_,_,_,_,_,_,_,he,Qf hy bX,_,hro,λg2 w2 h2=>.inr ⟨hW,m',?_,Az8 w2 h2⟩,λg2 w2 h2=>.inr ⟨hW,m',?_,Az8 w2 h2⟩⟩
 ·have:¬QT W=true:=λhr=>by
   rw[show Ub (YI W/\LO W)=true from Qj.2 ⟨wp,Qj.1 hr⟩] at g2;cases g2
  rw[B' this]; rfl
 ·have hd:Ub (YI W/\LO W)=true:=by simpa using g2
  have:QT W=true:=Qj.2 (Qj.1 hd).2;rw[C' this]; rfl
end
structure Wk (n:Nat) (bs:List Nat) (w0 w:Wo) (W:Q8) (m:MW):Prop where
 s:Sc w0 bs w
 o:OW n w0.heap.size bs w W m
section
variable {n:Nat}{bs cs:List Nat}{w0 w w':Wo}{W W':Q8}{m m':MW}{b:Nat}
theorem Wk.step(h:Wk n bs w0 w W m)(hx:Q0 bs w w'):Wk n bs w0 w' W m:=⟨h.s.step hx,h.o.step hx⟩
theorem Wk.R4(h:Wk n bs w0 w W m)(hx:Q0 [] w w'):Wk n bs w0 w' W m:=⟨h.s.R4 hx,h.o.R4 hx⟩
theorem Wk.add(h:Wk n bs w0 w W m)(hb:w.heap.size<=b):Wk n (bs++[b]) w0 w W m:=⟨h.s.add hb,h.o.add hb⟩
theorem Wk.sub(h:Wk n bs w0 w W m)(hs:∀x∈cs,x∈bs):Wk n cs w0 w W m:=⟨h.s.sub hs,h.o.sub hs⟩
theorem Wk.rd(h:Wk n bs w0 w W m):XE bs w W m:=h.o.rd
theorem Wk.own(h:Wk n bs w0 w W m):Zo n w0.heap.size w W m:=h.o.own
theorem Wk.nb(h:Wk n bs w0 w W m):∀x∈QU n m,x∉bs:=h.o.nb
theorem Wk.base(h:Wk n bs w0 w W m):w0.heap.size<=w.heap.size:=h.s.ext.size
theorem Wk.Sn(h:Wk n bs w0 w W m)(k:Mv n w0.heap.size [] w m w' W' m')(hs:∀x∈bs,x<w.heap.size):Wk n bs w0 w' W' m':=
 ⟨h.s.call k.ext λx hx=>(h.o.own.lt x hx).1,⟨k.own,λx hx hm=>by
  rcases k.sub x hx with h1 | h1
  ·exact h.o.nb x h1 hm
  ·have:=hs x hm;omega⟩⟩
theorem Wk.kept(h:Wk n bs w0 w W m)(k:Mv n w0.heap.size [] w m w' W' m')(hs:∀x∈bs,x<w.heap.size):Q9 bs w w':=λx hm=>k.ext.block x (hs x hm) λgI=>h.o.nb x gI hm
theorem Wk.R9(h:Wk n bs w0 w W m)(k:Zo n w0.heap.size w' W' m)(hx:Q0 (QU n m) w w'):Wk n bs w0 w' W' m:=⟨h.s.call hx λx hx=>(h.o.own.lt x hx).1,⟨k,h.o.nb⟩⟩
theorem Wk.fin(h:Wk n bs w0 w W m):Zo n w0.heap.size w W m/\Q0 [] w0 w:=⟨h.o.own,h.s.ext⟩
end
def QR(r:Q8×Int)(w:Wo)(v:Va)(w':Wo):Prop:=∃n m',v=.tuple #[.agg (Qb r.1 m').toArray,I r.2]/\Zo n w.heap.size w' r.1 m'/\Q0 [] w w'
theorem Zo.zero(base:Nat)(w:Wo):Zo 0 base w Ll zzt:=⟨.inl ⟨rfl,rfl,rfl⟩,.inl ⟨rfl,rfl,rfl⟩,⟨.inl ⟨rfl,rfl,rfl⟩,λi a b=>by simp[zs4,Ll] at b; omega,λi j a b=>by simp[zs4,Ll] at b; omega⟩,rfl⟩
section
variable {W W':Q8}{m:MW}{w:Wo}{bar:Int}
theorem QR.bad{w':Wo}(hW:QD W=false)(hx:Q0 [] w w'):QR (YY W bar W') w (.tuple #[.agg (Qb Ll zzt).toArray,I 1]) w':=by
 rw[zr1 hW];exact⟨0,zzt,rfl,Zo.zero _ _,hx⟩
theorem QR.no{n:Nat}{bs:List Nat}{w':Wo}{m':MW}(hW:QD W=true)(hb:bar≠0)(hk:Wk n bs w w' W m'){c:Int}(hc:bar=c):QR (YY W bar W') w (.tuple #[.agg (Qb W m').toArray,I c]) w':=by
 rw[zk4 hW hb,hc];exact⟨n,m',rfl,hk.fin⟩
theorem QR.ok{n:Nat}{bs:List Nat}{w':Wo}{m':MW}(hW:QD W=true)(hb:bar=0)(hk:Wk n bs w w' W' m'):QR (YY W bar W') w (.tuple #[.agg (Qb W' m').toArray,I 0]) w':=by
 rw[zpp hW hb];exact⟨n,m',rfl,hk.fin⟩
theorem Wk.begin{x x1:Nat}{wr wv:Wo}{m':MW}(hx:w.heap.size<=x)(RZ:w.heap.size<=x1)(R5:Q0 [] w wr)(hs:∀y∈[x,x1],y<wr.heap.size)(hM:Zo 8 wr.heap.size wv W m')(hy:Q0 [] wr wv):Wk 8 [x,x1] w wv W m':=
 ⟨⟨R5.trans hy,Xa hx RZ⟩,(OW.of hM hs).mono R5.size⟩
theorem NZ{t:Int}(h:XE [] w W m)(hl:Ua W) :
  Cz TJ #[.agg (Qb W m).toArray,I t] w λe w'=>∃v,e=.returned v/\QR (YY W (Tr W t) (zk7 W t)) w v w':=by
 refine NE _ _ _ _ _ _ _ _ _ _ t (R:=λv w'=>QR (YY W (Tr W t) (zk7 W t)) w v w') ?_;intro x hx x1 RZ wr R5 SR;refine I3 (Zh (h.ext R5) hl) ?_;rintro e wv (⟨hW,he,hy⟩ | ⟨hW,m',he,hM,hy⟩)
 ·exact⟨_,_,_,_,_,_,_,_,_,_,_,he,Qf hy SR,λ_ I' R6=>QR.bad hW ((R5.trans hy).fresh R6 λy hm=>.inl (Xa hx RZ y hm)),λg=>by simp at g⟩
 have hK:=Wk.begin hx RZ R5 SR hM hy;have hr:=hK.rd;refine⟨_,_,_,_,_,_,_,_,_,_,_,he,Qf hy SR,λg=>by split at g <;> simp at g,λ_=>⟨_,Xx hr hl.t,λg M' R6=>?_,λg=>?_⟩⟩
 ·have g:ZB W t=false:=by simpa using g
  have hb:Tr W t=2:=by unfold Tr; rw[C' g]
  exact QR.no hW (by rw[hb]; decide) (hK.step R6) hb
 have g:ZB W t=true:=by simpa using g
 obtain⟨t0,t1,tn⟩:=Yv g;have Wg:=hr.t.ix QF t0 t1;refine⟨Wg,_,hr.t.f t0 t1 (j:=0) rfl,λg2 Rr R6=>?_,λg2=>⟨λg3 Ru R6=>?_,λg3=>?_⟩⟩
 ·have g2:(Q7 W t).state≠1:=by simpa[Q7] using g2
  have hb:Tr W t=6:=by unfold Tr; rw[B' (by rw[g]; decide),C' g2]
  exact QR.no hW (by rw[hb]; decide) (hK.step R6) hb
 ·have g2:¬(Q7 W t).state≠1:=by simpa[Q7] using g2
  have aZ:¬QT W=true:=λhr=>by rw[C' hr] at g3; simp at g3
  have hb:Tr W t=10:=by unfold Tr; rw[B' (by rw[g]; decide),B' g2,C' (by simpa using aZ)]
  rw[B' aZ];exact QR.no hW (by rw[hb]; decide) (hK.step R6) hb
 ·have g2:¬(Q7 W t).state≠1:=by simpa[Q7] using g2
  have aZ:QT W=true:=Iq λhr=>by rw[B' hr] at g3; simp at g3
  have hb:Tr W t=0:=by unfold Tr; rw[B' (by rw[g]; decide),B' g2,B' (by rw[aZ]; decide)]
  obtain⟨_,_,sw,sw1⟩:=zne hW hb;have SN:Zo 8 w.heap.size _ (IU W t { Q7 W t with state:=2 }) m':=hK.own.AD6 t0 t1 (j:=0) (vs:=[I 2]) (x:={ Q7 W t with state:=2 }) rfl Qs;refine⟨Wg,zts hK.own hK.nb t0 t1 Qd,λRN Sm kK=>?_⟩;have dR:=(hK.R9 SN Hm).step Sm;have Rq:=QA dR.own sw1 Qd Qd dR.base;have e5:Qb (IU W t { Q7 W t with state:=2 }) m'=Qb W m':=by simp[Qb,IU]
  rw[e5] at Rq;refine I3 Rq ?_;rintro e1 R8 ⟨m1,gP,cP⟩;exact⟨_,_,_,_,_,_,_,_,_,_,gP,dR.kept cP kK,λSj WT=>QR.ok hW hb ((dR.Sn cP kK).step WT)⟩
end
theorem Le{α:Type}[Inhabited α]{l:List α}{i:Int}(h0:0<=i)(h1:i<(l.length:Int)):l.set i.toNat (gi l i)=l:=by
 obtain⟨k,rfl⟩:=Int.eq_ofNat_of_zero_le h0;rw[JX Qo,Ig,List.set_getElem_self]
theorem MP{W:Q8}{k:Int}{b:Ve}(h0:0<=k)(h1:k<(W.ID.length:Int)):gi (RL W k b).ID k={ gi W.ID k with IP:=b }:=by
 unfold RL;rw[Xk h0 h1 h0,C' rfl]
theorem zkb{W:Q8}{k:Int}{b b':Ve}(h0:0<=k)(h1:k<(W.ID.length:Int)):RL (RL W k b) k b'=RL W k b':=by
 show Rn (RL W k b) k { gi (RL W k b).ID k with IP:=b' }=_;rw[MP h0 h1];unfold RL Rn;rw[List.set_set]
theorem zkc{W:Q8}{k:Int}{x y:ZX}:Rn (Rn W k x) k y=Rn W k y:=by unfold Rn; rw[List.set_set]
theorem zfo{W:Q8}{k:Int}(h0:0<=k)(h1:k<(W.ID.length:Int)):RL W k (gi W.ID k).IP=W:=by
 show Rn W k (gi W.ID k)=W;unfold Rn;rw[Le h0 h1]
section
variable {base:Nat}{W:Q8}{m:MW}{w:Wo}{k:Int}{b:Ve}
abbrev zos(m:MW)(k:Int):OA:=m.gO.map (·.add (Int.toNat k*14+8))
theorem Np(h:Zo 8 base w (RL W k b) m):W.ID.length=8:=by
 have:=h.len
 simpa[RL,Rn] using this
theorem Zo.Az0(h:Zo 8 base w (RL W k b) m)(k0:0<=k)(k8:k<8):Q1 [] w m.gO (Int.toNat k*14+8) (Zy b (m.ms k.toNat))/\zm9 [] w (m.ms k.toNat).lO b.locals/\zv3 [] w (m.ms k.toNat).dO b.Ry:=by
 have hr:=(h.rd (bs:=[]) Qs).g;have hl:=Np h;have hl2:=h.len;have hg:=MP (W:=W) (b:=b) k0 Qo;have h1:=hr.IP k0 Qo;have h2:=hr.locals k k0 Qo;have h3:=hr.Ry k k0 Qo;rw[hg] at h1 h2 h3;exact⟨h1,h2,h3⟩
theorem Zo.bdC(h:Zo 8 base w (RL W k b) m)(k0:0<=k)(k8:k<8){j:Nat}{v:Va}(hj:(Zy b (m.ms k.toNat))[j]? = some v):Q1 [] w (zos m k) (0+j) [v]:=KN (h.Az0 k0 k8).1 hj
theorem Zo.sL(h:Zo 8 base w (RL W k b) m)(k0:0<=k)(k8:k<8):(zos m k).isSome=true:=Lf (h.Az0 k0 k8).1
theorem Zo.Bf7(h:Zo 8 base w (RL W k b) m)(k0:0<=k)(k8:k<8){j n:Nat}(hj:j+n<=5):Xm [] w (zos m k) (0+j) n:=by
 have:=ztr h (bs:=[]) Qs k0 Qo (j:=8+j) (k:=n) Qo;refine zbp.2 ?_;rw[Nat.zero_add,Nat.add_assoc];exact this
theorem Zo.BK9(h:Zo 8 base w (RL W k b) m)(k0:0<=k)(k8:k<8){c:Int}(c0:0<=c)(c1:c<(b.locals.length:Int)):Xm [] w (m.ms k.toNat).lO (Int.toNat c*1) 1:=by
 have hl:=Np h;have:=z6h h (bs:=[]) Qs k0 Qo (c:=c) c0 (by rw[MP k0 Qo]; exact c1) (j:=0) (k:=1) Qd;exact this
theorem Zo.Bz9(h:Zo 8 base w (RL W k b) m)(k0:0<=k)(k8:k<8){c:Int}(c0:0<=c)(c1:c<(b.Ry.length:Int)):Xm [] w (m.ms k.toNat).dO (Int.toNat c*1) 1:=by
 have hl:=Np h;have:=z6g h (bs:=[]) Qs k0 Qo (c:=c) c0 (by rw[MP k0 Qo]; exact c1) (j:=0) (k:=1) Qd;exact this
theorem Zo.Az1(h:Zo 8 base w (RL W k b) m)(k0:0<=k)(k8:k<8){b':Ve}(e1:b'.locals=b.locals)(e2:b'.Ry=b.Ry){j:Nat}{vs:List Va}(he:Zy b' (m.ms k.toNat)=(Zy b (m.ms k.toNat)).take j++vs++(Zy b (m.ms k.toNat)).drop (j+vs.length))(hj:j+vs.length<=5) :
  Zo 8 base (R9 w (zos m k) (0+j) vs) (RL W k b') m:=by
 have hl:=Np h;have hg:=MP (W:=W) (b:=b) k0 Qo
 have this:Zo 8 base _ (Rn (RL W k b) k { gi W.ID k with IP:=b' }) m:=h.A48 k0 Qo (g:={ gi W.ID k with IP:=b' }) (by rw[hg]; exact e1) (by rw[hg]; exact e2) (by rw[hg]) (j:=8+j) (vs:=vs) (by
  rw[hg];have e:∀x:Ve,YJ { gi W.ID k with IP:=x } (m.ms k.toNat)=(YJ (gi W.ID k) (m.ms k.toNat)).take 8++Zy x (m.ms k.toNat)++[.slice (m.ms k.toNat).sO (gi W.ID k).IF.length (m.ms k.toNat).sC]:=λx=>rfl
  rw[e b',e b,he];have l8:((YJ (gi W.ID k) (m.ms k.toNat)).take 8).length=8:=rfl;have l5:(Zy b (m.ms k.toNat)).length=5:=rfl;generalize (YJ (gi W.ID k) (m.ms k.toNat)).take 8=A at l8;generalize Zy b (m.ms k.toNat)=B at l5
  have t1:(A++B++[Value.slice (m.ms k.toNat).sO (gi W.ID k).IF.length (m.ms k.toNat).sC]).take (8+j)=A++B.take j:=by
   rw[List.append_assoc,List.take_append,List.take_of_length_le Qo,l8,show 8+j-8=j by omega,List.take_append,show j-B.length=0 by omega,List.take_zero,List.append_nil]
  have t2:(A++B++[Value.slice (m.ms k.toNat).sO (gi W.ID k).IF.length (m.ms k.toNat).sC]).drop (8+j+vs.length)=B.drop (j+vs.length)++[Value.slice (m.ms k.toNat).sO (gi W.ID k).IF.length (m.ms k.toNat).sC]:=by
   rw[List.append_assoc,List.drop_append,List.drop_eq_nil_iff.2 Qo,List.nil_append,l8,show 8+j+vs.length-8=j+vs.length by omega,List.drop_append,show j+vs.length-B.length=0 by omega,List.drop_zero]
  rw[t1,t2];simp only[List.append_assoc]) Qo
 rw[show Rn (RL W k b) k { gi W.ID k with IP:=b' }=RL W k b' from zkc] at this;rw[HU,Nat.zero_add,Nat.add_assoc];exact this
theorem Zo.AO9{j:Nat}{vs:List Va}:Q0 (QU 8 m) w (R9 w (zos m k) (0+j) vs):=by rw[HU]; exact za3
theorem Zo.As5(h:Zo 8 base w (RL W k b) m)(k0:0<=k)(k8:k<8){c:Int}(c0:0<=c)(c1:c<(b.locals.length:Int))(x:Int) :
  Zo 8 base (R9 w (m.ms k.toNat).lO (Int.toNat c*1) [I x]) (RL W k { b with locals:=b.locals.set c.toNat x }) m:=by
 have hl:=Np h;have hg:=MP (W:=W) (b:=b) k0 Qo;have hb:(gi (RL W k b).ID k).IP=b:=by rw[hg]
 have this:Zo 8 base _ (RL (RL W k b) k { (gi (RL W k b).ID k).IP with locals:=(gi (RL W k b).ID k).IP.locals.set c.toNat x }) m:=h.dL k0 Qo c0 (by rw[hg]; exact c1) x;rw[zkb k0 Qo,hb] at this;exact this
theorem Zo.Bf6(h:Zo 8 base w (RL W k b) m)(k0:0<=k)(k8:k<8){c:Int}(c0:0<=c)(c1:c<(b.Ry.length:Int))(x:Bool) :
  Zo 8 base (R9 w (m.ms k.toNat).dO (Int.toNat c*1) [.bool x]) (RL W k { b with Ry:=b.Ry.set c.toNat x }) m:=by
 have hl:=Np h;have hg:=MP (W:=W) (b:=b) k0 Qo;have hb:(gi (RL W k b).ID k).IP=b:=by rw[hg]
 have this:Zo 8 base _ (RL (RL W k b) k { (gi (RL W k b).ID k).IP with Ry:=(gi (RL W k b).ID k).IP.Ry.set c.toNat x }) m:=h.Bw8 k0 Qo c0 (by rw[hg]; exact c1) x;rw[zkb k0 Qo,hb] at this;exact this
def zrq(base:Nat)(W:Q8)(m:MW)(k:Int)(b':Ve)(w w':Wo):Prop:=Zo 8 base w' (RL W k b') m/\Q0 (QU 8 m) w w'
theorem zd4(h:Zo 8 base w (RL W k b) m)(k0:0<=k)(k8:k<8)(hl:b.Ry.length<=1048576) :
  Cz UU #[.pointer (zos m k)] w λe w'=>e=.returned (.tuple #[])/\zrq base W m k { b with Ry:=List.replicate b.Ry.length false } w w':=by
 refine(CM (zos m k) (R:=λv w'=>v=.tuple #[]/\zrq base W m k { b with Ry:=List.replicate b.Ry.length false } w w') ?_).mono λe w' ⟨v,he,hv,h3⟩=>⟨by rw[he,hv],h3⟩
 refine⟨h.sL k0 k8,_,_,_,h.bdC k0 k8 (j:=4) rfl,?_⟩;refine XJ b.Ry.length 0 rfl (λj w1=>j<=b.Ry.length/\Zo 8 base w1 (RL W k { b with Ry:=List.replicate j false++b.Ry.drop j }) m/\Q0 (QU 8 m) w w1) (λw1 RZ _=>⟨Ic _,by simpa using h.Wt RZ,RZ.of_nil⟩) λj w1 hs ⟨hj,hO,hX⟩=>⟨λIN=>?_,λRx=>?_⟩
 ·have IN:=Ot IN;have hlen:(List.replicate j false++b.Ry.drop j).length=b.Ry.length:=by simp; omega
  have c1:(j:Int)<((List.replicate j false++b.Ry.drop j).length:Int):=by rw[hlen]; exact IN
  have e1:=hO.Bf6 k0 k8 (c:=(j:Int)) Qo c1 false;have Ss:=hO.bdC k0 k8 (j:=4) rfl;have Wg:=(hO.Az0 k0 k8).2.2.ix Lv (i:=(j:Int)) Qo c1;refine⟨hO.sL k0 k8,_,_,_,Ss,Wg,hO.Bz9 k0 k8 Qo c1,⟨Qo,Qo⟩,λw2 R5 _=>Qp Qo ⟨Qo,?_,?_⟩⟩
  ·have e2:=e1.Wt R5;simp only[Ig] at e2;rw[zpg _ _ Qo] at e2;exact e2
  ·exact(hX.trans (z47 Qo)).trans R5.of_nil
 ·have Rx:=Ou Rx;have uP:j=b.Ry.length:=Qo;subst uP;rw[List.drop_length,List.append_nil] at hO;exact λw2 R5=>⟨rfl,hO.Wt R5,hX.trans R5.of_nil⟩
theorem zd1(h:Zo 8 base w (RL W k b) m)(k0:0<=k)(k8:k<8)(hb:P0 b){c:Int}(c0:0<=c)(c1:c<(b.locals.length:Int)) :
  Cz Uy #[.pointer (zos m k),I c] w λe w'=>e=.returned (I 0)/\zrq base W m k (Yo b c) w w':=by
 refine(Df (zos m k) c (R:=λv w'=>v=I 0/\zrq base W m k (Yo b c) w w') ?_).mono λe w' ⟨v,he,hv,h3⟩=>⟨by rw[he,hv],h3⟩
 have he':=hb.each c c0 c1;have p1:=hb.p1;have p2:=hb.p2;have q2:=hb.q2;have hs:=h.sL k0 k8;have hL:=(h.Az0 k0 k8).2.1;have Wg:=hL.ix XV c0 c1;have e1:=h.Az1 k0 k8 (b':={ b with RD:=b.RD+gi b.locals c }) rfl rfl (j:=1) (vs:=[I (b.RD+gi b.locals c)]) rfl Qs;have e2:=e1.As5 k0 k8 c0 c1 0;have hX:=(Zo.AO9 (m:=m) (k:=k) (w:=w) (j:=1) (vs:=[I (b.RD+gi b.locals c)])).trans (z11 (m:=m) (k:=Int.toNat c*1) (vs:=[I 0]) (i:=k.toNat) Qo);refine⟨hs,_,h.bdC k0 k8 (j:=1) rfl,hs,_,_,_,h.bdC k0 k8 (j:=3) rfl,Wg,_,hL c c0 c1,⟨Qo,Qo⟩,hs,h.Bf7 k0 k8 (j:=1) Qd,hs,_,_,_,e1.bdC k0 k8 (j:=3) rfl,Wg,e1.BK9 k0 k8 c0 c1,hs,_,e2.bdC k0 k8 (j:=1) rfl,λg wr hx _=>?_,λg wr hx=>⟨rfl,?_,hX.trans hx.of_nil⟩⟩
 ·have g:=Ot g;refine I3 (zd4 (e2.Wt hx) k0 k8 (by show b.Ry.length<=_; have:=hb.dl; have:=hb.l2; omega)) ?_;rintro e wv ⟨he,hM,hy⟩;refine⟨he,Ys,λI' RZ=>⟨rfl,?_,((hX.trans hx.of_nil).trans hy).trans RZ.of_nil⟩⟩;have:Yo b c=⟨b.IX,b.RD+gi b.locals c,b.Sl,b.locals.set c.toNat 0,List.replicate b.Ry.length false⟩:=by unfold Yo; rw[C' g]
  rw[this];exact hM.Wt RZ
 ·have g:=Ou g;have:Yo b c=⟨b.IX,b.RD+gi b.locals c,b.Sl,b.locals.set c.toNat 0,b.Ry⟩:=by unfold Yo; rw[B' g]
  rw[this];exact e2.Wt hx
theorem zqa(l:List Int)(k:Nat)(h:k<l.length):(List.replicate k (0:Int)++l.drop k).set k 0=List.replicate (k+1) 0++l.drop (k+1):=by
 rw[List.set_append,B' Qs,List.length_replicate,Nat.sub_self,List.drop_eq_getElem_cons h,List.set_cons_zero,List.replicate_succ',List.append_assoc,List.singleton_append]
theorem zd0(h:Zo 8 base w (RL W k b) m)(k0:0<=k)(k8:k<8)(hb:P0 b) :
  Cz Ux #[.pointer (zos m k)] w λe w'=>e=.returned (I 0)/\zrq base W m k (JB b) w w':=by
 refine(De (zos m k) (R:=λv w'=>v=I 0/\zrq base W m k (JB b) w w') ?_).mono λe w' ⟨v,he,hv,h3⟩=>⟨by rw[he,hv],h3⟩
 have hdl:=hb.dl;have hl2:=hb.l2;have hs:=h.sL k0 k8;have e1:=h.Az1 k0 k8 (b':={ b with RD:=b.IX }) rfl rfl (j:=1) (vs:=[I b.IX]) rfl Qs;have e2:=e1.Az1 k0 k8 (b':={ b with RD:=b.IX,Sl:=0 }) rfl rfl (j:=2) (vs:=[I 0]) rfl Qs;have hX2:=(Zo.AO9 (m:=m) (k:=k) (w:=w) (j:=1) (vs:=[I b.IX])).trans (Zo.AO9 (m:=m) (k:=k) (j:=2) (vs:=[I 0]));refine⟨hs,_,h.bdC k0 k8 (j:=0) rfl,hs,h.Bf7 k0 k8 (j:=1) Qd,hs,e1.Bf7 k0 k8 (j:=2) Qd,hs,_,_,_,e2.bdC k0 k8 (j:=3) rfl,?_⟩;refine XJ b.locals.length 0 rfl (λj w1=>j<=b.locals.length/\Zo 8 base w1 (RL W k { b with RD:=b.IX,Sl:=0,locals:=List.replicate j 0++b.locals.drop j }) m/\Q0 (QU 8 m) w w1) (λw1 RZ _=>⟨Ic _,by simpa using e2.Wt RZ,hX2.trans RZ.of_nil⟩) λj w1 hs ⟨hj,hO,hX⟩=>⟨λIN=>?_,λRx=>?_⟩
 ·have IN:=Ot IN;have hlen:(List.replicate j (0:Int)++b.locals.drop j).length=b.locals.length:=by simp; omega
  have c1:(j:Int)<((List.replicate j (0:Int)++b.locals.drop j).length:Int):=by rw[hlen]; exact IN
  have e1:=hO.As5 k0 k8 (c:=(j:Int)) Qo c1 0;have Ss:=hO.bdC k0 k8 (j:=3) rfl;have Wg:=(hO.Az0 k0 k8).2.1.ix XV (i:=(j:Int)) Qo c1;refine⟨hO.sL k0 k8,_,_,_,Ss,Wg,hO.BK9 k0 k8 Qo c1,⟨Qo,Qo⟩,λw2 R5 _=>Qp Qo ⟨Qo,?_,?_⟩⟩
  ·have e2:=e1.Wt R5;simp only[Ig] at e2;rw[zqa _ _ Qo] at e2;exact e2
  ·exact(hX.trans (z11 Qo)).trans R5.of_nil
 ·have Rx:¬(j:Int)<(b.locals.length:Int):=Ou Rx;have uP:j=b.locals.length:=Qo;subst uP;rw[List.drop_length,List.append_nil] at hO;intro M' R5 _;refine I3 (zd4 (hO.Wt R5) k0 k8 (by show b.Ry.length<=_; omega)) ?_;rintro e wv ⟨he,hM,hy⟩;refine⟨he,Ys,λI' RZ=>⟨rfl,?_,((hX.trans R5.of_nil).trans hy).trans RZ.of_nil⟩⟩;unfold JB;rw[show List.replicate b.Ry.length (0:Int)=List.replicate b.locals.length 0 by rw[hdl]];exact hM.Wt RZ
theorem z4v(p:Int):(if p<20 then p else 20)=ZI 20 p:=by
 unfold ZI
 split <;> split <;> omega
theorem zvd{l:List Bool}{c:Int}(c0:0<=c)(c1:c<(l.length:Int))(h:gi l c=false):l.set c.toNat false=l:=by
 have:=Le c0 c1
 rwa[h] at this
theorem zyz{l:List Int}{c:Int}(c0:0<=c)(c1:c<(l.length:Int))(h:gi l c=0):l.set c.toNat 0=l:=by
 have:=Le c0 c1
 rwa[h] at this
theorem zl2(h:Zo 8 base w (RL W k b) m)(k0:0<=k)(k8:k<8)(hb:P0 b){c:Int}(c0:0<=c)(c1:c<(b.locals.length:Int)) :
  Cz VR #[.pointer (zos m k),I c] w λe w'=>e=.returned (I (Yf b c).2)/\zrq base W m k (Yf b c).1 w w':=by
 refine(FM (zos m k) c (R:=λv w'=>v=I (Yf b c).2/\zrq base W m k (Yf b c).1 w w') ?_).mono λe w' ⟨v,he,hv,h3⟩=>⟨by rw[he,hv],h3⟩
 have he':=hb.each c c0 c1;have hdl:=hb.dl;have p1:=hb.p1;have p2:=hb.p2;have q2:=hb.q2;have hm:=zbi p1;have hs:=h.sL k0 k8;have hL:=(h.Az0 k0 k8).2.1;have hD:=(h.Az0 k0 k8).2.2;have Wg:=hL.ix XV c0 c1;refine⟨hs,_,_,_,h.bdC k0 k8 (j:=3) rfl,Wg,_,hL c c0 c1,λg wr hx=>?_,λg=>⟨hs,_,h.bdC k0 k8 (j:=1) rfl,?_⟩⟩
 ·have ht:Yf b c=(b,0):=by unfold Yf; rw[C' (Ot g)]
  rw[ht];exact⟨rfl,h.Wt hx,hx.of_nil⟩
 have g:=Ou g;have hz:gi b.locals c=0:=Qo;have ht:Yf b c=(⟨b.IX,b.RD-ZI 20 b.RD,b.Sl,b.locals.set c.toNat (ZI 20 b.RD),b.Ry.set c.toNat (ZI 20 b.RD==0)⟩,if ZI 20 b.RD=0 then 2 else 0):=by unfold Yf; rw[B' g]
 rw[ht,z4v];refine⟨λg2=>?_,λg2=>?_⟩
 ·have g2':ZI 20 b.RD=0:=by simpa using g2
  have e1:=h.Bf6 k0 k8 c0 Qo true;refine⟨hs,_,_,_,h.bdC k0 k8 (j:=4) rfl,hD.ix Lv c0 Qo,h.Bz9 k0 k8 c0 Qo,λwr hx=>⟨by rw[C' g2'],?_,(z47 Qo).trans hx.of_nil⟩⟩
  dsimp only
  rw[g2',Int.sub_zero,zyz c0 c1 hz];exact e1.Wt hx
 ·have g2':ZI 20 b.RD≠0:=by simpa using g2
  have tY:gi b.Ry c=false:=by
   cases hd:gi b.Ry c with
   | false=>rfl
   | true=>have:=(he'.2.2 hd).2; omega
  have e1:=h.Az1 k0 k8 (b':={ b with RD:=b.RD-ZI 20 b.RD }) rfl rfl (j:=1) (vs:=[I (b.RD-ZI 20 b.RD)]) rfl Qs;have e2:=e1.As5 k0 k8 c0 c1 (ZI 20 b.RD);have hX:=(Zo.AO9 (m:=m) (k:=k) (w:=w) (j:=1) (vs:=[I (b.RD-ZI 20 b.RD)])).trans (z11 (m:=m) (k:=Int.toNat c*1) (vs:=[I (ZI 20 b.RD)]) (i:=k.toNat) Qo);refine⟨hs,_,h.bdC k0 k8 (j:=1) rfl,⟨Qo,Qo⟩,hs,h.Bf7 k0 k8 (j:=1) Qd,hs,_,_,_,e1.bdC k0 k8 (j:=3) rfl,Wg,e1.BK9 k0 k8 c0 c1,λwr hx=>⟨by rw[B' g2'],?_,hX.trans hx.of_nil⟩⟩
  dsimp only
  rw[g2,zvd c0 Qo tY];exact e2.Wt hx
theorem zht(h:Zo 8 base w (RL W k b) m)(k0:0<=k)(k8:k<8)(hb:P0 b){c n:Int}(c0:0<=c)(c1:c<(b.locals.length:Int)) :
  Cz Vh #[.pointer (zos m k),I c,I n] w λe w'=>e=.returned (I (XX b c n).2)/\zrq base W m k (XX b c n).1 w w':=by
 refine(Eo (zos m k) c n (R:=λv w'=>v=I (XX b c n).2/\zrq base W m k (XX b c n).1 w w') ?_).mono λe w' ⟨v,he,hv,h3⟩=>⟨by rw[he,hv],h3⟩
 have he':=hb.each c c0 c1;have q2:=hb.q2;have s1:=hb.s1;have s2:=hb.s2;have hs:=h.sL k0 k8;have hL:=(h.Az0 k0 k8).2.1;have Wg:=hL.ix XV c0 c1;refine⟨λ_=>hs,_,_,_,λ_=>h.bdC k0 k8 (j:=3) rfl,λ_=>Wg,_,λ_=>hL c c0 c1,λg wr hx=>?_,λg=>?_⟩
 ·have ht:XX b c n=(b,3):=by unfold XX; rw[C' (by simpa using g)]
  rw[ht];exact⟨rfl,h.Wt hx,hx.of_nil⟩
 ·have g':¬(n<1\/n>gi b.locals c):=by simpa using g
  have ht:XX b c n=({ b with Sl:=b.Sl+n,locals:=b.locals.set c.toNat (gi b.locals c-n) },0):=by unfold XX; rw[B' g']
  rw[ht];have e1:=h.As5 k0 k8 c0 c1 (gi b.locals c-n);have e2:=e1.Az1 k0 k8 (b':={ b with Sl:=b.Sl+n,locals:=b.locals.set c.toNat (gi b.locals c-n) }) rfl rfl (j:=2) (vs:=[I (b.Sl+n)]) rfl Qs;have hX:=(z11 (m:=m) (w:=w) (k:=Int.toNat c*1) (vs:=[I (gi b.locals c-n)]) (i:=k.toNat) (n:=8) Qo).trans (Zo.AO9 (m:=m) (k:=k) (j:=2) (vs:=[I (b.Sl+n)]));exact⟨hs,_,_,_,h.bdC k0 k8 (j:=3) rfl,Wg,_,hL c c0 c1,⟨Qo,Qo⟩,Wg,h.BK9 k0 k8 c0 c1,hs,_,e1.bdC k0 k8 (j:=2) rfl,⟨by show _<=b.Sl+n; omega,by show b.Sl+n<=_; omega⟩,hs,e1.Bf7 k0 k8 (j:=2) Qd,λwr hx=>⟨rfl,e2.Wt hx,hX.trans hx.of_nil⟩⟩
theorem zul(h:Zo 8 base w (RL W k b) m)(k0:0<=k)(k8:k<8)(hb:P0 b){op:z5h} :
  Cz Pp #[.pointer (zos m k),.agg (z4r op).toArray] w λe w'=>e=.returned (I (Y1 b op).2)/\zrq base W m k (Y1 b op).1 w w':=by
 refine(zc0 (zos m k) op.kind op.oJ op.n (R:=λv w'=>v=I (Y1 b op).2/\zrq base W m k (Y1 b op).1 w w') ?_).mono λe w' ⟨v,he,hv,h3⟩=>⟨by rw[he,hv],h3⟩
 have hl2:=hb.l2;have hs:=h.sL k0 k8;intro b1 cJ
 have one:∀{w1:Wo},Q0 [] w w1->∀y∈QU 8 m,y∉[b1]:=λ_ y hy hm=>by
  have:y=b1:=by simpa using hm
  have:=(h.lt y hy).2;omega
 have fin:∀{w1 w2 w3:Wo} {b':Ve} {c:Int},Q0 [] w w1->(∀y∈[b1],y<w1.heap.size)->zrq base W m k b' w1 w2->Q0 [b1] w2 w3->Y1 b op=(b',c)->Q9 [b1] w1 w2/\zrq base W m k (Y1 b op).1 w w3:=λh1 h2 h3 h4 h5=>by
  refine⟨λy hm=>h3.2.block y (h2 y hm) λgI=>one h1 y gI hm,?_⟩;rw[h5]
  exact ⟨h3.1.ext h4 (one h1), (h1.of_nil.trans h3.2).fresh h4 fun y hm => .inl (by have:y=b1:=by simpa using hm
                                                                                    omega)⟩
 refine⟨λg wr hx bX=>?_,λg=>⟨hs,_,_,_,h.bdC k0 k8 (j:=3) rfl,⟨Qo,Qo⟩,_,QC,λg2 wr hx=>?_,λg2=>?_⟩⟩
 ·have dH:Y1 b op=(JB b,0):=by unfold Y1; rw[C' (by simpa using g)]
  refine I3 (zd0 (h.Wt hx) k0 k8 hb) ?_;rintro e wv ⟨he,hR⟩;exact⟨_,he,(fin hx bX hR (Q0.refl _ _) dH).1,λI' RZ=>⟨by rw[dH],(fin hx bX hR RZ dH).2⟩⟩
 all_goals have g:¬op.kind=4:=by simpa using g
 ·have dH:Y1 b op=(b,1):=by unfold Y1; rw[B' g,C' (by simpa using g2)]
  rw[dH];exact⟨rfl,h.Wt hx,hx.of_nil⟩
 have g2:YP op.oJ 0 ((b.locals.length:Int)-1)=true:=by simpa using g2
 obtain⟨c0,c1⟩:=Qv.1 g2;have c1:op.oJ<(b.locals.length:Int):=Qo
 have dH:Y1 b op=if op.kind=1 then Yf b op.oJ else if op.kind=2 then XX b op.oJ op.n else if op.kind=3 then (Yo b op.oJ,0) else (b,1):=by
  unfold Y1; rw[B' g,B' (by rw[g2]; decide)]
 refine⟨λg3 wr hx bX=>?_,λg3=>⟨λg4 wr hx bX=>?_,λg4=>⟨λg5 wr hx bX=>?_,λg5 wr hx=>?_⟩⟩⟩
 ·rw[C' (by simpa using g3)] at dH;refine I3 (zl2 (h.Wt hx) k0 k8 hb c0 c1) ?_;rintro e wv ⟨he,hR⟩;exact⟨_,he,(fin hx bX hR (Q0.refl _ _) dH).1,λI' RZ=>⟨by rw[dH],(fin hx bX hR RZ dH).2⟩⟩
 ·rw[B' (by simpa using g3),C' (by simpa using g4)] at dH;refine I3 (zht (n:=op.n) (h.Wt hx) k0 k8 hb c0 c1) ?_;rintro e wv ⟨he,hR⟩;exact⟨_,he,(fin hx bX hR (Q0.refl _ _) dH).1,λI' RZ=>⟨by rw[dH],(fin hx bX hR RZ dH).2⟩⟩
 ·rw[B' (by simpa using g3),B' (by simpa using g4),C' (by simpa using g5)] at dH;refine I3 (zd1 (h.Wt hx) k0 k8 hb c0 c1) ?_;rintro e wv ⟨he,hR⟩;exact⟨_,he,(fin hx bX hR (Q0.refl _ _) dH).1,λI' RZ=>⟨by rw[dH],(fin hx bX hR RZ dH).2⟩⟩
 ·rw[B' (by simpa using g3),B' (by simpa using g4),B' (by simpa using g5)] at dH;rw[dH];exact⟨rfl,h.Wt hx,hx.of_nil⟩
end
structure PW (base pb:Nat) (w:Wo) (W:Q8) (m:MW):Prop where
 own:Zo 8 base w W m
 pt:w.heap[pb]? = some (.cells (Qb W m).toArray Q5 (0,0))
 pn:pb∉QU 8 m
abbrev pA(pb:Nat):OA:=some ⟨pb,0,none⟩
structure Mp (base pb:Nat) (bs:List Nat) (w0:Wo) (m0:MW) (w:Wo) (W:Q8) (m:MW):Prop where
 v:Mv 8 base bs w0 m0 w W m
 pt:w.heap[pb]? = some (.cells (Qb W m).toArray Q5 (0,0))
 pn:pb∉QU 8 m
 pb:pb∉bs
section
variable {base pb:Nat}{bs cs:List Nat}{w0 w w':Wo}{W W':Q8}{m0 m m':MW}{b:Nat}
theorem Mp.start(h:PW base pb w W m):Mp base pb [] w m w W m:=⟨Mv.start h.own,h.pt,h.pn,Qs⟩
theorem Mp.pw(h:Mp base pb bs w0 m0 w W m):PW base pb w W m:=⟨h.v.own,h.pt,h.pn⟩
theorem Mp.add(h:Mp base pb bs w0 m0 w W m)(hb:w.heap.size<=b):Mp base pb (bs++[b]) w0 m0 w W m:=⟨h.v.add hb,h.pt,h.pn,λhm=>by
 rcases Im.1 hm with hm | hm
 ·exact h.pb hm
 ·have:pb=b:=by simpa using hm
  have:=JG h.pt;omega⟩
theorem Mp.step(h:Mp base pb bs w0 m0 w W m)(hx:Q0 bs w w'):Mp base pb bs w0 m0 w' W m:=⟨h.v.step hx,QB h.pt hx h.pb,h.pn,h.pb⟩
theorem Mp.R4(h:Mp base pb bs w0 m0 w W m)(hx:Q0 [] w w'):Mp base pb bs w0 m0 w' W m:=⟨h.v.R4 hx,QB h.pt hx Qs,h.pn,h.pb⟩
theorem Mp.call(h:Mp base pb bs w0 m0 w W m)(k:Mp base pb [] w m w' W' m')(hs:∀x∈bs,x<w.heap.size):Mp base pb bs w0 m0 w' W' m':=⟨h.v.call k.v hs,k.pt,k.pn,h.pb⟩
theorem Mp.kept(h:Mp base pb bs w0 m0 w W m)(k:Mp base pb [] w m w' W' m')(hs:∀x∈bs,x<w.heap.size):Q9 bs w w':=h.v.kept k.v hs
theorem Mp.Sn(h:Mp base pb bs w0 m0 w W m)(k:Zo 8 base w' W' m)(hx:Q0 (QU 8 m) w w')(he:Qb W' m=Qb W m):Mp base pb bs w0 m0 w' W' m:=⟨h.v.Sn k hx,by rw[he]; exact QB h.pt hx h.pn,h.pn,h.pb⟩
theorem Mp.sub(h:Mp base pb bs w0 m0 w W m)(hs:∀x∈cs,x∈bs):Mp base pb cs w0 m0 w W m:=⟨h.v.BI6 hs,h.pt,h.pn,λhm=>h.pb (hs _ hm)⟩
theorem Mp.close(h:Mp base pb bs w0 m0 w W m):Mp base pb [] w0 m0 w W m:=h.sub Qs
theorem Mp.wpt(h:Mp base pb bs w0 m0 w W m):Tj bs w (pA pb) W m:=⟨VQ h.pt h.pb (k0:=0) λj v hj=>by simpa using hj,h.v.rd⟩
theorem Mp.own(h:Mp base pb bs w0 m0 w W m):Zo 8 base w W m:=h.v.own
theorem Mp.nb(h:Mp base pb bs w0 m0 w W m):∀x∈QU 8 m,x∉bs:=h.v.nb
theorem PW.Wt(h:PW base pb w W m)(hx:Q0 [] w w'):PW base pb w' W m:=((Mp.start h).R4 hx).pw
end
theorem zyy{W:Q8}{k c:Int}{s:LR}(h0:0<=k)(h1:k<(W.ID.length:Int)):gi (Rv W k c s).ID k={ gi W.ID k with IF:=(gi W.ID k).IF.set c.toNat s }:=by
 unfold Rv;rw[Xk h0 h1 h0,C' rfl]
theorem zke{W:Q8}{k c:Int}{s s':LR}(h0:0<=k)(h1:k<(W.ID.length:Int)):Rv (Rv W k c s) k c s'=Rv W k c s':=by
 show Rn (Rv W k c s) k { gi (Rv W k c s).ID k with IF:=(gi (Rv W k c s).ID k).IF.set c.toNat s' }=_;rw[zyy h0 h1]
 dsimp only
 rw[List.set_set];exact zkc
theorem zrc{W:Q8}{k c:Int}(h0:0<=k)(h1:k<(W.ID.length:Int))(c0:0<=c)(c1:c<((gi W.ID k).IF.length:Int)):Rv W k c (Qa W k c)=W:=by
 show Rn W k { gi W.ID k with IF:=(gi W.ID k).IF.set c.toNat (gi (gi W.ID k).IF c) }=W;rw[Le c0 c1];unfold Rn;rw[Le h0 h1]
section
variable {base pb:Nat}{bs:List Nat}{w:Wo}{W:Q8}{m:MW}{k c:Int}
theorem Zo.Ab4(h:Zo 8 base w W m)(k0:0<=k)(k8:k<8)(c0:0<=c)(c1:c<((gi W.ID k).IF.length:Int)){j:Nat}{vs:List Va}{s:LR}(he:Po s=(Po (Qa W k c)).take j++vs++(Po (Qa W k c)).drop (j+vs.length))(hj:j+vs.length<=5) :
  Zo 8 base (R9 w (zvy m k c) (0+j) vs) (Rv W k c s) m:=by
 have:=h.Bw9 k0 Qo c0 c1 he hj;rw[<-z2q] at this;unfold zvy;rw[HU,Nat.zero_add];exact this
theorem Zo.BY3(h:Zo 8 base w W m)(hd:∀x∈QU 8 m,x∉bs)(k0:0<=k)(k8:k<8)(c0:0<=c)(c1:c<((gi W.ID k).IF.length:Int)){j n:Nat}(hj:j+n<=5):Xm bs w (zvy m k c) (0+j) n:=by
 unfold zvy;refine zbp.2 ?_;rw[Nat.zero_add];exact z5c h hd k0 Qo c0 c1 hj
theorem AU{vs:List Va}{j:Nat}(k0:0<=k)(k8:k<8):Q0 (QU 8 m) w (R9 w (zvy m k c) (0+j) vs):=by
 unfold zvy;rw[HU];exact zmx Qo
theorem V1(h:PW base pb w W m)(c0:0<=c)(c1:c<(W.IE.length:Int)) :
  Cz Yh #[.agg #[.pointer (pA pb),I c]] w λe w'=>e=.returned (.tuple #[])/\Mp base pb [] w m w' (Rz W c) m:=by
 refine(GG (pA pb) c (R:=λv w'=>v=.tuple #[]/\Mp base pb [] w m w' (Rz W c) m) ?_).mono λe w' ⟨v,he,hv,h3⟩=>⟨by rw[he,hv],h3⟩
 intro b hb;obtain⟨e1,e2⟩:=zsy h.own c0 c1;have hM:=Mp.start h;have hp:=hM.wpt;have hr:=h.own.rd (bs:=[]) Qs;have hs:=Lf (n:=Int.toNat c*5) (hr.c c c0 c1);refine⟨_,OF hp c0 c1,_,OF hp c0 c1,hs,zbp.2 (zzp h.own Qs c0 c1 Qd),hs,?_⟩;rw[HU];refine⟨zbp.2 (zzp e1 Qs c0 (by simpa using c1) Qd),?_⟩;rw[HU];exact λwr hx=>⟨rfl,(hM.Sn e2 (zfy.trans zfy) (by simp[Qb,Rz,S9])).R4 hx⟩
theorem zhr{p:OA}{g:Int}(h:Tj bs w p W m)(ht:Y8 W.ID)(hu:Q6 W.ID g=true):PX bs Vi #[.pointer p,I g] w (I (dep 3 W.ID g)):=
 EO p g λwr hx=>by
  have h:=(h.ext hx).less (cs:=[]) Qs
  have tY:∀x,Q6 W.ID x=true->0<=dep 3 W.ID x/\dep 3 W.ID x<=3:=λx tB=>by
   by_cases hz:x=0
   ·subst hz; rw[Yj]; omega
   ·obtain⟨_,_,_,d,e,_,hd⟩:=Y3 ht tB hz;omega
  refine⟨λvs=>∃(x s:Int),vs=[I x,I s]/\Q6 W.ID x=true/\0<=s/\s+dep 3 W.ID x=dep 3 W.ID g,λvs=>(dep 3 W.ID (ZE 0 vs)).toNat,⟨g,0,rfl,hu,Qd,Qo⟩,?_⟩;rintro x s ⟨x',s',he,tB,hs0,hI⟩;simp only[I4,I5,true_and,and_true] at he;obtain⟨rfl,rfl⟩:=he;have hgd:=tY g hu;have hxd:=tY x tB;refine⟨λhz=>?_,λhz=>?_⟩
  ·have hz:x≠0:=by simpa using hz
   obtain⟨hp,a,b,d,e,e2,hd⟩:=Y3 ht tB hz;refine⟨⟨Qo,Qo⟩,h.some,_,_,_,h.ID,h.rd.g.ix a b,_,h.rd.g.parent a b,⟨_,_,rfl,hp,Qo,Qo⟩,?_⟩;show (dep 3 W.ID (gi W.ID x).parent).toNat<(dep 3 W.ID x).toNat;omega
  ·have hz:x=0:=by simpa using hz
   subst hz;rw[Yj] at hI;rw[show s=dep 3 W.ID g by omega]
theorem PN{F K:Int}(h:PW base pb w W m)(dI:SF F K W)(hk:F+Qi<=K)(hK:K<=1000000000000000000)(c0:0<=c)(c1:c<(W.IE.length:Int)) :
  Cz YO #[.agg #[.pointer (pA pb),I c]] w λe w'=>e=.returned (.tuple #[])/\Mp base pb [] w m w' (QI W c) m:=by
 refine(Kr (pA pb) c (R:=λv w'=>v=.tuple #[]/\Mp base pb [] w m w' (QI W c) m) ?_).mono λe w' ⟨v,he,hv,h3⟩=>⟨by rw[he,hv],h3⟩
 intro x hx;have bZ:=dI.w.a.gl
 refine⟨λvs w1=>∃(j:Nat),vs=[I (3-(j:Int))]/\j<=3/\Mp base pb [x] w m w1 (X4 W c j) m,
  λvs _=>(ZE 0 vs).toNat,λwr mZ _=>⟨0,rfl,Qd,((Mp.start h).add hx).R4 mZ⟩,?_⟩
 rintro d wv hs ⟨j,he,j3,hM⟩;obtain⟨hS,hO⟩:=HI dI hk c0 c1 j j3;have hN:X4 W c (j+1)=Zk (X4 W c j) c (3-(j:Int)) 8:=rfl;have hE:j=3->X4 W c j=QI W c:=λe=>by rw[e]; rfl
 generalize X4 W c j=W1 at hM hS hO hN hE;simp only[I4,I5,true_and,and_true] at he;refine⟨λhd=>?_,λhd=>?_⟩
 ·have hd:=Ot hd;have qA:c<(W1.IE.length:Int):=by rw[hO.c]; exact c1
  have Cr7:W1.ID.length=W.ID.length:=hO.g.len;have hp:=hM.wpt;refine⟨hp.some,_,_,_,hp.ID,?_⟩;rw[Cr7];refine XJ W.ID.length 0 rfl (λk w2=>k<=8/\Mp base pb [x] w m w2 (Zk W1 c d k) m) (λw2 R5 _=>⟨Qd,hM.step R5⟩) λk w2 SR ⟨hk8,Wz⟩=>?_
  obtain⟨oF,jQ⟩:=Bk hS hk (c:=c) (d:=d) Qo c0 qA k hk8;have hf2:=hO.trans jQ;have rM:(Zk W1 c d k).ID.length=W.ID.length:=hf2.g.len;have AP4:(Zk W1 c d k).IE.length=W.IE.length:=by rw[hf2.c]
  have W5:Zk W1 c d (k+1)=if (gi (Zk W1 c d k).ID (k:Int)).used=true/\dep 3 (Zk W1 c d k).ID (k:Int)=d then Rv (Zk W1 c d k) (k:Int) c (Y9 (Zk W1 c d k) (k:Int) c) else Zk W1 c d k:=rfl;have hN8:k=8->X4 W c (j+1)=Zk W1 c d k:=λe=>by rw[hN,<-he,e]
  generalize Zk W1 c d k=W2 at Wz oF jQ hf2 rM AP4 W5 hN8;have cN:=Wz.wpt;have hr:=cN.rd;refine⟨λIN=>?_,λRx=>?_⟩
  ·have IN:=Ot IN;have RA:(k:Int)<(W2.ID.length:Int):=Qo;have Wg:=hr.g.ix (i:=(k:Int)) Qo RA;have hru:=hr.g.used (i:=(k:Int)) Qo RA;refine⟨cN.some,_,_,_,cN.ID,Wg,(gi W2.ID (k:Int)).used,hru,dep 3 W2.ID (k:Int),λg=>?_,λg=>?_,λg=>?_⟩
   ·exact zhr cN oF.w.a.tree (Q4.2 ⟨Qo,RA,by simpa using g⟩)
   ·refine⟨⟨Qo,Qo⟩,λw3 R6 _=>Qp Qo ⟨Qo,?_⟩⟩;rw[W5,B']
    ·exact Wz.step R6
    ·rintro⟨h1,h2⟩;rw[h1,h2] at g;simp at g
   ·simp only[H',I6,bne_eq_false_iff_eq] at g;have hu:Q6 W2.ID (k:Int)=true:=Q4.2 ⟨Qo,RA,g.1⟩;rw[C' ⟨g.1,g.2⟩] at W5;have hsl:=oF.w.a.sl hu
    have hz:(k:Int)≠0:=λe=>by
     rw[e,Yj] at g;omega
    have hpa:=oF.w.a.up hu hz;obtain⟨p0,p1,_⟩:=Q4.1 hpa;have hpl:=oF.w.a.sl hpa;have s1:=oF.w.s _ c hu c0 Qo;have s2:=oF.w.s _ c hpa c0 Qo;have lc:=ZH ((Qa W2 (k:Int) c).v-(Qa W2 (gi W2.ID (k:Int)).parent c).floor) (Qa W2 (k:Int) c).w;have lm:=Y0 (Qa W2 (k:Int) c).w;have hsh:=cN.sh (g:=(k:Int)) (c:=c) Qo RA c0 Qo;have CT5:=cN.sh (g:=(gi W2.ID (k:Int)).parent) (c:=c) p0 p1 c0 Qo;have AF3:=Ky (g:=(k:Int)) cN oF.w.a c0 Qo;have Bt8:=ED (g:=(k:Int)) cN oF.w.a hu c0 Qo;have cS:c<((gi W2.ID (k:Int)).IF.length:Int):=Qo;refine⟨_,Zj cN Qo RA c0 cS,QJ W2 (k:Int) c,AF3,Yx W2 (k:Int) c,λ_=>Bt8,λ_=>hsh.1,_,λ_=>hsh.2 (j:=1) rfl,λg2=>?_,λg2=>?_⟩
    ·have tA:Y9 W2 (k:Int) c=⟨(Qa W2 (k:Int) c).floor,QJ W2 (k:Int) c && !Yx W2 (k:Int) c,(Qa W2 (gi W2.ID (k:Int)).parent c).floor+ZT ((Qa W2 (k:Int) c).v-(Qa W2 (gi W2.ID (k:Int)).parent c).floor) (Qa W2 (k:Int) c).w,(Qa W2 (k:Int) c).w,(Qa W2 (k:Int) c).sum⟩:=by
      unfold Y9;rw[C']
      simpa[Qa] using g2
     have e1:=Wz.own.Ab4 (k:=(k:Int)) (c:=c) Qo Qo c0 cS (j:=2) (vs:=[I ((Qa W2 (gi W2.ID (k:Int)).parent c).floor+ZT ((Qa W2 (k:Int) c).v-(Qa W2 (gi W2.ID (k:Int)).parent c).floor) (Qa W2 (k:Int) c).w)]) (s:={ Qa W2 (k:Int) c with v:=(Qa W2 (gi W2.ID (k:Int)).parent c).floor+ZT ((Qa W2 (k:Int) c).v-(Qa W2 (gi W2.ID (k:Int)).parent c).floor) (Qa W2 (k:Int) c).w }) rfl Qs;have cS1:c<((gi (Rv W2 (k:Int) c { Qa W2 (k:Int) c with v:=(Qa W2 (gi W2.ID (k:Int)).parent c).floor+ZT ((Qa W2 (k:Int) c).v-(Qa W2 (gi W2.ID (k:Int)).parent c).floor) (Qa W2 (k:Int) c).w }).ID (k:Int)).IF.length:Int):=by rw[HR Qo RA Qo]; exact cS
     have bX:Qa (Rv W2 (k:Int) c { Qa W2 (k:Int) c with v:=(Qa W2 (gi W2.ID (k:Int)).parent c).floor+ZT ((Qa W2 (k:Int) c).v-(Qa W2 (gi W2.ID (k:Int)).parent c).floor) (Qa W2 (k:Int) c).w }) (k:Int) c={ Qa W2 (k:Int) c with v:=(Qa W2 (gi W2.ID (k:Int)).parent c).floor+ZT ((Qa W2 (k:Int) c).v-(Qa W2 (gi W2.ID (k:Int)).parent c).floor) (Qa W2 (k:Int) c).w }:=by
      rw[Jw Qo RA c0 cS Qo c0,C' ⟨rfl,rfl⟩]
     have e2:=e1.Ab4 (k:=(k:Int)) (c:=c) Qo Qo c0 cS1 (j:=1) (vs:=[.bool (QJ W2 (k:Int) c && !Yx W2 (k:Int) c)]) (s:=Y9 W2 (k:Int) c) (by rw[bX,tA]; rfl) Qs;rw[zke Qo RA] at e2;have hX:=(AU (m:=m) (w:=w2) (k:=(k:Int)) (c:=c) (j:=2) (vs:=[I ((Qa W2 (gi W2.ID (k:Int)).parent c).floor+ZT ((Qa W2 (k:Int) c).v-(Qa W2 (gi W2.ID (k:Int)).parent c).floor) (Qa W2 (k:Int) c).w)]) Qo Qo).trans (AU (m:=m) (k:=(k:Int)) (c:=c) (j:=1) (vs:=[.bool (QJ W2 (k:Int) c && !Yx W2 (k:Int) c)]) Qo Qo);have heq:Qb (Rv W2 (k:Int) c (Y9 W2 (k:Int) c)) m=Qb W2 m:=J0 (U6 Qo RA).fr;refine⟨cN.some,_,_,_,cN.ID,Wg,_,hr.g.parent Qo RA,_,Zj cN p0 p1 c0 Qo,CT5.1,_,CT5.2 (j:=0) rfl,hsh.1,_,hsh.2 (j:=2) rfl,⟨Qo,Qo⟩,hsh.1,_,hsh.2 (j:=3) rfl,_,Kw,⟨Qo,Qo⟩,hsh.1,Wz.own.BY3 Wz.nb Qo Qo c0 cS (j:=2) Qd,hsh.1,e1.BY3 Wz.nb Qo Qo c0 cS1 (j:=1) Qd,⟨Qo,Qo⟩,λw3 R6 _=>Qp Qo ⟨Qo,?_⟩⟩;rw[W5];exact(Wz.Sn e2 hX heq).step R6
    ·have tA:Y9 W2 (k:Int) c=⟨(Qa W2 (k:Int) c).floor,QJ W2 (k:Int) c && !Yx W2 (k:Int) c,(Qa W2 (k:Int) c).v,(Qa W2 (k:Int) c).w,(Qa W2 (k:Int) c).sum⟩:=by
      unfold Y9;rw[B'];intro h1;rw[h1.1,show (Qa W2 (k:Int) c).on=false from h1.2] at g2;cases g2
     have e2:=Wz.own.Ab4 (k:=(k:Int)) (c:=c) Qo Qo c0 cS (j:=1) (vs:=[.bool (QJ W2 (k:Int) c && !Yx W2 (k:Int) c)]) (s:=Y9 W2 (k:Int) c) (by rw[tA]; rfl) Qs;have heq:Qb (Rv W2 (k:Int) c (Y9 W2 (k:Int) c)) m=Qb W2 m:=J0 (U6 Qo RA).fr;refine⟨hsh.1,Wz.own.BY3 Wz.nb Qo Qo c0 cS (j:=1) Qd,⟨Qo,Qo⟩,λw3 R6 _=>Qp Qo ⟨Qo,?_⟩⟩;rw[W5];exact(Wz.Sn e2 (AU Qo Qo) heq).step R6
  ·have Rx:=Ou Rx;have hN8:=hN8 Qo;refine⟨⟨Qo,Qo⟩,λw3 R6 _=>⟨⟨j+1,?_,Qo,?_⟩,?_⟩⟩
   ·rw[show d-1=3-((j+1:Nat):Int) by omega]
   ·rw[hN8];exact Wz.step R6
   ·show (d-1).toNat<d.toNat;omega
 ·have hd:=Ou hd;rw[<-hE Qo];exact λw2 R5=>⟨rfl,(hM.step R5).close⟩
end
def TW(W:Q8)(g c:Int):Nat->Int
 | 0=>100000000000000001
 | k+1=>if Zq W g c k=true then (if Zm W c k<TW W g c k then Zm W c k else TW W g c k) else TW W g c k
theorem AO{W:Q8}{g c:Int}:∀k:Nat,(∀j,j<k->Zq W g c j=true->Zm W c j<=100000000000000000)->TW W g c k=if Zx W g c k=true then Z2 W g c k else 100000000000000001
 | 0,_=>by
  have:Zx W g c 0=false:=rfl;rw[this]; rfl
 | k+1,h=>by
  have ih:=AO k λj hj=>h j Qo
  simp only[TW]
  cases hp:Zq W g c k with
  | false=>
   have:=FI (W:=W) (g:=g) (c:=c) (k:=k) (by rw[hp]; rfl);rw[B' Qd,ih,this.1,this.2]
  | true=>
   have hv:=h k Qo hp;rw[C' rfl,ih]
   cases hb:Zx W g c k with
   | false=>
    have:=FJ (W:=W) (g:=g) (c:=c) (k:=k) (by rw[hp,hb]; rfl);rw[this.1,this.2,B' (show ¬(false=true) by decide),C' (show Zm W c k<100000000000000001 by omega),C' (show true=true from rfl)]
   | true=>
    rw[C' rfl]
    by_cases IN:Zm W c k<Z2 W g c k
    ·have:=FJ (W:=W) (g:=g) (c:=c) (k:=k) (by rw[hp,Ih IN]; simp);rw[this.1,this.2,C' rfl,C' IN]
    ·have:=FI (W:=W) (g:=g) (c:=c) (k:=k) (by rw[hp,hb,decide_eq_false IN]; rfl);rw[this.1,this.2,hb,C' rfl,B' IN]
theorem z1h{K:Int}{W:Q8}(h:SW K W){g c:Int}(c0:0<=c)(c1:c<(W.IE.length:Int)){j:Nat}(hj:j<20)(hp:Zq W g c j=true):Zm W c j<=K:=by
 have hl:=h.a.gl;unfold Zm
 by_cases h12:j<12
 ·rw[C' h12];exact(h.tv (j:Int) Qo Qo).2
 ·rw[B' h12];unfold Zq at hp;rw[B' h12] at hp;unfold Jd at hp;simp only[A'] at hp;have hu:Q6 W.ID ((j-12:Nat):Int)=true:=Q4.2 ⟨Qo,Qo,hp.1.2.1⟩;exact(h.s _ c hu c0 c1).2.2.2.1
section
variable {base pb:Nat}{w:Wo}{W:Q8}{m:MW}{k c:Int}
theorem zob{K:Int}(h:PW base pb w W m)(dI:SW K W)(hK0:0<=K)(hK:K<=100000000000000000)(c0:0<=c)(c1:c<(W.IE.length:Int)) :
  Cz Tx #[.agg #[.pointer (pA pb),I c]] w λe w'=>e=.returned (.tuple #[])/\Mp base pb [] w m w' (Za W c) m:=by
 refine(Ny (pA pb) c (R:=λv w'=>v=.tuple #[]/\Mp base pb [] w m w' (Za W c) m) ?_).mono λe w' ⟨v,he,hv,h3⟩=>⟨by rw[he,hv],h3⟩
 intro x hx;have bZ:=dI.a.gl;have hp0:=(Mp.start h).wpt;refine⟨hp0.some,_,_,_,hp0.ID,?_⟩;refine XJ W.ID.length 0 rfl (λk w2=>k<=8/\Mp base pb [x] w m w2 (QN W c k) m) (λw2 R5 _=>⟨Qd,((Mp.start h).add hx).R4 R5⟩) λk w2 SR ⟨hk8,Wz⟩=>?_
 obtain⟨oF,jQ⟩:=M8 dI hK0 c0 c1 k hk8;have rM:(QN W c k).ID.length=W.ID.length:=jQ.g.len;have AP4:(QN W c k).IE.length=W.IE.length:=by rw[jQ.c]
 have W5:QN W c (k+1)=if (gi (QN W c k).ID (k:Int)).used=true/\Zx (QN W c k) (k:Int) c 20=true/\Z2 (QN W c k) (k:Int) c 20>(Qa (QN W c k) (k:Int) c).floor then Rv (QN W c k) (k:Int) c (Ey (QN W c k) (k:Int) c) else QN W c k:=rfl;have hN8:k=8->Za W c=QN W c k:=λe=>by rw[e]; rfl
 generalize QN W c k=W2 at Wz oF jQ rM AP4 W5 hN8;have hp:=Wz.wpt;have hr:=hp.rd;have eM:=oF.a.t;refine⟨λIN=>?_,λRx=>?_⟩
 ·have IN:=Ot IN;have RA:(k:Int)<(W2.ID.length:Int):=Qo;refine⟨hp.some,_,_,_,hp.ID,hr.g.ix (i:=(k:Int)) Qo RA,(gi W2.ID (k:Int)).used,hr.g.used Qo RA,λg=>?_,λg=>?_⟩
  ·refine⟨⟨Qo,Qo⟩,λw3 R6 _=>Qp Qo ⟨Qo,?_⟩⟩;rw[W5,B' (λh1=>by rw[h1.1] at g; cases g)];exact Wz.step R6
  have g:(gi W2.ID (k:Int)).used=true:=by simpa using g
  have hu:Q6 W2.ID (k:Int)=true:=Q4.2 ⟨Qo,RA,g⟩;have hsl:=oF.a.sl hu;have cS:c<((gi W2.ID (k:Int)).IF.length:Int):=Qo;have hlm:=AO (W:=W2) (g:=(k:Int)) (c:=c) 20 λj hj hp=>Int.le_trans (z1h oF c0 Qo hj hp) hK
  refine⟨hp.some,_,_,_,hp.tasks,λvs w1=>∃(t:Nat),vs=[I (TW W2 (k:Int) c t),I (t:Int)]/\t<=12/\Mp base pb [x] w m w1 W2 m,Zt W2.tasks.length 1,λw3 R6 _=>⟨0,rfl,Qd,Wz.step R6⟩,?_⟩;rintro least x1 R8 fQ ⟨t,he,ht,iV⟩;simp only[I4,I5,true_and,and_true] at he;obtain⟨rfl,rfl⟩:=he;have hp3:=iV.wpt;refine⟨λBi6=>?_,λAL2=>?_⟩
  ·have Bi6:=Ot Bi6;have hq:=DT (g:=(k:Int)) (c:=c) hp3 (t:=(t:Int)) Qo Bi6;rw[Ig] at hq;refine⟨hp3.rd.t.ix QF Qo Bi6,_,_,_,_,_,_,_,_,_,hp3.rd.t (t:Int) Qo Bi6,λb1 cJ=>⟨Od W2 (k:Int) c t,hq,λga=>⟨⟨Qo,Qo⟩,λw4 SK _=>⟨⟨t+1,?_,Qo,iV.step SK⟩,?_⟩⟩,λga=>⟨⟨Qo,Qo⟩,λw4 SK _=>⟨⟨t+1,?_,Qo,iV.step SK⟩,?_⟩⟩⟩⟩
   ·simp only[TW];rw[Vo Qo,C' ga,EJ Qo];rfl
   ·simp only[Zt,Xy,ZE,Ie,List.getElem?_cons_succ]; omega
   ·simp only[TW];rw[Vo Qo,B' (by rw[ga]; decide)];rfl
   ·simp only[Zt,Xy,ZE,Ie,List.getElem?_cons_succ]; omega
  have AL2:=Ou AL2;have CA6:t=12:=Qo;subst CA6;refine⟨hp3.some,_,_,_,hp3.ID,λvs w1=>∃(i:Nat),vs=[I (TW W2 (k:Int) c (12+i)),I (i:Int)]/\i<=8/\Mp base pb [x] w m w1 W2 m,Zt W2.ID.length 1,λw4 SK _=>⟨0,rfl,Qd,iV.step SK⟩,?_⟩;rintro gB x9 RF eZ ⟨i,he,hi,gN⟩;simp only[I4,I5,true_and,and_true] at he;obtain⟨rfl,rfl⟩:=he;have hp4:=gN.wpt;refine⟨λBX1=>?_,λCP0=>?_⟩
  ·have BX1:=Ot BX1;have hh:=B7 (g:=(k:Int)) hp4 oF.a (k:=(i:Int)) Qo BX1 c0 Qo;rw[Ig] at hh
   have cA:TW W2 (k:Int) c (12+(i+1))=if Jd W2 (k:Int) c i=true then (if (Qa W2 (i:Int) c).v<TW W2 (k:Int) c (12+i) then (Qa W2 (i:Int) c).v else TW W2 (k:Int) c (12+i)) else TW W2 (k:Int) c (12+i):=by
    rw[show 12+(i+1)=12+i+1 from rfl];simp only[TW];rw[Uc,EI]
   refine⟨Jd W2 (k:Int) c i,hh,λga=>?_,λga=>⟨⟨Qo,Qo⟩,λw5 Sm _=>⟨⟨i+1,?_,Qo,gN.step Sm⟩,?_⟩⟩⟩
   ·have hui:Q6 W2.ID (i:Int)=true:=by
     unfold Jd at ga;simp only[A'] at ga;exact Q4.2 ⟨Qo,BX1,ga.1.2.1⟩
    have DM5:=oF.a.sl hui;have hsh:=hp4.sh (g:=(i:Int)) (c:=c) Qo BX1 c0 Qo;refine⟨_,Zj hp4 Qo BX1 c0 Qo,hsh.1,_,hsh.2 (j:=2) rfl,⟨Qo,Qo⟩,λw5 Sm _=>⟨⟨i+1,?_,Qo,gN.step Sm⟩,?_⟩⟩
    ·rw[cA,C' ga]; rfl
    ·simp only[Zt,Xy,ZE,Ie,List.getElem?_cons_succ]; omega
   ·rw[cA,B' (by rw[ga]; decide)]; rfl
   ·simp only[Zt,Xy,ZE,Ie,List.getElem?_cons_succ]; omega
  have CP0:=Ou CP0;have hi8:i=8:=Qo;subst hi8;rw[show 12+8=20 from rfl,hlm];have hsh:=hp4.sh (g:=(k:Int)) (c:=c) Qo RA c0 cS;have br:=zcq oF (k:=(k:Int)) c0 Qo hK0;refine⟨λgl=>?_,λgl=>?_⟩
  ·have hb:Zx W2 (k:Int) c 20=true:=Iq λhb=>by rw[B' hb] at gl; revert gl; decide
   rw[C' hb];have e1:=gN.own.Ab4 (k:=(k:Int)) (c:=c) Qo Qo c0 cS (j:=0) (vs:=[I (if Z2 W2 (k:Int) c 20>(Qa W2 (k:Int) c).floor then Z2 W2 (k:Int) c 20 else (Qa W2 (k:Int) c).floor)]) (s:={ Qa W2 (k:Int) c with floor:=if Z2 W2 (k:Int) c 20>(Qa W2 (k:Int) c).floor then Z2 W2 (k:Int) c 20 else (Qa W2 (k:Int) c).floor }) rfl Qs
   have heq:Rv W2 (k:Int) c { Qa W2 (k:Int) c with floor:=if Z2 W2 (k:Int) c 20>(Qa W2 (k:Int) c).floor then Z2 W2 (k:Int) c 20 else (Qa W2 (k:Int) c).floor }=QN W c (k+1):=by
    rw[W5]
    by_cases hgt:Z2 W2 (k:Int) c 20>(Qa W2 (k:Int) c).floor
    ·rw[C' hgt,C' (show (gi W2.ID (k:Int)).used=true/\Zx W2 (k:Int) c 20=true/\_>_ from ⟨g,hb,hgt⟩)]; rfl
    ·rw[B' hgt,B' (λh=>hgt h.2.2)];exact zrc Qo RA c0 cS
   have sX:Qb (Rv W2 (k:Int) c { Qa W2 (k:Int) c with floor:=if Z2 W2 (k:Int) c 20>(Qa W2 (k:Int) c).floor then Z2 W2 (k:Int) c 20 else (Qa W2 (k:Int) c).floor }) m=Qb W2 m:=J0 (U6 Qo RA).fr;refine⟨_,Zj hp4 Qo RA c0 cS,_,Zj hp4 Qo RA c0 cS,hsh.1,_,hsh.2 (j:=0) rfl,hsh.1,gN.own.BY3 gN.nb Qo Qo c0 cS (j:=0) Qd,⟨Qo,Qo⟩,λw5 Sm _=>Qp (w1:=w2) Qo ⟨Qo,?_⟩⟩;rw[<-heq];exact(gN.Sn e1 (AU Qo Qo) sX).step Sm
  ·have hb:¬Zx W2 (k:Int) c 20=true:=λhb=>by
    rw[C' hb] at gl;have:=Ou gl;omega
   refine⟨⟨Qo,Qo⟩,λw5 Sm _=>Qp (w1:=w2) Qo ⟨Qo,?_⟩⟩;rw[W5,B' (λh=>hb h.2.1)];exact gN.step Sm
 ·have Rx:=Ou Rx;rw[hN8 Qo];exact λw3 R6=>⟨rfl,(Wz.step R6).close⟩
theorem Mp.nil{w0 w:Wo}{m0:MW}(h:Mp base pb [] w0 m0 w W m){w':Wo}(hx:Q0 [] w w'):Mp base pb [] w0 m0 w' W m:=h.step hx
theorem DU{K:Int}(h:PW base pb w W m)(dI:SW K W)(hK0:0<=K)(hK:K+Ud<=100000000000000000) :
  Cz J4 #[.pointer (pA pb)] w λe w'=>e=.returned (.tuple #[])/\Mp base pb [] w m w' (Qg W) m:=by
 refine(Dh (pA pb) (R:=λv w'=>v=.tuple #[]/\Mp base pb [] w m w' (Qg W) m) ?_).mono λe w' ⟨v,he,hv,h3⟩=>⟨by rw[he,hv],h3⟩
 have bZ:=dI.a.gl;have CN6:=dI.a.c2;simp only[Ud,Qi] at hK;have hp0:=(Mp.start h).wpt;refine⟨hp0.some,_,_,_,hp0.IE,?_⟩;refine XJ W.IE.length 0 rfl (λk w1=>k<=W.IE.length/\Mp base pb [] w m w1 (ZU W k) m) (λw1 RZ _=>⟨Ic _,(Mp.start h).R4 RZ⟩) λk w1 bX ⟨hk,hM⟩=>?_
 obtain⟨hS,hO⟩:=OH (F:=K) (K:=K+Qi) (dI.sf.mono (I2 _) (by simp only[Qi]; omega)) (I2 _) k hk;have W5:ZU W (k+1)=QI (ZU W k) (k:Int):=rfl;have rL:k=W.IE.length->ZU W W.IE.length=ZU W k:=λe=>by rw[e]
 obtain⟨n1,n2,n3⟩:=Lx hO.fr;generalize ZU W k=W1 at hM hS hO W5 rL n1 n2 n3;refine⟨λIN=>⟨_,_,ZR,λI' RZ SR=>?_⟩,λRx=>?_⟩
 ·have IN:=Ot IN;have hM1:=hM.nil RZ;refine I3 (PN hM1.pw hS Qo (by simp only[Qi]; omega) (c:=(k:Int)) Qo Qo) ?_;rintro e RF ⟨he,hy⟩;refine⟨he,Ys,⟨Qo,Qo⟩,λw3 R6 _=>Qp Qo ⟨Qo,?_⟩⟩;rw[W5];exact(hM1.call hy Qs).nil R6
 have Rx:=Ou Rx;have rL:=rL Qo;have SN:Qg W=XM (KT W1) W.IE.length:=by unfold Qg; rw[rL]
 have hp1:=hM.wpt;refine⟨hp1.some,_,_,_,hp1.ID,?_⟩;refine XJ W1.ID.length 0 rfl (λg w2=>g<=8/\Mp base pb [] w m w2 (Yd W1 g) m) (λw2 R5 _=>⟨Qd,hM.nil R5⟩) λg w2 SR ⟨hg8,Wz⟩=>?_
 obtain⟨oF,jQ⟩:=TT hS g hg8;have AJ9:Yd W1 (g+1)=if (gi (Yd W1 g).ID (g:Int)).used=true/\(gi (Yd W1 g).ID (g:Int)).IP.IX≠0 then ZJ (Yd W1 g) (g:Int) (Yd W1 g).IE.length else Yd W1 g:=rfl;have AP7:g=8->KT W1=Yd W1 g:=λe=>by rw[e]; rfl
 have hf2:=hO.fr.trans jQ.fr;generalize Yd W1 g=W2 at Wz oF jQ AJ9 AP7 hf2;obtain⟨q1,q2,q3⟩:=Lx hf2;have cN:=Wz.wpt;refine⟨λIN=>?_,λaN=>?_⟩
 ·have IN:=Ot IN;have RA:(g:Int)<(W2.ID.length:Int):=Qo;have hrl:=cN.rd.g.CW2 (i:=(g:Int)) Qo RA;refine⟨cN.some,_,_,_,cN.ID,cN.rd.g.ix Qo RA,_,_,_,hrl,?_⟩
  by_cases hq:(gi W2.ID (g:Int)).used=true/\(gi W2.ID (g:Int)).IP.IX≠0
  ·rw[C' hq] at AJ9;have hu:Q6 W2.ID (g:Int)=true:=Q4.2 ⟨Qo,RA,hq.1⟩;have hbl:=((oF.w.a.u hu).2.2.IP hq.2).2.1;refine XJ (gi W2.ID (g:Int)).IP.locals.length 0 rfl (λc w3=>c<=W2.IE.length/\Mp base pb [] w m w3 (ZJ W2 (g:Int) c) m) (λw3 R6 _=>⟨Ic _,Wz.nil R6⟩) λc w3 fQ ⟨hc,iV⟩=>?_
   obtain⟨hS3,zW,hq3⟩:=GN oF hu hq.2 c hc;have AA7:ZJ W2 (g:Int) (c+1)=if gi (gi (ZJ W2 (g:Int) c).ID (g:Int)).IP.locals (c:Int)>0/\QJ (ZJ W2 (g:Int) c) (g:Int) (c:Int)=false then RL (ZJ W2 (g:Int) c) (g:Int) (Yo (gi (ZJ W2 (g:Int) c).ID (g:Int)).IP (c:Int)) else ZJ W2 (g:Int) c:=rfl;have B12:c=W2.IE.length->Yd W1 (g+1)=ZJ W2 (g:Int) c:=λe=>by rw[AJ9,e]
   have hu3:Q6 (ZJ W2 (g:Int) c).ID (g:Int)=true:=by rw[zW.g.cQ]; exact hu
   have hf3:=hf2.trans zW.fr;generalize ZJ W2 (g:Int) c=W3 at iV hS3 zW hq3 AA7 B12 hu3 hf3;obtain⟨r1,r2,r3⟩:=Lx hf3;obtain⟨u0,u1,jW⟩:=hS3.w.a.u hu3;obtain⟨vK,Cq4,_⟩:=jW.IP hq3;have AY7:(g:Int)<(W3.ID.length:Int):=Qo;have hp3:=iV.wpt;have hLo:=hp3.rd.g.locals (g:Int) Qo AY7;refine⟨λkE=>?_,λAQ0=>?_⟩
   ·have kE:=Ot kE;have CP9:=hLo.ix XV (i:=(c:Int)) Qo Qo;rw[Cq4,r1,<-q1,<-hbl] at CP9;have AF3:=Ky (g:=(g:Int)) (c:=(c:Int)) hp3 hS3.w.a Qo Qo;refine⟨CP9,_,hLo (c:Int) Qo Qo,_,_,λ_=>ZR,_,λ_=>AF3,λg3 RN Sm _=>?_,λg3=>?_⟩
    ·simp only[A',Ij,IC] at g3;rw[C' g3] at AA7;have hM5:=iV.nil Sm;have Cu4:Zo 8 base RN (RL W3 (g:Int) (gi W3.ID (g:Int)).IP) m:=by rw[zfo Qo AY7]; exact hM5.own
     refine I3 (zul (op:=⟨3,(c:Int),0⟩) Cu4 Qo Qo vK) ?_;rintro e1 dW ⟨gP,hB,hX⟩
     have dH:Y1 (gi W3.ID (g:Int)).IP ⟨3,(c:Int),0⟩=(Yo (gi W3.ID (g:Int)).IP (c:Int),0):=by
      unfold Y1;rw[B' (show ¬(3:Int)=4 by decide),B' (by rw[Qv.2 (by show 0<=(c:Int)/\(c:Int)<=_; omega)]; decide),B' (show ¬(3:Int)=1 by decide),B' (show ¬(3:Int)=2 by decide),C' rfl]
     rw[dH] at gP hB
     dsimp only at gP hB
     refine⟨_,gP,Ys,⟨Qo,Qo⟩,λw6 WT _=>Qp Qo ⟨Qo,?_⟩⟩;rw[AA7];exact(hM5.Sn hB hX (J0 (Ac Qo AY7).fr)).nil WT
    ·refine⟨⟨Qo,Qo⟩,λw6 WT _=>Qp Qo ⟨Qo,?_⟩⟩;rw[AA7,B']
     ·exact iV.nil WT
     ·rintro⟨h1,h2⟩;rw[h2,Ih h1] at g3;cases g3
   ·have AQ0:=Ou AQ0;refine⟨⟨Qo,Qo⟩,λw6 WT _=>Qp Qo ⟨Qo,?_⟩⟩;rw[B12 Qo];exact iV.nil WT
  ·rw[B' hq] at AJ9
   have hz:(gi W2.ID (g:Int)).IP.locals.length=0:=by
    have hgp:=oF.w.a.grp (g:Int) Qo Qo
    cases hu:(gi W2.ID (g:Int)).used with
    | false=>exact(Ha (hgp.1 hu).b).2.2.2.1
    | true=>
     have h0:(gi W2.ID (g:Int)).IP.IX=0:=Iq λhn=>hq ⟨hu,hn⟩
     exact(Ha ((hgp.2 hu).none h0).1).2.2.2.1
   rw[hz];refine XJ 0 0 rfl (λc w3=>c<=0/\Mp base pb [] w m w3 W2 m) (λw3 R6 _=>⟨Ic _,Wz.nil R6⟩) λc w3 fQ ⟨hc,iV⟩=>⟨λkE=>?_,λ_=>⟨⟨Qo,Qo⟩,λw6 WT _=>Qp Qo ⟨Qo,?_⟩⟩⟩
   ·have:=Ot kE;omega
   ·rw[AJ9];exact iV.nil WT
 have aN:=Ou aN;have AP7:=AP7 Qo;rw[AP7] at SN;have hS4:SW (K+Qi) W2:=oF.w;refine⟨cN.some,_,_,_,cN.IE,?_⟩;refine XJ W2.IE.length 0 rfl (λk w3=>k<=W2.IE.length/\Mp base pb [] w m w3 (XM W2 k) m) (λw3 R6 _=>⟨Ic _,Wz.nil R6⟩) λk w3 fQ ⟨hk,sP⟩=>?_
 obtain⟨hS7,hf7⟩:=Lg hS4 (by simp only[Qi]; omega) k hk;have AP6:XM W2 (k+1)=UP (XM W2 k) (k:Int):=rfl;have AP8:k=W2.IE.length->Qg W=XM W2 k:=λe=>by rw[SN,<-q1,e]
 have hfW:=hf2.trans hf7;obtain⟨q1,q2,q3⟩:=Lx hfW;generalize XM W2 k=W7 at sP hS7 hf7 AP6 AP8 hfW q1 q2 q3;refine⟨λIN=>⟨_,_,ZR,λb hb Si tD nQ=>?_⟩,λRx=>?_⟩
 ·have IN:=Ot IN;have hM9:=(sP.add hb).R4 tD;have hk4:(k:Int)<=4:=Qo;have qA:(k:Int)<(W7.IE.length:Int):=Qo;have hSF:=hS7.sf.mono (F':=K+Qi+(k:Int)*Qi) (K':=K+Qi+(k:Int)*Qi+Qi) (I2 _) (by simp only[Qi]; omega);refine I3 (PN hM9.pw hSF (I2 _) (by simp only[Qi]; omega) (c:=(k:Int)) Qo qA) ?_;rintro e2 fJ ⟨aR,SI⟩;obtain⟨hS8,hO8⟩:=HH hSF (I2 _) (c:=(k:Int)) Qo qA;have hM8:=hM9.call SI nQ;refine⟨aR,hM9.kept SI nQ,λSk AF8 AA9=>?_⟩;have BD1:=hM8.step AF8;have cA:UP W7 (k:Int)=if MC (Za (QI W7 (k:Int)) (k:Int)) (k:Int)=true then Rz (Za (QI W7 (k:Int)) (k:Int)) (k:Int) else Za (QI W7 (k:Int)) (k:Int):=rfl;have c2':(k:Int)<((QI W7 (k:Int)).IE.length:Int):=by rw[hO8.c]; exact qA
  refine I3 (zob BD1.pw hS8.w (by simp only[Qi]; omega) (by simp only[Qi]; omega) (c:=(k:Int)) Qo c2') ?_;rintro e3 vV ⟨jR,gH⟩;obtain⟨B76,B75⟩:=M8 hS8.w (by simp only[Qi]; omega) (c:=(k:Int)) Qo c2' 8 Qd;have AY6:=BD1.call gH AA9;have BD0:=BD1.kept gH AA9;have BW6:Fr W (Za (QI W7 (k:Int)) (k:Int)):=(hfW.trans hO8.fr).trans B75.fr;have sQ:SW (K+Qi+(k:Int)*Qi+Qi) (Za (QI W7 (k:Int)) (k:Int)):=B76;generalize Za (QI W7 (k:Int)) (k:Int)=zV at AY6 BW6 sQ cA;obtain⟨r1,r2,r3⟩:=Lx BW6;have hp:=AY6.wpt;have c3':(k:Int)<(zV.IE.length:Int):=Qo;have qE:=sQ.cu (k:Int) Qo c3';have eM:=sQ.a.t
  have hT:((gi zV.IE (k:Int)).cur != -1)=true->0<=(gi zV.IE (k:Int)).cur/\(gi zV.IE (k:Int)).cur<(zV.tasks.length:Int):=λg=>by
   have:(gi zV.IE (k:Int)).cur≠-1:=by simpa using g
   exact⟨Qo,Qo⟩
  have Bt5:=OF (c:=(k:Int)) hp Qo c3';have AK0:=Lf (n:=Int.toNat (k:Int)*5) (hp.rd.c (k:Int) Qo c3');have Ss:=KN (hp.rd.c (k:Int) Qo c3') (j:=1) rfl
  have B15:MC zV (k:Int)=(((gi zV.IE (k:Int)).cur != -1) && !(((Q7 zV (gi zV.IE (k:Int)).cur).IZ==(k:Int))&&Z3 zV (gi zV.IE (k:Int)).cur)):=by
   unfold MC
   have e:decide ((gi zV.IE (k:Int)).cur>=0)=((gi zV.IE (k:Int)).cur != -1):=by
    by_cases hc:(gi zV.IE (k:Int)).cur = -1
    ·rw[hc]; rfl
    ·rw[It.2 hc,Ih Qo]
   rw[e,Bool.not_and];rfl
  refine⟨jR,BD0,_,Bt5,AK0,_,Ss,_,λ_=>Bt5,λ_=>AK0,_,λ_=>Ss,_,λg=>OS hp sQ.a (hT g).1 (hT g).2 Qo c3' (λhs=>(sQ.li (hT g).1 (hT g).2 hs).1),λg SJ vM AQ4=>?_,λg=>?_⟩
  ·have BD2:=AY6.step vM;refine I3 (V1 BD2.pw (c:=(k:Int)) Qo c3') ?_;rintro e4 zZ ⟨he4,iY⟩;refine⟨he4,BD2.kept iY AQ4,⟨Qo,Qo⟩,λw6 WT _=>Qp Qo ⟨Qo,?_⟩⟩;rw[AP6,cA,C' (by rw[B15]; exact g)];exact((BD2.call iY AQ4).step WT).close
  ·refine⟨⟨Qo,Qo⟩,λw6 WT _=>Qp Qo ⟨Qo,?_⟩⟩;rw[AP6,cA,B' (by rw[B15,g]; decide)];exact(AY6.step WT).close
 ·have Rx:=Ou Rx;rw[AP8 Qo];exact λw9 gL=>⟨rfl,sP.nil gL⟩
end
section
variable {b:Ve}{m:MG}{w:Wo}
theorem zqk(h1:zm9 [] w m.lO b.locals)(h2:zv3 [] w m.dO b.Ry)(l1:b.locals.length<=1048576)(l2:b.Ry.length<=1048576) :
  Cz Oh #[.agg (Zy b m).toArray] w λe w'=>∃p,e=.returned (.agg (Zy b p).toArray)/\Zs w.heap.size w' b p/\Q0 [] w w':=by
 refine(CN b.IX b.RD b.Sl m.lO b.locals.length m.lC m.dO b.Ry.length m.dC (R:=λv w'=>∃p,v=.agg (Zy b p).toArray/\Zs w.heap.size w' b p/\Q0 [] w w') ?_).mono λe w' ⟨v,he,p,hv,h3⟩=>⟨p,by rw[he,hv],h3⟩
 have hm9:=ZV;intro x hx x5 Sm wr mZ hs0;have s0:Sc w [x,x5] wr:=(((Sc.start w).add hx).add Sm).R4 mZ;refine⟨_,_,_,_,KF Y5 Vx b.locals.length Qo Qo wr,Qf (Z7 _ _) hs0,λI' RZ bX=>?_⟩;have hL0:Ob Jz 1 Qc wr.heap.size [x,x5] _ (some ⟨wr.heap.size,0,none⟩) b.locals.length (List.replicate b.locals.length (0:Int)):=Ob.of (Vv (enc:=Jz) Y5.len Qc b.locals.length (0:Int) wr) hs0;have s1:=(s0.R4 (Z7 wr (.cells ((List.replicate b.locals.length (0:Int)).flatMap Jz).toArray Qc))).step RZ;have hL1:=hL0.step RZ;obtain⟨n1,w2,A03,hL2,cP⟩:=zta Y5 Vx zu0 Qd (c2:=m.lC) hL1.own (h1.ext s1.ext) (m:=b.locals) Qs Qc #[false,false];rw[List.length_replicate] at A03;have s2:=s1.call cP λy hy=>IB s0.ext.size (hL1.own.lt y hy).1
 have Cp1:Ob Jz 1 Qc wr.heap.size [x,x5] w2 (some ⟨wr.heap.size,0,none⟩) b.locals.length b.locals:=⟨hL2,hL1.nb⟩;refine⟨_,_,A03,H0 cP bX hL1.nb,λM' R5 SR=>⟨_,_,_,_,KF XZ Li b.Ry.length Qo Qo M',Qf (Z7 _ _) SR,λRr R6 fQ=>?_⟩⟩;have s3:=((s2.step R5).R4 (Z7 M' (.cells ((List.replicate b.Ry.length false).flatMap MY).toArray Yg))).step R6;have hL3:=((Cp1.step R5).R4 (Z7 M' (.cells ((List.replicate b.Ry.length false).flatMap MY).toArray Yg))).step R6;have hD0:Ob MY 1 Yg M'.heap.size [x,x5] _ (some ⟨M'.heap.size,0,none⟩) b.Ry.length (List.replicate b.Ry.length false):=Ob.of (Vv (enc:=MY) XZ.len Yg b.Ry.length false M') SR;have hD1:=hD0.step R6;obtain⟨n2,w4,A04,hD2,SI⟩:=zta XZ Li z41 Qd (c2:=m.dC) hD1.own (h2.ext s3.ext) (m:=b.Ry) Qs Qc #[false,false];rw[List.length_replicate] at A04;have hz2:w.heap.size<=M'.heap.size:=(s2.step R5).ext.size;have s4:=s3.call SI λy hy=>IB hz2 (hD1.own.lt y hy).1
 have hL4:=hL3.call SI (hL3.own.U' hD1.own Qd);have hD3:Ob MY 1 Yg M'.heap.size [x,x5] w4 (some ⟨M'.heap.size,0,none⟩) b.Ry.length b.Ry:=⟨hD2,hD1.nb⟩;exact⟨_,_,A04,H0 SI fQ hD1.nb,λRu SK=>⟨⟨some ⟨wr.heap.size,0,none⟩,b.locals.length,some ⟨M'.heap.size,0,none⟩,b.Ry.length,none,0⟩,rfl,⟨(hL4.step SK).own.mono s0.ext.size,(hD3.step SK).own.mono hz2⟩,(s4.step SK).ext⟩⟩
end
theorem BI{α:Type}[Inhabited α]{P:Program}{enc:α->List Va}{z:Nat}{ty t:TypeId}{bytes:Nat}{zero:α}(E:zrr P enc z ty bytes zero)(ht:P.underlying t=some (.slice ty))(Bi9:∀x,Zl (enc x)=true)(hz0:0<z){w:Wo}{o:OA}{c:Nat}{l:List α}(h:Rd enc z [] w o l)(hl:l.length<=1048576)(hby:bytes<=1000)(tr:TypeId)(cs:Array Bool) :
  ∃o' c' w',(builtin .append #[t,t] tr cs #[.slice none 0 0,.slice o l.length c]).run P w=.ok (.value (.slice o' l.length c')) w'/\V3 enc z ty w.heap.size w' o' c' l/\Q0 [] w w':=by
 have hO:V3 enc z ty w.heap.size w none 0 ([]:List α):=.inl ⟨rfl,rfl,rfl⟩
 have hbb:(2*(([]:List α).length+l.length))*bytes<=281474976710656:=by
  rw[List.length_nil,Nat.zero_add];exact IB (Nat.mul_le_mul (show 2*l.length<=2097152 by omega) hby) Qd
 obtain⟨o',c',w',h1,h2,h3,_⟩:=zs9 E ht hO (zy3 E.len Bi9 ht h (c:=c) hz0) hbb (by rw[List.length_nil]; omega) tr (I7 _);rw[List.length_nil,Nat.zero_add] at h1;exact⟨o',c',w',zcr h1,h2,h3⟩
theorem zor(W:Q8)(ms:Nat->MG)(n k:Nat)(hk:k<n)(p:MG):(O9 W ms n).set k (gi W.ID (k:Int),p)=O9 W (λj=>if j=k then p else ms j) n:=by
 refine zqe (by rw[E',Xe,Xe]) λj hj=>?_
 rw[E',Xe] at hj;have:=QM (O9 W ms n) (gi W.ID (k:Int),p) (i:=(k:Int)) Qo (by rw[Xe]; omega) (j:=(j:Int)) Qo;rw[Ig] at this;rw[this,HO Qo Qo,HO Qo Qo]
 by_cases e:k=j
 ·subst e; simp
 ·rw[B' Qo,B' (by simp; omega)]
theorem zq0(W:Q8){ms ms':Nat->MG}{n:Nat}(h:∀j,j<n->ms j=ms' j):O9 W ms n=O9 W ms' n:=by
 unfold O9;exact List.map_congr_left λj hj=>by rw[h j (List.mem_range.1 hj)]
section
variable {W:Q8}{m:MW}{w:Wo}
theorem AN(h:XE [] w W m)(ha:WA W) :
  Cz Ug #[.agg (Qb W m).toArray] w λe w'=>∃m',e=.returned (.agg (Qb W m').toArray)/\Zo 8 w.heap.size w' W m'/\Q0 [] w w':=by
 refine(Nz _ _ _ _ _ _ _ _ _ _ (R:=λv w'=>∃m',v=.agg (Qb W m').toArray/\Zo 8 w.heap.size w' W m'/\Q0 [] w w') ?_).mono λe w' ⟨v,he,m',hv,h3⟩=>⟨m',by rw[he,hv],h3⟩
 have rV:=ha.c2;have eM:=ha.t;have bZ:=ha.gl;intro x hx x1 RZ x2 R5 wr mZ hs0;have s0:Sc w [x,x1,x2] wr:=((((Sc.start w).add hx).add RZ).add R5).R4 mZ;obtain⟨cO,cC,w1,A03,hC1,cP⟩:=BI HE KH z3t Qd (c:=m.cC) (h.c.ext s0.ext) Qo Qd Zr #[false,false];refine⟨_,_,_,_,A03,Qf cP hs0,λI' CU6 bX=>?_⟩;have s1:=(s0.R4 cP).step CU6;have hC2:=(Ob.of hC1 hs0).step CU6;obtain⟨tO,tC,w2,A04,hT1,SI⟩:=BI Mi MT z43 Qd (c:=m.tC) (h.t.ext s1.ext) Qo Qd Z0 #[false,false];refine⟨_,_,_,_,A04,Qf SI bX,λM' CB0 SR=>?_⟩;have s2:=(s1.R4 SI).step CB0;have hC3:=(hC2.R4 SI).step CB0;have hT3:=(Ob.of hT1 bX).step CB0
 have hrp:Rd Og 14 [] M' m.gO (O9 W m.ms 8):=λi h0 hi=>by
  rw[Xe] at hi;rw[HO h0 hi];exact(h.g.ext s2.ext).cells i h0 Qo
 obtain⟨gO,gC,w3,Bj3,hG1,gH⟩:=BI YF PC (λp=>z42 p.1 p.2) Qd (c:=m.gC) hrp (by rw[Xe]; decide) Qd QE #[false,false];rw[Xe] at Bj3;have Bj4:(builtin .append #[QE,QE] QE #[false,false] #[.slice none 0 0,.slice m.gO W.ID.length m.gC]).run Tryz.prog M'=.ok (.value (.slice gO W.ID.length gC)) w3:=by rw[bZ]; exact Bj3
 have z1:w.heap.size<=I'.heap.size:=s1.ext.size;have z2:w.heap.size<=M'.heap.size:=s2.ext.size;have s3:=s2.R4 gH;have hC4:=(hC3.R4 gH).mono s0.ext.size;have hT4:=(hT3.R4 gH).mono z1;have hG4:=Ob.of hG1 SR
 refine⟨_,_,_,_,Bj4,Qf gH SR,λvs w4=>∃(k:Nat) (ms:Nat->MG),vs=[I (k:Int)]/\k<=8/\Sc w [x,x1,x2] w4/\M'.heap.size<=w4.heap.size/\Ob Ge 5 Zb w.heap.size [x,x1,x2] w4 cO cC W.IE/\Ob XS 9 QO w.heap.size [x,x1,x2] w4 tO tC W.tasks/\Ob Og 14 QV M'.heap.size [x,x1,x2] w4 gO gC (O9 W ms 8)
   /\ (∀j,j<k->PR M'.heap.size w4 (gi W.ID (j:Int),ms j)/\∀y∈Qt (ms j),y∉[x,x1,x2])/\(∀i j,i<k->j<k->i≠j->∀y∈Qt (ms i),y∉Qt (ms j))/\(∀j,k<=j->ms j=m.ms j),
  Zt W.ID.length 0,λw4 SK _=>⟨0,m.ms,rfl,Qd,s3.step SK,IB gH.size SK.size,hC4.step SK,hT4.step SK,hG4.step SK,λj hj=>by omega,λi j hi=>by omega,λj _=>rfl⟩,?_⟩
 clear s3 hC4 hT4 hG4 hG1 hrp Bj3 Bj4 hC3 hT3 hC2 hT1 A03 A04 hC1;rintro x9 RU fQ ⟨k,ms,he,hk,s3,z3,hC,hT,hG,hE,hJ,hF⟩;simp only[I4,I5,true_and,and_true] at he;subst he;refine⟨λIN=>?_,λRx=>?_⟩
 ·have IN:=Ot IN;have hrb:Lp [x,x1,x2] RU m.gO W.ID m.ms:=(h.g.wide (cs:=[x,x1,x2]) λy hm=>.inr (s3.new y hm)).ext s3.ext.of_nil;have Wg:=hrb.ix (i:=(k:Int)) Qo IN;obtain⟨bl1,bl2,bl3⟩:=KM ha (k:=(k:Int)) Qo Qo;refine⟨Wg,_,_,_,_,_,_,_,_,_,_,_,_,_,_,_,_,_,_,_,_,hrb.cells (k:Int) Qo IN,λb3 vK Ru SK eZ=>?_⟩;have s4:=s3.put SK vK;have hC4:=hC.put SK vK;have hT4:=hT.put SK vK;have hG4:=hG.put SK vK;have hr4:=h.g.ext s4.ext;have z4:M'.heap.size<=Ru.heap.size:=IB z3 SK.size;refine I3 (zqk (hr4.locals (k:Int) Qo IN) (hr4.Ry (k:Int) Qo IN) Qo Qo) ?_;rintro e aX ⟨p,he,hB,iY⟩;have s5:=s4.R4 iY;have hC5:=hC4.R4 iY;have hT5:=hT4.R4 iY;have hG5:=hG4.R4 iY;have rX:gi (O9 W ms 8) (k:Int)=(gi W.ID (k:Int),ms k):=by rw[HO Qo Qo,Ig]
  have hmk:ms k=m.ms k:=hF k (I7 _);have hBn:∀y∈YN p,Ru.heap.size<=y:=λy hm=>(hB.lt y hm).1
  have e1:=hG5.own.R9 YF.len (i:=(k:Int)) Qo (by rw[Xe]; omega) (j:=8) (vs:=Zy (gi W.ID (k:Int)).IP p) (x:=(gi W.ID (k:Int),KE (ms k) p)) (by rw[rX]; rfl) (by simp[Zy]);have CP1:=hG5.own.ix (i:=(k:Int)) Qo (by rw[Xe]; omega);have CP4:=hG5.own.wr YF.len hG5.nb (i:=(k:Int)) Qo (by rw[Xe]; omega) (j:=8) (n:=5) Qd;rw[Xe] at CP1;have B14:Ix gO W.ID.length (k:Int):=by rw[bZ]; exact CP1
  simp only[Ig] at e1 CP4;rw[zor W ms 8 k Qo] at e1;refine⟨_,_,_,_,_,_,_,_,_,he,Qf iY eZ,rfl,B14,CP4,λRN Sm kK=>?_⟩;have zX:=hG5.own.qW (k*14+8) (Zy (gi W.ID (k:Int)).IP p);have s6:=(s5.call zX λy hy=>IB z2 (hG5.own.lt y hy).1).step Sm;have hC6:=(hC5.call zX (hC5.own.U' hG5.own Qd)).step Sm;have hT6:=(hT5.call zX (hT5.own.U' hG5.own Qd)).step Sm;have hG6:Ob Og 14 QV M'.heap.size ([x,x1,x2]++[b3]) RN gO gC (O9 W (λj=>if j=k then KE (ms k) p else ms j) 8):=(⟨e1,hG5.nb⟩:Ob Og 14 QV M'.heap.size ([x,x1,x2]++[b3]) _ gO gC _).step Sm
  have Bs4:∀y∈YN p,y∉[x,x1,x2]++[b3]:=λy hm gI=>by
   have:=hBn y hm;have:=eZ y gI;omega
  have hBg:∀y∈YN p,y∉QL gO:=λy hm gI=>by
   have:=hBn y hm;have:=(hG4.own.lt y gI).2;omega
  have hB6:=(hB.ext zX hBg).ext Sm Bs4;have z5:Ru.heap.size<=RN.heap.size:=IB (IB iY.size zX.size) Sm.size;obtain⟨sO,sC,w6,CT1,hS6,hy6⟩:=BI M7 PD z3u Qd (c:=(m.ms k).sC) ((h.g.ext s6.ext).IF (k:Int) Qo IN) Qo Qd Z8 #[true,false];have s7:=s6.R4 hy6;have hC7:=hC6.R4 hy6;have hT7:=hT6.R4 hy6;have hG7:=hG6.R4 hy6;have hB7:=hB6.Wt hy6
  have Cr6:gi (O9 W (λj=>if j=k then KE (ms k) p else ms j) 8) (k:Int)=(gi W.ID (k:Int),KE (ms k) p):=by
   rw[HO Qo Qo,Ig,C' rfl]
  have e2:=hG7.own.R9 YF.len (i:=(k:Int)) Qo (by rw[Xe]; omega) (j:=13) (vs:=[.slice sO (gi W.ID (k:Int)).IF.length sC]) (x:=(gi W.ID (k:Int),⟨p.lO,p.lC,p.dO,p.dC,sO,sC⟩)) (by rw[Cr6]; rfl) Qs;have B16:=hG7.own.wr YF.len hG7.nb (i:=(k:Int)) Qo (by rw[Xe]; omega) (j:=13) (n:=1) Qd;simp only[Ig] at e2 B16;rw[zor _ _ 8 k Qo] at e2
  have Ct8:O9 W (λj=>if j=k then (⟨p.lO,p.lC,p.dO,p.dC,sO,sC⟩:MG) else if j=k then KE (ms k) p else ms j) 8=O9 W (λj=>if j=k then (⟨p.lO,p.lC,p.dO,p.dC,sO,sC⟩:MG) else ms j) 8:=zq0 W λj _=>by
   by_cases e:j=k
   ·rw[C' e,C' e]
   ·rw[B' e,B' e,B' e]
  rw[Ct8] at e2;have hX7:=hG7.own.qW (k*14+13) [.slice sO (gi W.ID (k:Int)).IF.length sC];refine⟨_,_,_,_,CT1,Qf hy6 kK,rfl,B14,B16,⟨Qo,Qo⟩,λw9 gL _=>⟨⟨k+1,λj=>if j=k then (⟨p.lO,p.lC,p.dO,p.dC,sO,sC⟩:MG) else ms j,rfl,Qo,?_,?_,?_,?_,?_,?_,?_,?_⟩,?_⟩⟩
  ·exact((s7.call hX7 λy hy=>IB z2 (hG7.own.lt y hy).1).step gL).sub Qs
  ·exact IB (IB (IB (IB z4 z5) hy6.size) hX7.size) gL.size
  ·exact((hC7.call hX7 (hC7.own.U' hG7.own Qd)).step gL).sub Qs
  ·exact((hT7.call hX7 (hT7.own.U' hG7.own Qd)).step gL).sub Qs
  ·exact((⟨e2,hG7.nb⟩:Ob Og 14 QV M'.heap.size ([x,x1,x2]++[b3]) _ gO gC _).step gL).sub Qs
  ·intro j hj;have hSn:∀y∈QL sO,RN.heap.size<=y:=λy hm=>(hS6.lt y hm).1
   by_cases e:j=k
   ·subst e;simp only[if_true]
    have CM3:∀y∈QL sO,y∉[x,x1,x2]++[b3]:=λy hm gI=>by
     have:=hSn y hm;have:=kK y gI;omega
    have hO9:PR M'.heap.size w9 (gi W.ID (j:Int),⟨p.lO,p.lC,p.dO,p.dC,sO,sC⟩):=by
     have hB9:=((hB7.ext hX7 hBg).ext gL Bs4).mono z4;exact⟨hB9.loc,hB9.Ry,(((hS6.ext hX7 (hS6.U' hG7.own Qd)).ext gL CM3)).mono (IB z4 z5)⟩
    refine⟨hO9,λy hm gI=>?_⟩;have B91:y∈[x,x1,x2]++[b3]:=Ia _ gI;simp only[Qt,Im] at hm;rcases hm with (hm | hm) | hm
    ·exact Bs4 y (Ia _ hm) B91
    ·exact Bs4 y (Iy _ hm) B91
    ·exact CM3 y hm B91
   ·dsimp only
    rw[B' e];obtain⟨hm1,hm2⟩:=hE j Qo;refine⟨?_,hm2⟩
    have CR6:∀y∈Qt (ms j),y∉[x,x1,x2]++[b3]:=λy hm gI=>by
     rcases Im.1 gI with h1 | h1
     ·exact hm2 y hm h1
     ·have:y=b3:=by simpa using h1
      have:=(hm1.lt y hm).2;omega
    have hgg:∀y∈Qt (ms j),y∉QL gO:=JC (p:=(gi W.ID (j:Int),ms j)) hG.own hm1;exact((((((hm1.ext SK hm2).Wt iY).ext zX hgg).ext Sm CR6).Wt hy6).ext hX7 hgg).ext gL CR6
  ·intro i j hi hj hij y hm gI
   dsimp only at hm gI
   have At2:∀y∈Qt (⟨p.lO,p.lC,p.dO,p.dC,sO,sC⟩:MG),Ru.heap.size<=y:=λy hm=>by
    simp only[Qt,Im] at hm;rcases hm with (hm | hm) | hm
    ·exact hBn y (Ia _ hm)
    ·exact hBn y (Iy _ hm)
    ·exact IB z5 (hS6.lt y hm).1
   have hold:∀j,j<k->∀y∈Qt (ms j),y<Ru.heap.size:=λj hj y hm=>Nat.lt_of_lt_of_le ((hE j hj).1.lt y hm).2 SK.size
   by_cases e1:i=k
   ·rw[C' e1] at hm
    by_cases e2:j=k
    ·omega
    ·rw[B' e2] at gI;have:=At2 y hm;have:=hold j Qo y gI;omega
   ·rw[B' e1] at hm
    by_cases e2:j=k
    ·rw[C' e2] at gI;have:=At2 y gI;have:=hold i Qo y hm;omega
    ·rw[B' e2] at gI;exact hJ i j Qo Qo hij y hm gI
  ·intro j hj
   dsimp only
   rw[B' Qo];exact hF j Qo
  ·simp only[Zt,Xy,ZE,Ie]; omega
 ·have Rx:=Ou Rx;have hk8:k=8:=Qo;subst hk8;refine λw9 gL=>⟨⟨cO,cC,tO,tC,gO,gC,ms⟩,rfl,⟨(hC.step gL).own,(hT.step gL).own,?_,bZ⟩,(s3.step gL).ext⟩
  have e:zs4 W ⟨cO,cC,tO,tC,gO,gC,ms⟩=O9 W ms 8:=by unfold zs4 O9; rw[bZ]
  rw[e]
  have hgi:∀i:Int,0<=i->i<((O9 W ms 8).length:Int)->i.toNat<8/\gi (O9 W ms 8) i=(gi W.ID ((i.toNat:Nat):Int),ms i.toNat):=λi a b=>by
   rw[Xe] at b;refine⟨Qo,?_⟩;rw[HO a b,show ((i.toNat:Nat):Int)=i by omega]
  refine⟨(hG.step gL).own.mono z2,λi a b=>?_,λi j a b a' b' hij=>?_⟩
  ·obtain⟨c1,c2⟩:=hgi i a b;rw[c2];exact((hE _ c1).1.ext gL (hE _ c1).2).mono z2
  ·obtain⟨c1,c2⟩:=hgi i a b;obtain⟨d1,d2⟩:=hgi j a' b';rw[c2,d2];exact hJ _ _ c1 d1 Qo
end
end Go.Proofs.YtnclplgaicdapaaGreatDoor
