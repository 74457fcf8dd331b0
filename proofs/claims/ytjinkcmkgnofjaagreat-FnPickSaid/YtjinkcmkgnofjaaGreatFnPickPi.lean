/- Part 9 of what the law FnPick needs. -/
import Derived.Test.YtjinkcmkgnofjaaGreatFnPickPh
set_option linter.all false
set_option maxRecDepth 100000
set_option maxHeartbeats 8000000
namespace Go.Proofs.YtjinkcmkgnofjaaGreat
open Go.RowKit
def I'(W:Q7)(t:Int)(x:Pv):Q7:={ W with IK:=W.IK.set t.toNat x }
def S8(W:Q7)(c:Int)(x:Pe):Q7:={ W with IF:=W.IF.set c.toNat x }
def Rw(W:Q7)(g:Int)(x:ZL):Q7:={ W with IE:=W.IE.set g.toNat x }
def RR(W:Q7)(g c:Int)(s:MK):Q7:=Rw W g { gi W.IE g with IH:=(gi W.IE g).IH.set c.toNat s }
def WW(W:Q7)(g:Int)(b:Jx):Q7:=Rw W g { gi W.IE g with IY:=b }
def Aq{α:Type}[Inhabited α](l:List α)(i:Int):gi l i=gi l ((i.toNat:Nat):Int):=by unfold gi;rw[Ii]
structure QY (gs gs':List ZL):Prop where
 len:gs'.length=gs.length
 u:∀i:Int,(gi gs' i).IW=(gi gs i).IW
 p:∀i:Int,(gi gs' i).IG=(gi gs i).IG
 n:∀i:Int,(gi gs' i).name=(gi gs i).name
def QY.refl(gs:List ZL):QY gs gs:=⟨rfl,λ_=>rfl,λ_=>rfl,λ_=>rfl⟩
def QY.trans{a b c:List ZL}(h:QY a b)(k:QY b c):QY a c:=⟨k.len.trans h.len,λi=>(k.u i).trans (h.u i),λi=>(k.p i).trans (h.p i),λi=>(k.n i).trans (h.n i)⟩
def QY.dW{gs gs':List ZL}(h:QY gs gs')(i:Int):Q6 gs' i=Q6 gs i:=by unfold Q6;rw[h.len,h.u]
def QY.dep{gs gs':List ZL}(h:QY gs gs'):∀(f:Nat) (i:Int),YtjinkcmkgnofjaaGreat.dep f gs' i=YtjinkcmkgnofjaaGreat.dep f gs i
 |0,i=>rfl
 |f+1,i=>by simp only[YtjinkcmkgnofjaaGreat.dep];rw[h.p,h.dep f]
def QY.path{gs gs':List ZL}(h:QY gs gs'):∀(f:Nat) (i:Int),U6 f gs' i=U6 f gs i
 |0,i=>rfl
 |f+1,i=>by simp only[U6];rw[h.p,h.path f]
def QY.tree{gs gs':List ZL}(h:QY gs gs')(t:ZZ gs):ZZ gs':=
 ⟨by rw[h.len];exact t.len,by rw[h.u];exact t.ru,by rw[h.p];exact t.rp,by rw[h.n];exact t.rn,λg a b c=>by rw[h.u] at c;rw[h.n];exact t.nm g a b c,λg a b c=>by rw[h.u] at c;rw[h.dW,h.p];exact t.par g a b c,
  λg a b c=>by rw[h.u] at c;rw[h.dep];exact t.dp g a b c,λg k a b c d e=>by rw[h.u] at d e;rw[h.p,h.p,h.n,h.n];exact t.uniq g k a b c d e⟩
def Ym{W:Q7}{g:Int}{x:ZL}(h0:0<=g)(h1:g<(W.IE.length:Int)){i:Int}(hi:0<=i):gi (Rw W g x).IE i=if g=i then x else gi W.IE i:=QD _ _ h0 h1 hi
def Jh{W:Q7}{g:Int}{x:ZL}(h0:0<=g)(h1:g<(W.IE.length:Int))(u:x.IW=(gi W.IE g).IW)(p:x.IG=(gi W.IE g).IG)(n:x.name=(gi W.IE g).name):QY W.IE (Rw W g x).IE:=by
 have key:∀i:Int,gi (Rw W g x).IE i=if g=((i.toNat:Nat):Int) then x else gi W.IE i:=λi=>by
  rw[Aq,Ym h0 h1 Qo,<-Aq W.IE i]
 refine⟨I0,λi=>?_,λi=>?_,λi=>?_⟩
 all_goals
  rw[key];split
  ·rename_i e;rw[Aq W.IE i,<-e];assumption
  ·rfl
def WA.set{W:Q7}(ha:WA W){g:Int}{x:ZL}(h0:0<=g)(h1:g<8)(u:x.IW=(gi W.IE g).IW)(p:x.IG=(gi W.IE g).IG)(n:x.name=(gi W.IE g).name)(hN:x.IW=false->znu x)(hU:x.IW->zib W g x):WA (Rw W g x):=by
 have hl:=ha.gl;refine⟨ha.n1,ha.n2,ha.c1,ha.c2,ha.t,(Jh h0 Qo u p n).tree ha.tree,ha.ups,λk k0 k1=>?_⟩;show Pt (Rw W g x) k;unfold Pt;rw[Ym h0 Qo k0]
 by_cases e:g=k
 ·subst e;rw[H' rfl];exact⟨hN,λhu=>by have:=hU hu;exact⟨this.w1,this.w2,this.m,this.m0,this.s,this.len,this.root,this.none,this.IY⟩⟩
 ·rw[E' e];have:=ha.grp k k0 k1;exact⟨this.1,λhu=>by have:=this.2 hu;exact⟨this.w1,this.w2,this.m,this.m0,this.s,this.len,this.root,this.none,this.IY⟩⟩
def WA.RR{W:Q7}(ha:WA W){g c:Int}{s:MK}(h0:0<=g)(h1:g<8):WA (RR W g c s):=by
 have hg:=ha.grp g h0 h1;refine ha.set h0 h1 rfl rfl rfl (λhu=>?_) λhu=>?_
 ·have:=hg.1 hu;exact⟨this.p,this.n,this.w,this.c,this.pe,this.ne,this.s,by rw[I0];exact this.l,this.b⟩
 ·have:=hg.2 hu;exact⟨this.w1,this.w2,this.m,this.m0,this.s,by rw[I0];exact this.len,this.root,this.none,this.IY⟩
def Jg{W:Q7}{g c:Int}{s:MK}(h0:0<=g)(h1:g<(W.IE.length:Int))(c0:0<=c)(c1:c<((gi W.IE g).IH.length:Int)){i d:Int}(hi:0<=i)(hd:0<=d):Qb (RR W g c s) i d=if g=i/\c=d then s else Qb W i d:=by
 unfold Qb YtjinkcmkgnofjaaGreat.RR;rw[Ym h0 h1 hi]
 by_cases e:g=i
 ·subst e;rw[H' rfl,QD _ _ c0 c1 hd]
  by_cases e2:c=d
  ·rw[H' e2,H' ⟨rfl,e2⟩]
  ·rw[E' e2,E' (λh=>e2 h.2)]
 ·rw[E' e,E' (λh=>e h.1)]
def Xu{W:Q7}{g c:Int}{s:MK}(h0:0<=g)(h1:g<(W.IE.length:Int)):QY W.IE (RR W g c s).IE:=Jh h0 h1 rfl rfl rfl
def L9{W:Q7}{g c:Int}{s:MK}(h0:0<=g)(h1:g<(W.IE.length:Int)){i d:Int}(hi:0<=i):V6 (RR W g c s) i d=V6 W i d:=by
 unfold V6 YtjinkcmkgnofjaaGreat.RR;rw[Ym h0 h1 hi];split
 ·rename_i e;subst e;rfl
 ·rfl
def zb5{W:Q7}{g c:Int}{s:MK}(h0:0<=g)(h1:g<(W.IE.length:Int)){i:Int}(hi:0<=i):(gi (RR W g c s).IE i).IY=(gi W.IE i).IY:=by
 unfold YtjinkcmkgnofjaaGreat.RR;rw[Ym h0 h1 hi];split
 ·rename_i e;subst e;rfl
 ·rfl
def zc7{W:Q7}{g c:Int}{s:MK}(h0:0<=g)(h1:g<(W.IE.length:Int)){i:Int}(hi:0<=i):(gi (RR W g c s).IE i).IH.length=(gi W.IE i).IH.length:=by
 unfold YtjinkcmkgnofjaaGreat.RR;rw[Ym h0 h1 hi];split
 ·rename_i e;subst e;simp
 ·rfl
structure SW (K:Int) (W:Q7):Prop where
 a:WA W
 t:∀t:Int,0<=t->t<12->(Q8 W t).state≠0->Q6 W.IE (Q8 W t).II/\0<=(Q8 W t).R8/\(Q8 W t).R8<(W.IF.length:Int)
 tv:∀t:Int,0<=t->t<12->0<=(Q8 W t).v/\(Q8 W t).v<=K
 s:∀k c:Int,Q6 W.IE k->0<=c->c<(W.IF.length:Int)->0<=(Qb W k c).IL/\(Qb W k c).IL<=K/\0<=(Qb W k c).v/\(Qb W k c).v<=K/\1<=(Qb W k c).w/\(Qb W k c).w<=20
 cu:∀c:Int,0<=c->c<(W.IF.length:Int)->-1<=(gi W.IF c).cur/\(gi W.IF c).cur<12
structure SF (F K:Int) (W:Q7):Prop where
 w:SW K W
 f:∀k c:Int,Q6 W.IE k->0<=c->c<(W.IF.length:Int)->(Qb W k c).IL<=F
def SW.mono{K K':Int}{W:Q7}(h:SW K W)(hk:K<=K'):SW K' W:=
 ⟨h.a,h.t,λt a b=>by have:=h.tv t a b;omega,λk c u a b=>by have:=h.s k c u a b;omega,h.cu⟩
def SW.sf{K:Int}{W:Q7}(h:SW K W):SF K K W:=⟨h,λk c u a b=>(h.s k c u a b).2.1⟩
def SF.mono{F K F' K':Int}{W:Q7}(h:SF F K W)(hf:F<=F')(hk:K<=K'):SF F' K' W:=⟨h.w.mono hk,λk c u a b=>by have:=h.f k c u a b;omega⟩
def SW.li{K:Int}{W:Q7}(h:SW K W){t:Int}(t0:0<=t)(t1:t<(W.IK.length:Int))(hs:(Q8 W t).state=1):Q6 W.IE (Q8 W t).II/\0<=(Q8 W t).R8/\(Q8 W t).R8<(W.IF.length:Int):=by
 have hl:=h.a.t;exact h.t t t0 Qo Qo
def SF.RR{F K:Int}{W:Q7}(h:SF F K W){g c:Int}{s:MK}(hu:Q6 W.IE g)(c0:0<=c)(c1:c<(W.IF.length:Int))(f0:0<=s.IL)(f1:s.IL<=F)(fk:s.IL<=K)(v0:0<=s.v)(v1:s.v<=K)(w1:1<=s.w)(w2:s.w<=20):SF F K (RR W g c s):=by
 obtain⟨u0,u1,_⟩:=Q5.1 hu;have hl:=h.w.a.gl;have hs:=h.w.a.sl hu;have hT:=Xu (W:=W) (g:=g) (c:=c) (s:=s) u0 u1
 have e:∀k d:Int,Q6 (YtjinkcmkgnofjaaGreat.RR W g c s).IE k->0<=d->Qb (YtjinkcmkgnofjaaGreat.RR W g c s) k d=if g=k/\c=d then s else Qb W k d:=λk d uk hd=>by
  rw[hT.dW] at uk;exact Jg u0 u1 c0 Qo (Q5.1 uk).1 hd
 refine⟨⟨h.w.a.RR u0 Qo,λt a b n=>by rw[hT.dW];exact h.w.t t a b n,h.w.tv,λk d uk a b=>?_,h.w.cu⟩,λk d uk a b=>?_⟩
 ·rw[e k d uk a];rw[hT.dW] at uk;split
  ·exact⟨f0,fk,v0,v1,w1,w2⟩
  ·exact h.w.s k d uk a b
 ·rw[e k d uk a];rw[hT.dW] at uk;split
  ·exact f1
  ·exact h.f k d uk a b
def Yq(W:Q7)(k c:Int):MK:=
 { Qb W k c with
  v:=if (QA W k c && !V6 W k c)=true/\(Qb W k c).on=false then (Qb W (gi W.IE k).IG c).IL+Xc ((Qb W k c).v-(Qb W (gi W.IE k).IG c).IL) (Qb W k c).w else (Qb W k c).v
  on:=QA W k c && !V6 W k c }
def ZW(W:Q7)(c d:Int):Nat->Q7
 |0=>W
 |k+1=>if (gi (ZW W c d k).IE (k:Int)).IW=true/\dep 3 (ZW W c d k).IE (k:Int)=d then RR (ZW W c d k) (k:Int) c (Yq (ZW W c d k) (k:Int) c) else ZW W c d k
def zmn{W:Q7}{c d:Int}(h:d≠0):ZW W c d 1=W:=by
 show (if (gi W.IE ((0:Nat):Int)).IW=true/\dep 3 W.IE ((0:Nat):Int)=d then _ else W)=W;refine E' λhc=>h ?_
 have:=hc.2;rw[show (((0:Nat):Int))=0 from rfl,Ye] at this;exact this.symm
def XM(W:Q7)(c:Int):Nat->Q7
 |0=>W
 |j+1=>ZW (XM W c j) c (3-(j:Int)) 8
def QQ(W:Q7)(c:Int):Q7:=XM W c 3
abbrev Qp:Int:=34686091440
def zpj{F K:Int}{W:Q7}(h:SF F K W)(hk:F+Qp<=K){k c d:Int}(hu:Q6 W.IE k)(hd:dep 3 W.IE k=d)(d1:1<=d)(c0:0<=c)(c1:c<(W.IF.length:Int)):SF F K (RR W k c (Yq W k c)):=by
 have hz:k≠0:=λe=>by subst e;rw[Ye] at hd;omega
 have hp:=h.w.a.up hu hz;have s1:=h.w.s k c hu c0 c1;have s2:=h.w.s _ c hp c0 c1;have f1:=h.f k c hu c0 c1;have f2:=h.f _ c hp c0 c1;have lc:=ZX ((Qb W k c).v-(Qb W (gi W.IE k).IG c).IL) (Qb W k c).w;have lm:=ZV (Qb W k c).w;refine h.RR hu c0 c1 s1.1 f1 (by show (Qb W k c).IL<=K;omega) ?_ ?_ s1.2.2.2.2.1 s1.2.2.2.2.2
 ·simp only[Yq];split <;> omega
 ·simp only[Yq];simp only[Qp] at hk;split <;> omega
structure JD (W W':Q7):Prop where
 n:W'.now=W.now
 c:W'.IF=W.IF
 t:W'.IK=W.IK
 g:QY W.IE W'.IE
 b:∀i:Int,0<=i->(gi W'.IE i).IY=(gi W.IE i).IY
 l:∀i:Int,0<=i->(gi W'.IE i).IH.length=(gi W.IE i).IH.length
def JD.refl(W:Q7):JD W W:=⟨rfl,rfl,rfl,QY.refl _,λ_ _=>rfl,λ_ _=>rfl⟩
def JD.trans{A B C:Q7}(h:JD A B)(k:JD B C):JD A C:=⟨k.n.trans h.n,k.c.trans h.c,k.t.trans h.t,h.g.trans k.g,λi hi=>(k.b i hi).trans (h.b i hi),λi hi=>(k.l i hi).trans (h.l i hi)⟩
def M5{W:Q7}{g c:Int}{s:MK}(h0:0<=g)(h1:g<(W.IE.length:Int)):JD W (RR W g c s):=⟨rfl,rfl,rfl,Xu h0 h1,λ_ hi=>zb5 h0 h1 hi,λ_ hi=>zc7 h0 h1 hi⟩
def AM{F K:Int}{W:Q7}(h:SF F K W)(hk:F+Qp<=K){c d:Int}(d1:1<=d)(c0:0<=c)(c1:c<(W.IF.length:Int)):∀k:Nat,k<=8->SF F K (ZW W c d k)/\JD W (ZW W c d k)
 |0,_=>⟨h,JD.refl _⟩
 |k+1,hk8=>by
  obtain⟨ih,io⟩:=AM h hk (d:=d) d1 c0 c1 k Qo;have hl:=ih.w.a.gl;simp only[ZW];split
  ·rename_i hc;have hu:Q6 (ZW W c d k).IE (k:Int):=Q5.2 ⟨Qo,Qo,hc.1⟩;exact⟨zpj ih hk hu hc.2 d1 c0 (by rw[io.c];exact c1),io.trans (M5 Qo Qo)⟩
  ·exact⟨ih,io⟩
def EA{F K:Int}{W:Q7}(h:SF F K W)(hk:F+Qp<=K){c:Int}(c0:0<=c)(c1:c<(W.IF.length:Int)):∀j:Nat,j<=3->SF F K (XM W c j)/\JD W (XM W c j)
 |0,_=>⟨h,JD.refl _⟩
 |j+1,hj=>by
  obtain⟨a1,b1⟩:=EA h hk c0 c1 j Qo;obtain⟨a2,b2⟩:=AM a1 hk (c:=c) (d:=3-(j:Int)) Qo c0 (by rw[b1.c];exact c1) 8 Qo;exact⟨a2,b1.trans b2⟩
def Ez{F K:Int}{W:Q7}(h:SF F K W)(hk:F+Qp<=K){c:Int}(c0:0<=c)(c1:c<(W.IF.length:Int)):SF F K (QQ W c)/\JD W (QQ W c):=EA h hk c0 c1 3 (I9 _)
def YV(W:Q7):Nat->Q7
 |0=>W
 |c+1=>QQ (YV W c) (c:Int)
def Ov{F K:Int}{W:Q7}(h:SF F K W)(hk:F+Qp<=K):∀c:Nat,c<=W.IF.length->SF F K (YV W c)/\JD W (YV W c)
 |0,_=>⟨h,JD.refl _⟩
 |c+1,hc=>by
  obtain⟨a,b⟩:=Ov h hk c Qo;obtain⟨a2,b2⟩:=Ez a hk (c:=(c:Int)) Qo (by rw[b.c];omega);exact⟨a2,b.trans b2⟩
def Yo(b:Jx)(c:Int):Jx:={ b with Sy:=b.Sy+gi b.locals c,locals:=b.locals.set c.toNat 0,RW:=if b.Sy+gi b.locals c>0 then List.replicate b.RW.length false else b.RW }
def KT(l:List Int)(c:Int)(x:Int)(c0:0<=c)(c1:c<(l.length:Int)):∀k:Nat,Uo (l.set c.toNat x) k=Uo l k+if c<(k:Int) then x-gi l c else 0
 |0=>by simp only[Uo];rw[E' Qo];omega
 |k+1=>by
  simp only[Uo];rw[KT l c x c0 c1 k,QD _ _ c0 c1 Qo]
  by_cases e:c=(k:Int)
  ·subst e;rw[E' Qo,H' rfl,H' Qo];omega
  ·rw[E' e]
   by_cases h:c<(k:Int)
   ·rw[H' h,H' Qo];omega
   ·rw[E' h,E' Qo];omega
def zfo{l:List Int}(h:∀c:Int,0<=c->c<(l.length:Int)->0<=gi l c){c:Int}(c0:0<=c):∀k:Nat,k<=l.length->0<=Uo l k/\(c<(k:Int)->gi l c<=Uo l k)
 |0,_=>by simp only[Uo];exact⟨Qo,λh=>by omega⟩
 |k+1,hk=>by
  have ih:=zfo h c0 k Qo;have:=h (k:Int) Qo Qo;simp only[Uo];refine⟨Qo,λhc=>?_⟩
  by_cases e:c=(k:Int)
  ·subst e;omega
  ·have:=ih.2 Qo;omega
def O7{α:Type}[Inhabited α](n:Nat)(x:α){i:Int}(h0:0<=i)(h1:i<(n:Int)):gi (List.replicate n x) i=x:=by
 obtain⟨k,rfl⟩:=Int.eq_ofNat_of_zero_le h0;rw[XT (by simp;omega)];simp
def zgl{b:Jx}(h:VL b){c:Int}(c0:0<=c)(c1:c<(b.locals.length:Int))(hp:0<gi b.locals c):VL (Yo b c)/\(Yo b c).locals.length=b.locals.length/\(Yo b c).R4=b.R4:=by
 have hs:=KT b.locals c 0 c0 c1 b.locals.length;rw[H' c1] at hs;have hn:=zfo (λd d0 d1=>(h.each d d0 d1).1) c0 b.locals.length (I9 _);have hn2:=hn.2 c1;have p1:=h.p1;have s1:=h.s1;have su:=h.sum;have Bj8:b.Sy+gi b.locals c>0:=Qo;refine⟨⟨h.q1,h.q2,?_,?_,?_,?_,?_,h.s1,h.s2,λd d0 d1=>?_,?_⟩,by simp[Yo],rfl⟩
 ·simp only[Yo,I0];exact h.l1
 ·simp only[Yo,I0];exact h.l2
 ·simp only[Yo];rw[H' Bj8];simp[h.dl]
 ·simp only[Yo];omega
 ·simp only[Yo];omega
 ·simp only[Yo,I0] at d1 ⊢;have hd:=h.dl;have he:=h.each d d0 d1;rw[H' Bj8,O7 _ _ d0 Qo,QD _ _ c0 c1 d0];have:=h.q1;refine⟨?_,?_,λh=>by cases h⟩
  ·split <;> omega
  ·split <;> omega
 ·simp only[Yo,I0];rw[hs];omega
def YG(W:Q7)(k:Int):Nat->Q7
 |0=>W
 |c+1=>if gi (gi (YG W k c).IE k).IY.locals (c:Int)>0/\QA (YG W k c) k (c:Int)=false then WW (YG W k c) k (Yo (gi (YG W k c).IE k).IY (c:Int)) else YG W k c
def X1(W:Q7):Nat->Q7
 |0=>W
 |k+1=>if (gi (X1 W k).IE (k:Int)).IW=true/\(gi (X1 W k).IE (k:Int)).IY.R4≠0 then YG (X1 W k) (k:Int) (X1 W k).IF.length else X1 W k
def LX(W:Q7):Q7:=X1 W 8
structure Vb (W W':Q7):Prop where
 n:W'.now=W.now
 c:W'.IF=W.IF
 t:W'.IK=W.IK
 g:QY W.IE W'.IE
 s:∀i:Int,0<=i->(gi W'.IE i).IH=(gi W.IE i).IH
def Vb.refl(W:Q7):Vb W W:=⟨rfl,rfl,rfl,QY.refl _,λ_ _=>rfl⟩
def Vb.trans{A B C:Q7}(h:Vb A B)(k:Vb B C):Vb A C:=⟨k.n.trans h.n,k.c.trans h.c,k.t.trans h.t,h.g.trans k.g,λi hi=>(k.s i hi).trans (h.s i hi)⟩
def zcr{W:Q7}{g:Int}{b:Jx}(h0:0<=g)(h1:g<(W.IE.length:Int)):Vb W (WW W g b):=⟨rfl,rfl,rfl,Jh h0 h1 rfl rfl rfl,λi hi=>by
 unfold WW;rw[Ym h0 h1 hi];split
 ·rename_i e;subst e;rfl
 ·rfl⟩
def SF.A83{F K:Int}{W W':Q7}(h:SF F K W)(ho:Vb W W')(ha:WA W'):SF F K W':=by
 have e:∀k c:Int,Q6 W'.IE k->Qb W' k c=Qb W k c:=λk c hu=>by unfold Qb;rw[ho.s k (Q5.1 hu).1]
 have et:∀t:Int,Q8 W' t=Q8 W t:=λt=>by unfold Q8;rw[ho.t]
 refine⟨⟨ha,λt a b n=>?_,λt a b=>by rw[et];exact h.w.tv t a b,λk c u a b=>?_,λc a b=>?_⟩,λk c u a b=>?_⟩
 ·rw[et] at n ⊢;rw[ho.g.dW,ho.c];exact h.w.t t a b n
 ·rw[e k c u];rw[ho.g.dW] at u;rw[ho.c] at b;exact h.w.s k c u a b
 ·rw[ho.c] at b ⊢;exact h.w.cu c a b
 ·rw[e k c u];rw[ho.g.dW] at u;rw[ho.c] at b;exact h.f k c u a b
def WA.WW{W:Q7}(ha:WA W){g:Int}{b:Jx}(hu:Q6 W.IE g)(hq:(gi W.IE g).IY.R4≠0)(hb:VL b)(hl:b.locals.length=W.IF.length)(he:b.R4=(gi W.IE g).IY.R4):WA (WW W g b):=by
 obtain⟨u0,u1,hg⟩:=ha.u hu;have hb0:=hg.IY hq;refine ha.set u0 u1 rfl rfl rfl (λhn=>?_) λ_=>⟨hg.w1,hg.w2,hg.m,hg.m0,hg.s,hg.len,λh=>⟨(hg.root h).1,(hg.root h).2.1,by show b.R4=0;rw[he];exact(hg.root h).2.2⟩,λh=>It (he.symm.trans h) hq,λ_=>⟨hb,hl,hb0.2.2⟩⟩
 have:(gi W.IE g).IW=false:=hn;rw[(Q5.1 hu).2.2] at this;cases this
def HM{F K:Int}{W:Q7}(h:SF F K W){k:Int}(hu:Q6 W.IE k)(hq:(gi W.IE k).IY.R4≠0):∀c:Nat,c<=W.IF.length->SF F K (YG W k c)/\Vb W (YG W k c)/\(gi (YG W k c).IE k).IY.R4≠0
 |0,_=>⟨h,Vb.refl _,hq⟩
 |c+1,hc=>by
  obtain⟨a,b,q⟩:=HM h hu hq c Qo;simp only[YG];split
  ·rename_i AL1;have hu':Q6 (YG W k c).IE k:=by rw[b.g.dW];exact hu
   obtain⟨u0,u1,hg⟩:=a.w.a.u hu';have hb:=hg.IY q;have hl:=a.w.a.gl;have rL:(YG W k c).IF.length=W.IF.length:=by rw[b.c]
   obtain⟨g1,g2,g3⟩:=zgl hb.1 (c:=(c:Int)) Qo Qo AL1.1;have ho:=zcr (W:=YG W k c) (b:=Yo (gi (YG W k c).IE k).IY (c:Int)) u0 Qo;refine⟨a.A83 ho (a.w.a.WW hu' q g1 (by rw[g2,hb.2.1]) g3),b.trans ho,?_⟩;show (gi (Rw _ k _).IE k).IY.R4≠0;rw[Ym u0 Qo u0,H' rfl];exact λe=>q (by rw[<-g3];exact e)
  ·exact⟨a,b,q⟩
def TJ{F K:Int}{W:Q7}(h:SF F K W):∀k:Nat,k<=8->SF F K (X1 W k)/\Vb W (X1 W k)
 |0,_=>⟨h,Vb.refl _⟩
 |k+1,hk=>by
  obtain⟨a,b⟩:=TJ h k Qo;simp only[X1];split
  ·rename_i hc;have hl:=a.w.a.gl;obtain⟨a2,b2,_⟩:=HM a (k:=(k:Int)) (Q5.2 ⟨Qo,Qo,hc.1⟩) hc.2 _ (I9 _);exact⟨a2,b.trans b2⟩
  ·exact⟨a,b⟩
def Eg(W:Q7)(k c:Int):MK:={ Qb W k c with IL:=Zc W k c 20 }
def Z3(W:Q7)(c:Int):Nat->Q7
 |0=>W
 |k+1=>if (gi (Z3 W c k).IE (k:Int)).IW=true/\ZO (Z3 W c k) (k:Int) c 20/\Zc (Z3 W c k) (k:Int) c 20>(Qb (Z3 W c k) (k:Int) c).IL then RR (Z3 W c k) (k:Int) c (Eg (Z3 W c k) (k:Int) c) else Z3 W c k
def Zq(W:Q7)(c:Int):Q7:=Z3 W c 8
def zig{K:Int}{W:Q7}(h:SW K W){k c:Int}(c0:0<=c)(c1:c<(W.IF.length:Int))(hK:0<=K):0<=Zc W k c 20/\Zc W k c 20<=K:=by
 unfold Zc;split
 ·omega
 ·rename_i hn;have hl:=h.a.gl;rcases Z9 (QX W k c) (QZ W c) 20 with h1|h1
  ·omega
  ·obtain⟨j,hj⟩:∃j:Nat,QN (QX W k c) (QZ W c) 20=(j:Int):=⟨(QN (QX W k c) (QZ W c) 20).toNat,Qo⟩;rw[hj,Ii] at h1 ⊢;have hp:=h1.2.2.1;unfold QZ
   by_cases h12:j<12
   ·rw[H' h12];exact h.tv (j:Int) Qo Qo
   ·rw[E' h12];unfold QX at hp;rw[E' h12] at hp;unfold Xy at hp;simp only[A'] at hp;have hu:Q6 W.IE ((j-12:Nat):Int):=Q5.2 ⟨Qo,Qo,hp.1.2.1⟩;have:=h.s _ c hu c0 c1;omega
def Lc{K:Int}{W:Q7}(h:SW K W)(hK:0<=K){c:Int}(c0:0<=c)(c1:c<(W.IF.length:Int)):∀k:Nat,k<=8->SW K (Z3 W c k)/\JD W (Z3 W c k)
 |0,_=>⟨h,JD.refl _⟩
 |k+1,hk=>by
  obtain⟨a,b⟩:=Lc h hK c0 c1 k Qo;have hl:=a.a.gl;have yP:c<((Z3 W c k).IF.length:Int):=by rw[b.c];exact c1
  simp only[Z3];split
  ·rename_i hc;have hu:Q6 (Z3 W c k).IE (k:Int):=Q5.2 ⟨Qo,Qo,hc.1⟩;have s1:=a.s _ c hu c0 yP;have br:=zig a (k:=(k:Int)) c0 yP hK;exact⟨(a.sf.RR (s:=Eg (Z3 W c k) (k:Int) c) hu c0 yP br.1 br.2 br.2 s1.2.2.1 s1.2.2.2.1 s1.2.2.2.2.1 s1.2.2.2.2.2).w,b.trans (M5 Qo Qo)⟩
  ·exact⟨a,b⟩
def XB(x:Pe):Pe:={ x with cur := -1,WC:=0 }
def RG(W:Q7)(c:Int):Q7:=S8 W c (XB (gi W.IF c))
def zlq{cs mI:List Pe}:∀k:Nat,(∀j:Nat,j<k->(gi mI (j:Int)).up=(gi cs (j:Int)).up)->Up mI k=Up cs k
 |0,_=>rfl
 |k+1,h=>by simp only[Up];rw[zlq k λj hj=>h j Qo,h k Qo]
def zfq{cs mI:List Pe}(hl:mI.length=cs.length)(h:∀j:Nat,j<cs.length->(gi mI (j:Int)).up=(gi cs (j:Int)).up):Jb mI=Jb cs:=by
 unfold Jb;rw[hl];exact zlq _ h
def WA.cp{W:Q7}(ha:WA W){cs:List Pe}(hl:cs.length=W.IF.length)(hu:Jb cs≠0):WA { W with IF:=cs }:=
 ⟨ha.n1,ha.n2,by show 1<=cs.length;rw[hl];exact ha.c1,by show cs.length<=4;rw[hl];exact ha.c2,ha.t,ha.tree,hu,λk a b=>by
  have:=ha.grp k a b;refine⟨this.1,λhu=>?_⟩;have hg:=this.2 hu
  exact⟨hg.w1,hg.w2,hg.m,hg.m0,hg.s,by show (gi W.IE k).IH.length=cs.length;rw[hl];exact hg.len,hg.root,hg.none,λq=>by
   have:=hg.IY q;exact⟨this.1,by show (gi W.IE k).IY.locals.length=cs.length;rw[hl];exact this.2.1,this.2.2⟩⟩⟩
def SW.RG{K:Int}{W:Q7}(h:SW K W){c:Int}(c0:0<=c)(c1:c<(W.IF.length:Int)):SW K (RG W c):=by
 have hl:(W.IF.set c.toNat (XB (gi W.IF c))).length=W.IF.length:=I0;have hg:∀d:Int,0<=d->gi (W.IF.set c.toNat (XB (gi W.IF c))) d=if c=d then XB (gi W.IF c) else gi W.IF d:=λd d0=>QD _ _ c0 c1 d0
 refine⟨h.a.cp hl ?_,λt a b n=>?_,h.tv,λk d u a b=>?_,λd a b=>?_⟩
 ·rw[zfq hl λj hj=>?_]
  ·exact h.a.ups
  ·rw[hg _ Qo];split
   ·rename_i e;rw[e];rfl
   ·rfl
 ·show _/\_/\_<(((W.IF.set c.toNat (XB (gi W.IF c))).length:Nat):Int);rw[hl];exact h.t t a b n
 ·have b:d<(((W.IF.set c.toNat (XB (gi W.IF c))).length:Nat):Int):=b;rw[hl] at b;exact h.s k d u a b
 ·have b:d<(((W.IF.set c.toNat (XB (gi W.IF c))).length:Nat):Int):=b;rw[hl] at b;show _<=(gi (W.IF.set c.toNat (XB (gi W.IF c))) d).cur/\_;rw[show (gi (YtjinkcmkgnofjaaGreat.RG W c).IF d).cur=(gi (W.IF.set c.toNat (XB (gi W.IF c))) d).cur from rfl,hg _ a];split
  ·exact⟨I4 _,show (-1:Int)<12 by decide⟩
  ·exact h.cu d a b
def MM(W:Q7)(c:Int):Bool:=decide ((gi W.IF c).cur>=0)&&(((Q8 W (gi W.IF c).cur).R8 != c) || !Zi W (gi W.IF c).cur)
def VG(W:Q7)(c:Int):Q7:=if MM (Zq (QQ W c) c) c=true then RG (Zq (QQ W c) c) c else Zq (QQ W c) c
def JQ(W:Q7):Nat->Q7
 |0=>W
 |c+1=>VG (JQ W c) (c:Int)
def Qh(W:Q7):Q7:=JQ (LX (YV W W.IF.length)) W.IF.length
structure Fr (W W':Q7):Prop where
 n:W'.now=W.now
 c:W'.IF.length=W.IF.length
 t:W'.IK=W.IK
 g:QY W.IE W'.IE
def Fr.refl(W:Q7):Fr W W:=⟨rfl,rfl,rfl,QY.refl _⟩
def Fr.trans{A B C:Q7}(h:Fr A B)(k:Fr B C):Fr A C:=⟨k.n.trans h.n,k.c.trans h.c,k.t.trans h.t,h.g.trans k.g⟩
def JD.fr{W W':Q7}(h:JD W W'):Fr W W':=⟨h.n,by rw[h.c],h.t,h.g⟩
def Vb.fr{W W':Q7}(h:Vb W W'):Fr W W':=⟨h.n,by rw[h.c],h.t,h.g⟩
def Ap(W:Q7)(c:Int):Fr W (RG W c):=⟨rfl,I0,rfl,QY.refl _⟩
def zqq{K:Int}{W:Q7}(h:SW K W)(hK:0<=K){c:Int}(c0:0<=c)(c1:c<(W.IF.length:Int)):SW (K+Qp) (VG W c)/\Fr W (VG W c):=by
 obtain⟨a1,b1⟩:=Ez (F:=K) (K:=K+Qp) (h.sf.mono (I4 _) (by simp only[Qp];omega)) (I4 _) c0 c1;obtain⟨a2,b2⟩:=Lc a1.w (by simp only[Qp];omega) c0 (c:=c) (by rw[b1.c];exact c1) 8 Qo;have hf:=b1.fr.trans b2.fr;unfold VG;split
 ·exact⟨SW.RG a2 c0 (by show c<((Z3 (QQ W c) c 8).IF.length:Int);rw[hf.c];exact c1),hf.trans (Ap _ _)⟩
 ·exact⟨a2,hf⟩
def KS{K:Int}{W:Q7}(h:SW K W)(hK:0<=K):∀c:Nat,c<=W.IF.length->SW (K+(c:Int)*Qp) (JQ W c)/\Fr W (JQ W c)
 |0,_=>⟨h.mono Qs,Fr.refl _⟩
 |c+1,hc=>by
  obtain⟨a,b⟩:=KS h hK c Qo;obtain⟨a2,b2⟩:=zqq a (by simp only[Qp];omega) (c:=(c:Int)) Qo (by rw[b.c];omega);exact⟨a2.mono (by simp only[Qp];omega),b.trans b2⟩
abbrev UW:Int:=5*Qp
def Tp{K:Int}{W:Q7}(h:SW K W)(hK:0<=K):SW (K+UW) (Qh W)/\Fr W (Qh W):=by
 obtain⟨a1,b1⟩:=Ov (F:=K) (K:=K+Qp) (h.sf.mono (I4 _) (by simp only[Qp];omega)) (I4 _) W.IF.length (I9 _);obtain⟨a2,b2⟩:=TJ a1 8 Qo;have hf:=b1.fr.trans b2.fr;obtain⟨a3,b3⟩:=KS a2.w (by simp only[Qp];omega) W.IF.length (by show W.IF.length<=(X1 (YV W W.IF.length) 8).IF.length;rw[hf.c];exact I9 _);have:=h.a.c2;exact⟨a3.mono (by simp only[Qp,UW];omega),hf.trans b3⟩
abbrev Qt:Int:=50000000000000000
structure LO (W:Q7):Prop where
 n:W.now<=Qt
 c:∀c:Int,0<=c->c<(W.IF.length:Int)->(gi W.IF c).busy<=Qt/\(gi W.IF c).idle<=Qt
 t:∀t:Int,0<=t->t<(W.IK.length:Int)->(gi W.IK t).v<=Qt/\(gi W.IK t).sum<=Qt/\(gi W.IK t).IW<=Qt
 g:∀k:Int,0<=k->k<(W.IE.length:Int)->(gi W.IE k).sum<=Qt
 s:∀k c:Int,0<=k->k<(W.IE.length:Int)->0<=c->c<((gi W.IE k).IH.length:Int)->(Qb W k c).IL<=Qt/\(Qb W k c).v<=Qt/\(Qb W k c).sum<=Qt
noncomputable def QO(W:Q7):Bool:=JA (LO W)
def P8{W:Q7}(wp:Xw W)(r:LO W):SW Qt W:=by
 have ht:=wp.a.t;have hg:=wp.a.gl;refine⟨wp.a,λt t0 t1 n=>?_,λt t0 t1=>?_,λk c u c0 c1=>?_,λc c0 c1=>?_⟩
 ·rcases wp.t t t0 t1 with h|h
  ·exact It h.1 n
  ·exact⟨h.2.g,Km wp.a h.2.c⟩
 ·refine⟨?_,(r.t t t0 Qo).1⟩;rcases wp.t t t0 t1 with h|h
  ·rw[h.2];exact I4 _
  ·exact(Y2.1 h.2.v).1
 ·obtain⟨u0,u1,_⟩:=Q5.1 u;have hl:=wp.a.sl u;have hs:=wp.s k c u0 Qo c0 Qo;have hr:=r.s k c u0 u1 c0 Qo;exact⟨(Y2.1 hs.f).1,hr.1,(Y2.1 hs.v).1,hr.2.1,hs.w1,hs.w2⟩
 ·have hc:=wp.c c c0 c1;have h1:=hc.c1;have h2:=hc.c2;omega
def WA.tk{W:Q7}(ha:WA W){ts:List Pv}(hl:ts.length=W.IK.length):WA { W with IK:=ts }:=
 ⟨ha.n1,ha.n2,ha.c1,ha.c2,by show ts.length=12;rw[hl];exact ha.t,ha.tree,ha.ups,λk a b=>by
  have:=ha.grp k a b;refine⟨this.1,λhu=>?_⟩;have hg:=this.2 hu;exact⟨hg.w1,hg.w2,hg.m,hg.m0,hg.s,hg.len,hg.root,hg.none,hg.IY⟩⟩
def SW.I'{K:Int}{W:Q7}(h:SW K W){t:Int}(t0:0<=t)(t1:t<12){x:Pv}(hx:x.state≠0->Q6 W.IE x.II/\0<=x.R8/\x.R8<(W.IF.length:Int))(v0:0<=x.v)(v1:x.v<=K):SW K (I' W t x):=by
 have hl:=h.a.t;have e:∀i:Int,0<=i->Q8 (YtjinkcmkgnofjaaGreat.I' W t x) i=if t=i then x else Q8 W i:=λi i0=>QD _ _ t0 Qo i0
 refine⟨h.a.tk I0,λi a b n=>?_,λi a b=>?_,h.s,h.cu⟩
 ·rw[e i a] at n ⊢;split
  ·rename_i he;rw[H' he] at n;exact hx n
  ·rename_i he;rw[E' he] at n;exact h.t i a b n
 ·rw[e i a];split
  ·exact⟨v0,v1⟩
  ·exact h.tv i a b
def Mf:Q7:=⟨0,[],[],[]⟩
def zs1:MW:=⟨none,0,none,0,none,0,λ_=>⟨none,0,none,0,none,0⟩⟩
noncomputable def Xz(W:Q7)(jG:Int)(W':Q7):Q7×Int:=if QH W=false then (Mf,1) else if jG≠0 then (W,jG) else (W',0)
def zri{W W':Q7}{jG:Int}(h:QH W=false):Xz W jG W'=(Mf,1):=H' h
def zrj{W W':Q7}{jG:Int}(h:QH W)(hb:jG≠0):Xz W jG W'=(W,jG):=by unfold Xz;rw[E' (by rw[h];decide),H' hb]
def zt7{W W':Q7}{jG:Int}(h:QH W)(hb:jG=0):Xz W jG W'=(W',0):=by unfold Xz;rw[E' (by rw[h];decide),E' (by simpa using hb)]
def ZI(W:Q7)(t:Int):Bool:=Yp t 0 ((W.IK.length:Int)-1)&&((Q8 W t).state != 0)
def YK{W:Q7}{t:Int}(h:ZI W t):0<=t/\t<(W.IK.length:Int)/\(Q8 W t).state≠0:=by
 unfold ZI at h;simp only[A',Iv,ne_eq] at h;have:=Qr.1 h.1;exact⟨Qo,Qo,h.2⟩
noncomputable def Ve(W:Q7)(t:Int):Int:=if ZI W t=false then 2 else if (Q8 W t).state≠1 then 6 else if QO W=false then 10 else 0
def zd3(W:Q7)(t:Int):Q7:=Qh (I' W t { Q8 W t with state:=2 })
def zf1{W:Q7}{t:Int}(hW:QH W)(hb:Ve W t=0):ZI W t/\(Q8 W t).state=1/\SW Qt W/\SW Qt (I' W t { Q8 W t with state:=2 }):=by
 have wp:=Qm.1 hW;unfold Ve at hb
 split at hb
 ·cases hb
 ·rename_i h1
  split at hb
  ·cases hb
  ·rename_i h2
   split at hb
   ·cases hb
   ·rename_i h3;have h1:ZI W t:=by simpa using h1
    have h2:(Q8 W t).state=1:=by simpa using h2
    have h3:QO W:=by simpa using h3
    have sw:=P8 wp (Qm.1 h3);obtain⟨t0,t1,n⟩:=YK h1;have hl:=wp.a.t;have hv:=sw.tv t t0 Qo;exact⟨h1,h2,sw,sw.I' t0 Qo (λ_=>sw.t t t0 Qo n) hv.1 hv.2⟩
def U4(b:Jx):Jx:=⟨b.R4,b.R4,0,List.replicate b.RW.length 0,List.replicate b.RW.length false⟩
def YJ(b:Jx)(c:Int):Jx×Int:=
 if gi b.locals c>0 then (b,0)
 else (⟨b.R4,b.Sy-Y1 20 b.Sy,b.WI,b.locals.set c.toNat (Y1 20 b.Sy),b.RW.set c.toNat (Y1 20 b.Sy==0)⟩,if Y1 20 b.Sy=0 then 2 else 0)
def Tq(b:Jx)(c n:Int):Jx×Int:=
 if n<1\/n>gi b.locals c then (b,3) else ({ b with WI:=b.WI+n,locals:=b.locals.set c.toNat (gi b.locals c-n) },0)
def YM(b:Jx)(op:ztr):Jx×Int:=
 if op.kind=4 then (U4 b,0)
 else if Yp op.rJ 0 ((b.locals.length:Int)-1)=false then (b,1)
 else if op.kind=1 then YJ b op.rJ
 else if op.kind=2 then Tq b op.rJ op.n
 else if op.kind=3 then (Yo b op.rJ,0)
 else (b,1)
structure Z2 (base:Nat) (w:Wo) (b:Jx) (p:MG):Prop where
 loc:Jy Jk 1 Qc base w p.lO p.lC b.locals
 RW:Jy K4 1 YT base w p.dO p.dC b.RW
def ZQ(p:MG):List Nat:=QE p.lO++QE p.dO
def Z2.lt{base:Nat}{w:Wo}{b:Jx}{p:MG}(h:Z2 base w b p):∀x∈ZQ p,base<=x/\x<w.heap.size:=λx hx=>by
 rcases Ip.1 hx with hx|hx
 ·exact h.loc.lt x hx
 ·exact h.RW.lt x hx
def Z2.ext{base:Nat}{w w':Wo}{b:Jx}{p:MG}{bs:List Nat}(h:Z2 base w b p)(hx:Q0 bs w w')(hd:∀x∈ZQ p,x∉bs):Z2 base w' b p:=
 ⟨h.loc.ext hx λx hm=>hd x (Ic _ hm),h.RW.ext hx λx hm=>hd x (Iz _ hm)⟩
def Z2.gG{base:Nat}{w w':Wo}{b:Jx}{p:MG}(h:Z2 base w b p)(hx:Q0 [] w w'):Z2 base w' b p:=h.ext hx Qs
def Z2.CG8{base:Nat}{w w':Wo}{b:Jx}{p:MG}{bs:List Nat}(h:Z2 base w b p)(hx:Q0 bs w w')(hb:∀x∈bs,x<base):Z2 base w' b p:=h.ext hx λx hm nZ=>by
 have:=(h.lt x hm).1;have:=hb x nZ;omega
def Z2.mono{base aO:Nat}{w:Wo}{b:Jx}{p:MG}(h:Z2 base w b p)(hb:aO<=base):Z2 aO w b p:=⟨h.loc.mono hb,h.RW.mono hb⟩
def Z2.eY{base:Nat}{w:Wo}{b:Jx}{p:MG}(h:Z2 base w b p){c:Int}(c0:0<=c)(c1:c<(b.locals.length:Int))(x:Int):Z2 base (RN w p.lO (Int.toNat c*1) [I x]) { b with locals:=b.locals.set c.toNat x } p:=
 ⟨h.loc.RN Yr.len c0 c1 (j:=0) (vs:=[I x]) (x:=x) rfl Qs,h.RW.ext (h.loc.tN _ _) (h.RW.WX h.loc Qd)⟩
def Z2.CA8{base:Nat}{w:Wo}{b:Jx}{p:MG}(h:Z2 base w b p){c:Int}(c0:0<=c)(c1:c<(b.RW.length:Int))(x:Bool):Z2 base (RN w p.dO (Int.toNat c*1) [.bool x]) { b with RW:=b.RW.set c.toNat x } p:=
 ⟨h.loc.ext (h.RW.tN _ _) (h.loc.WX h.RW Qd),h.RW.RN Xm.len c0 c1 (j:=0) (vs:=[.bool x]) (x:=x) rfl Qs⟩
def Z2.xL{base:Nat}{w:Wo}{b:Jx}{p:MG}(h:Z2 base w b p)(n:Nat)(vs:List Va):Q0 (ZQ p) w (RN w p.lO n vs):=(h.loc.tN n vs).mono λx hx=>Ic _ hx
def Z2.xD{base:Nat}{w:Wo}{b:Jx}{p:MG}(h:Z2 base w b p)(n:Nat)(vs:List Va):Q0 (ZQ p) w (RN w p.dO n vs):=(h.RW.tN n vs).mono λx hx=>Iz _ hx
section
variable {b:Jx}{m:MG}{w:Wo}
def KU{α:Type}[Inhabited α]{l:List α}{i:Nat}(h:i<l.length):l.take i++[gi l (i:Int)]=l.take (i+1):=by
 rw[List.take_succ_eq_append_getElem h,XT h]
def HW(h1:znn [] w m.lO b.locals)(h2:zre [] w m.dO b.RW)(hd:b.RW.length=b.locals.length)(hl:b.locals.length<=1048576) :
  Cz Tt #[.agg (Za b m).toArray] w λe w'=>∃p,e=.returned (.agg (Za b p).toArray)/\Z2 w.heap.size w' b p/\Q0 [] w w':=by
 refine(zeg b.R4 b.Sy b.WI m.lO b.locals.length m.lC m.dO b.RW.length m.dC (R:=λv w'=>∃p,v=.agg (Za b p).toArray/\Z2 w.heap.size w' b p/\Q0 [] w w') ?_).mono λe w' ⟨v,he,p,hv,h3⟩=>⟨p,by rw[he,hv],h3⟩
 intro x tJ x5 Wb x6 eM
 refine⟨λvs w1=>∃(i:Nat) (p:MG),vs=[I (i:Int),I b.R4,I b.Sy,I b.WI,.slice p.lO (b.locals.take i).length p.lC,.slice p.dO (b.RW.take i).length p.dC]/\i<=b.locals.length/\Sc w [x,x5,x6] w1/\Ob Jk 1 Qc w.heap.size [x,x5,x6] w1 p.lO p.lC (b.locals.take i)/\Ob K4 1 YT w.heap.size [x,x5,x6] w1 p.dO p.dC (b.RW.take i),
  Zk b.locals.length 0,λwr hx _=>⟨0,⟨none,0,none,0,none,0⟩,Qs,Ig _,(((Sc.start w).add tJ).add Wb |>.add eM).RJ hx,⟨.inl ⟨rfl,rfl,rfl⟩,by simp[QE]⟩,⟨.inl ⟨rfl,rfl,rfl⟩,by simp[QE]⟩⟩,?_⟩
 rintro c1 l l1 l2 Se Sf Sg l4O l4L l4C wv hs ⟨i,p,he,hi,s1,hO,hD⟩;simp only[I6,I7,Iy,true_and,and_true] at he;obtain⟨rfl,rfl,rfl,rfl,⟨rfl,rfl,rfl⟩,rfl,rfl,rfl⟩:=he;refine⟨λIX=>?_,λRX=>?_⟩
 ·have IX:=Ot IX;have tR:=h1.scb s1;refine⟨tR.ix VY Qo IX,_,tR i Qo IX,λb8 hb8=>⟨rfl,λRL Ru kO Wn=>?_⟩⟩;have s2:=s1.put Ru hb8;have tF:=hO.put Ru hb8;have hD2:=hD.put Ru hb8;obtain⟨o2,c2,w2,Wa,uB,hO3,Wc⟩:=tF.tY Yr Mc (x:=gi b.locals (i:Int)) kO s2.ext.size Wn (zv8 _) (by rw[List.length_take];omega) Qd Yc #[false,false];rw[KU Qo] at Wa hO3;have s3:=s2.call Wc λx hm=>(tF.own.lt x hm).1
  have hD3:=hD2.call Wc (hD2.own.WX tF.own Qd);have sU:=h2.scb s3;refine⟨_,_,_,w2,Wa,uB,sU.ix Af Qo Qo,_,sU i Qo Qo,λb9 hb9=>⟨rfl,λRO X' gX B63=>?_⟩⟩;have s4:=s3.put X' hb9;have hO4:=hO3.put X' hb9;have hD4:=hD3.put X' hb9;obtain⟨o4,c4,w4,B01,hk4,hD5,pS⟩:=hD4.tY Xm Fa (x:=gi b.RW (i:Int)) gX s4.ext.size B63 (zwx _) (by rw[List.length_take];omega) Qd UZ #[false,false];rw[KU Qo] at B01 hD5;have s5:=s4.call pS λx hm=>(hD4.own.lt x hm).1
  have hO5:=hO4.call pS (hO4.own.WX hD4.own Qd);refine⟨_,_,_,w4,B01,hk4,⟨Qo,Qo⟩,λw5 Wb _=>⟨⟨i+1,⟨o2,c2,o4,c4,none,0⟩,rfl,Qo,(s5.step Wb).sub Qs,(hO5.step Wb).sub Qs,(hD5.step Wb).sub Qs⟩,?_⟩⟩;simp only[Zk,J5,Y5,Ih];omega
 ·have RX:=Ou RX;have e1:b.locals.take i=b.locals:=List.take_of_length_le Qo;have e2:b.RW.take i=b.RW:=List.take_of_length_le Qo;rw[e1] at hO ⊢;rw[e2] at hD ⊢;exact λw2 Rt=>⟨p,rfl,⟨(hO.step Rt).own,(hD.step Rt).own⟩,(s1.step Rt).ext⟩
def zq3(l:List Bool)(k:Nat)(h:k<l.length):(List.replicate k false++l.drop k).set k false=List.replicate (k+1) false++l.drop (k+1):=by
 rw[List.set_append,E' Qs,List.length_replicate,Nat.sub_self,List.drop_eq_getElem_cons h,List.set_cons_zero,List.replicate_succ',List.append_assoc,List.singleton_append]
def HX{base:Nat}(h:Z2 base w b m)(hl:b.RW.length<=1048576) :
  Cz Tu #[.agg (Za b m).toArray] w λe w'=>e=.returned (.agg (Za b m).toArray)/\Z2 base w' { b with RW:=List.replicate b.RW.length false } m/\Q0 (ZQ m) w w':=by
 refine(zeh b.R4 b.Sy b.WI m.lO b.locals.length m.lC m.dO b.RW.length m.dC (R:=λv w'=>v=.agg (Za b m).toArray/\Z2 base w' { b with RW:=List.replicate b.RW.length false } m/\Q0 (ZQ m) w w') ?_).mono λe w' ⟨v,he,hv,h3⟩=>⟨by rw[he,hv],h3⟩
 intro x tJ x5 Wb
 have hnb:∀y∈ZQ m,y∉[x,x5]:=λy hy hm=>by
  have:=(h.lt y hy).2;simp only[Ik,List.not_mem_nil,or_false] at hm;rcases hm with rfl|rfl <;> omega
 have yR:∀y∈[x,x5],w.heap.size<=y:=λy hm=>by
  simp only[Ik,List.not_mem_nil,or_false] at hm;rcases hm with rfl|rfl <;> assumption
 refine P0 b.RW.length 0 rfl (λk w1=>k<=b.RW.length/\Z2 base w1 { b with RW:=List.replicate k false++b.RW.drop k } m/\Q0 (ZQ m) w w1) (λw1 SD _=>⟨Ig _,by simpa using h.gG SD,SD.of_nil⟩) λk w1 hs ⟨hk,hO,hX⟩=>⟨λIX=>?_,λRX=>?_⟩
 ·have IX:=Ot IX;have hlen:(List.replicate k false++b.RW.drop k).length=b.RW.length:=by simp;omega
  have e1:=hO.CA8 (c:=(k:Int)) Qo (by show (k:Int)<((List.replicate k false++b.RW.drop k).length:Int);rw[hlen];exact IX) false;have e2:({ b with RW:=(List.replicate k false++b.RW.drop k).set k false }:Jx)={ b with RW:=List.replicate (k+1) false++b.RW.drop (k+1) }:=by rw[zq3 _ _ Qo]
  have WJ:=hO.RW.ix (i:=(k:Int)) Qo (by show (k:Int)<((List.replicate k false++b.RW.drop k).length:Int);rw[hlen];exact IX);have tI:=hO.RW.wr Xm.len (bs:=[x,x5]) (λy hy=>hnb y (Iz _ hy)) (i:=(k:Int)) Qo (by show (k:Int)<((List.replicate k false++b.RW.drop k).length:Int);rw[hlen];exact IX) (j:=0) (n:=1) Qd;refine⟨by rw[<-hlen];exact WJ,tI,⟨Qo,Qo⟩,λw2 Rt _=>Z4 Qo ⟨Qo,?_,(hX.trans (hO.xD _ _)).fresh Rt λy hy=>.inl (yR y hy)⟩⟩;rw[Ii] at e1;have:=(e2▸e1:Z2 base (RN w1 m.dO (k*1) [.bool false]) { b with RW:=List.replicate (k+1) false++b.RW.drop (k+1) } m);exact this.ext (by rw[Ii] at Rt;exact Rt) hnb
 ·have RX:=Ou RX;have uB:k=b.RW.length:=Qo;subst uB;rw[List.drop_length,List.append_nil] at hO;exact λw2 Rt=>⟨rfl,hO.ext Rt hnb,hX.fresh Rt λy hy=>.inl (yR y hy)⟩
def ze1{p:Int}(h:0<=p):0<=Y1 20 p/\Y1 20 p<=p:=by unfold Y1;split <;> omega
def Jd{op:ztr}(hb:VL b)(h1:znn [] w m.lO b.locals)(h2:zre [] w m.dO b.RW) :
  Cz Y6 #[.agg (Za b m).toArray,.agg (zom op).toArray] w λe w'=>∃p,e=.returned (.tuple #[.agg (Za (YM b op).1 p).toArray,I (YM b op).2])/\Z2 w.heap.size w' (YM b op).1 p/\Q0 [] w w':=by
 refine(zao b.R4 b.Sy b.WI m.lO b.locals.length m.lC m.dO b.RW.length m.dC op.kind op.rJ op.n (R:=λv w'=>∃p,v=.tuple #[.agg (Za (YM b op).1 p).toArray,I (YM b op).2]/\Z2 w.heap.size w' (YM b op).1 p/\Q0 [] w w') ?_).mono λe w' ⟨v,he,p,hv,h3⟩=>⟨p,by rw[he,hv],h3⟩
 have hm9:=Zp;have hl2:=hb.l2;have hdl:=hb.dl;have q1:=hb.q1;have q2:=hb.q2;have p1:=hb.p1;have p2:=hb.p2;have s1':=hb.s1;have s2':=hb.s2;intro x tJ x5 Wb x6 eM;have hok:=G2 (bs:=[]) h1 h2 Qo;rw[Qm.2 hb] at hok;refine⟨true,hok,λh=>by simp at h,λ_ Ra SD gZ=>?_⟩;have t1:=((((Sc.start w).add tJ).add Wb).add eM).RJ SD;refine(HW (h1.ext SD) (h2.ext SD) hdl Qo).mono λe wv ⟨p,he,hO,eR⟩=>⟨_,_,_,_,_,_,_,_,_,he,Qf eR gZ,λg4=>?_,λg4=>?_⟩
 ·have g4:op.kind=4:=by simpa using g4
  have t2:=t1.RJ eR;have hbl:∀y∈[x,x5,x6],y<Ra.heap.size:=gZ;refine λRg Rt Wg=>⟨_,_,_,_,KR Yr Mc b.RW.length Qo Qo Rg,Qf (Zj _ _) Wg,λRL Ru kO=>?_⟩
  have hLo:=(TO (enc:=Jk) Yr.len Qc b.RW.length (0:Int) Rg).ext Ru λy hy hm=>by
   have:y=Rg.heap.size:=by simpa[QE] using hy
   have:=Wg y hm;omega
  have hD3:Jy K4 1 YT Ra.heap.size RL p.dO p.dC b.RW:=((hO.CG8 Rt hbl).gG (Zj Rg _)).CG8 Ru hbl |>.RW
  have Cl8:Ra.heap.size<=Rg.heap.size:=IC eR.size Rt.size;have hB3:Z2 Ra.heap.size RL { b with locals:=List.replicate b.RW.length 0 } ⟨some ⟨Rg.heap.size,0,none⟩,b.RW.length,p.dO,p.dC,none,0⟩:=⟨hLo.mono Cl8,hD3⟩;have t3:=((t2.step Rt).RJ (Zj Rg (.cells ((List.replicate b.RW.length (0:Int)).flatMap Jk).toArray Qc))).step Ru;have hw:=HX (b:=⟨b.R4,b.R4,0,List.replicate b.RW.length 0,b.RW⟩) (m:=⟨some ⟨Rg.heap.size,0,none⟩,b.RW.length,p.dO,p.dC,none,0⟩) (base:=Ra.heap.size) ⟨hB3.loc,hB3.RW⟩ (by show b.RW.length<=_;omega);simp only[Za,List.length_replicate] at hw;refine I5 hw λe w4 ⟨he4,hO4,pS⟩=>⟨_,_,_,_,_,_,_,_,_,he4,λy hm=>pS.block y (kO y hm) λnZ=>?_,λRO X'=>⟨⟨some ⟨Rg.heap.size,0,none⟩,b.RW.length,p.dO,p.dC,none,0⟩,?_,?_,?_⟩⟩
  ·have:=(hB3.lt y nZ).1;have:=gZ y hm;omega
  ·have:YM b op=(U4 b,0):=by unfold YM;rw[H' g4]
   rw[this];simp[Za,U4]
  ·have:YM b op=(U4 b,0):=by unfold YM;rw[H' g4]
   rw[this]
   exact(Z2.mono ⟨hO4.loc,hO4.RW⟩ SD.size).ext X' λy hy hm=>by
    have:=(hB3.lt y hy).1;have:=gZ y hm;omega
  ·exact((t3.call pS λy hy=>IC SD.size (hB3.lt y hy).1).step X').ext
 ·have g4:¬op.kind=4:=by simpa using g4
  have t2:=t1.RJ eR
  have hbl:∀y∈ZQ p,y∉[x,x5,x6]:=λy hy hm=>by
   have:=(hO.lt y hy).1;have:=gZ y hm;omega
  have hO0:Z2 w.heap.size wv b p:=hO.mono SD.size
  have fin:∀{b':Jx} {c:Int} {w1 w2:Wo},YM b op=(b',c)->Z2 w.heap.size w1 b' p->Q0 (ZQ p) wv w1->Q0 [x,x5,x6] w1 w2->Z2 w.heap.size w2 (YM b op).1 p/\Q0 [] w w2:=λe hB hX hx=>by
   rw[e];exact⟨hB.ext hx hbl,((t2.call hX λy hy=>(hO0.lt y hy).1).step hx).ext⟩
  have tR:znn [x,x5,x6] wv p.lO b.locals:=hO.loc.rd Yr.len λy hy=>hbl y (Ic _ hy)
  refine⟨⟨Qo,Qo⟩,_,Ql,λg5 wr hx=>⟨p,?_,fin (b':=b) (c:=1) ?_ hO0 (Q0.refl _ _) hx⟩,λg5=>?_⟩
  ·have:YM b op=(b,1):=by unfold YM;rw[E' g4,H' (by simpa using g5)]
   rw[this];rfl
  ·unfold YM;rw[E' g4,H' (by simpa using g5)]
  have g5':Yp op.rJ 0 ((b.locals.length:Int)-1):=by simpa using g5
  have nH:YM b op=if op.kind=1 then YJ b op.rJ else if op.kind=2 then Tq b op.rJ op.n else if op.kind=3 then (Yo b op.rJ,0) else (b,1):=by
   unfold YM;rw[E' g4,E' (by rw[g5'];decide)]
  obtain⟨c0,c1⟩:=Qr.1 g5';have c1:op.rJ<(b.locals.length:Int):=Qo;have he':=hb.each _ c0 c1;have WJ:=tR.ix VY c0 c1;have hwL:Xx [x,x5,x6] wv p.lO (Int.toNat op.rJ*1) 1:=hO.loc.wr Yr.len (λy hy=>hbl y (Ic _ hy)) c0 c1 (j:=0) Qd;refine⟨λg6=>?_,λg6=>?_⟩
  ·have g6:op.kind=1:=by simpa using g6
   rw[H' g6] at nH;refine⟨WJ,_,tR _ c0 c1,λg7 wr hx=>⟨p,?_,fin (b':=b) (c:=0) ?_ hO0 (Q0.refl _ _) hx⟩,λg7=>?_⟩
   ·rw[nH];unfold YJ;rw[H' (Ot g7)];rfl
   ·rw[nH];unfold YJ;rw[H' (Ot g7)]
   have g7:=Ou g7;have ht:YJ b op.rJ=(⟨b.R4,b.Sy-Y1 20 b.Sy,b.WI,b.locals.set op.rJ.toNat (Y1 20 b.Sy),b.RW.set op.rJ.toNat (Y1 20 b.Sy==0)⟩,if Y1 20 b.Sy=0 then 2 else 0):=by unfold YJ;rw[E' g7]
   rw[ht] at nH;have hm:=ze1 p1;have e1:=hO0.eY c0 c1 (Y1 20 b.Sy);have e2:=e1.CA8 (c:=op.rJ) c0 (by show op.rJ<(b.RW.length:Int);omega) (Y1 20 b.Sy==0);have hX:=(hO0.xL (Int.toNat op.rJ*1) [I (Y1 20 b.Sy)]).trans (e1.xD (Int.toNat op.rJ*1) [.bool (Y1 20 b.Sy==0)]);refine⟨_,J2,⟨Qo,Qo⟩,WJ,hwL,e1.RW.ix c0 (by show op.rJ<(b.RW.length:Int);omega),e1.RW.wr Xm.len (λy hy=>hbl y (Iz _ hy)) c0 (by show op.rJ<(b.RW.length:Int);omega) (j:=0) Qd,λg8 wr hx=>⟨p,?_,fin nH ⟨e2.loc,e2.RW⟩ hX hx⟩,λg8 wr hx=>⟨p,?_,fin nH ⟨e2.loc,e2.RW⟩ hX hx⟩⟩
   ·rw[nH,H' (by simpa using g8)];simp[Za]
   ·rw[nH,E' (by simpa using g8)];simp[Za]
  ·have g6:¬op.kind=1:=by simpa using g6
   rw[E' g6] at nH;refine⟨λg7=>?_,λg7=>?_⟩
   ·have g7:op.kind=2:=by simpa using g7
    rw[H' g7] at nH;refine⟨λ_=>WJ,_,λ_=>tR _ c0 c1,λg8 wr hx=>⟨p,?_,fin (b':=b) (c:=3) ?_ hO0 (Q0.refl _ _) hx⟩,λg8=>?_⟩
    ·rw[nH];unfold Tq;rw[H' (by simpa using g8)];rfl
    ·rw[nH];unfold Tq;rw[H' (by simpa using g8)]
    have g8':¬(op.n<1\/op.n>gi b.locals op.rJ):=by simpa using g8
    have ht:Tq b op.rJ op.n=({ b with WI:=b.WI+op.n,locals:=b.locals.set op.rJ.toNat (gi b.locals op.rJ-op.n) },0):=by unfold Tq;rw[E' g8']
    rw[ht] at nH;have e1:=hO0.eY c0 c1 (gi b.locals op.rJ-op.n);refine⟨WJ,_,tR _ c0 c1,⟨Qo,Qo⟩,WJ,hwL,⟨Qo,Qo⟩,λwr hx=>⟨p,?_,fin nH ⟨e1.loc,e1.RW⟩ (hO0.xL _ _) hx⟩⟩;rw[nH];simp[Za]
   ·have g7:¬op.kind=2:=by simpa using g7
    rw[E' g7] at nH;refine⟨λg8=>?_,λg8 wr hx=>⟨p,?_,fin (b':=b) (c:=1) ?_ hO0 (Q0.refl _ _) hx⟩⟩
    ·have g8:op.kind=3:=by simpa using g8
     rw[H' g8] at nH;have e1:=hO0.eY c0 c1 0;refine⟨WJ,_,tR _ c0 c1,⟨Qo,Qo⟩,WJ,hwL,λg9 wr hx hs=>?_,λg9 wr hx=>⟨p,?_,fin nH ?_ (hO0.xL _ _) hx⟩⟩
     ·have g9:=Ot g9;have e2:Z2 w.heap.size wr ⟨b.R4,b.Sy+gi b.locals op.rJ,b.WI,b.locals.set op.rJ.toNat 0,b.RW⟩ p:=Z2.ext ⟨e1.loc,e1.RW⟩ hx hbl;have hw:=HX e2 (by show b.RW.length<=_;omega);simp only[Za,I0] at hw;refine I5 hw λe w4 ⟨he4,hO4,pS⟩=>⟨_,_,_,_,_,_,_,_,_,he4,λy hm=>pS.block y (hs y hm) λnZ=>hbl y nZ hm,λRO X'=>⟨p,?_,?_,?_⟩⟩
      ·rw[nH];simp[Za,Yo,H' g9]
      ·rw[nH];have:Yo b op.rJ=⟨b.R4,b.Sy+gi b.locals op.rJ,b.WI,b.locals.set op.rJ.toNat 0,List.replicate b.RW.length false⟩:=by unfold Yo;rw[H' g9]
       rw[this];exact Z2.ext ⟨hO4.loc,hO4.RW⟩ X' hbl
      ·exact((((t2.call (hO0.xL _ _) λy hy=>(hO0.lt y hy).1).step hx).call pS λy hy=>(hO0.lt y hy).1).step X').ext
     ·have g9:=Ou g9;rw[nH];simp[Za,Yo,E' g9]
     ·have g9:=Ou g9;have:Yo b op.rJ=⟨b.R4,b.Sy+gi b.locals op.rJ,b.WI,b.locals.set op.rJ.toNat 0,b.RW⟩:=by unfold Yo;rw[E' g9]
      rw[this];exact⟨e1.loc,e1.RW⟩
    ·rw[nH,E' (by simpa using g8)];rfl
    ·rw[nH,E' (by simpa using g8)]
end
section
variable {base:Nat}{W:Q7}{m:MW}{w:Wo}
def Yz{w:Wo}{x x1:Nat}(h:w.heap.size<=x)(h1:w.heap.size<=x1):∀y∈[x,x1],w.heap.size<=y:=λy hm=>by
 simp only[Ik,List.not_mem_nil,or_false] at hm;rcases hm with rfl|rfl <;> assumption
def Mv.two{n:Nat}(h:Yn n base w W m){x x1:Nat}(hx:w.heap.size<=x)(SD:w.heap.size<=x1):Mv n base [x,x1] w m w W m:=((Mv.start h).add hx).add SD
def zby{n:Nat}{m:MW}{w:Wo}{k:Nat}{vs:List Va}:Q0 (QS n m) w (RN w m.cO k vs):=MH λa ha=>ED (by rw[ha];simp[QE])
def LK{n:Nat}{m:MW}{w:Wo}{k:Nat}{vs:List Va}:Q0 (QS n m) w (RN w m.tO k vs):=MH λa ha=>EF (by rw[ha];simp[QE])
def F3{n:Nat}{m:MW}{w:Wo}{k:Nat}{vs:List Va}:Q0 (QS n m) w (RN w m.gO k vs):=MH λa ha=>EE (by rw[ha];simp[QE])
def N9{n:Nat}{m:MW}{w:Wo}{i k:Nat}{vs:List Va}(hi:i<n):Q0 (QS n m) w (RN w (m.ms i).sO k vs):=MH λa ha=>JN hi (by simp[Qw,QE,ha])
def znq{n:Nat}{bs:List Nat}(h:Yn n base w W m)(hd:∀x∈QS n m,x∉bs){i:Int}(h0:0<=i)(h1:i<(W.IF.length:Int)){j k:Nat}(hj:j+k<=5):Xx bs w m.cO (Int.toNat i*5+j) k:=h.c.wr Lb.len (λb hb=>hd b (ED hb)) h0 h1 hj
def zfy{n:Nat}{bs:List Nat}(h:Yn n base w W m)(hd:∀x∈QS n m,x∉bs){i:Int}(h0:0<=i)(h1:i<(W.IK.length:Int)){j k:Nat}(hj:j+k<=9):Xx bs w m.tO (Int.toNat i*9+j) k:=h.t.wr OF.len (λb hb=>hd b (EF hb)) h0 h1 hj
def zb1{n:Nat}{bs:List Nat}(h:Yn n base w W m)(hd:∀x∈QS n m,x∉bs){i:Int}(h0:0<=i)(h1:i<(n:Int)){j k:Nat}(hj:j+k<=14):Xx bs w m.gO (Int.toNat i*14+j) k:=h.g.row.wr X4.len (λb hb=>hd b (EE hb)) h0 (by rw[Xt,h.len];exact h1) hj
def zt0{n:Nat}{bs:List Nat}(h:Yn n base w W m)(hd:∀x∈QS n m,x∉bs){i c:Int}(h0:0<=i)(h1:i<(n:Int))(c0:0<=c)(c1:c<((gi W.IE i).IH.length:Int)){j k:Nat}(hj:j+k<=5):Xx bs w (m.ms i.toNat).sO (Int.toNat c*5+j) k:=
 (h.each h0 h1).shl.wr VX.len (λb hb=>hd b (JN (k:=i.toNat) Qo (by simp[Qw];exact .inr (.inr hb)))) c0 c1 hj
def zs3{n:Nat}(h:Yn n base w W m){c:Int}(c0:0<=c)(c1:c<(W.IF.length:Int)) :
  (Yn n base (RN w m.cO (Int.toNat c*5+1) [I (-1)]) { W with IF:=W.IF.set c.toNat { gi W.IF c with cur := -1 } } m)/\
  Yn n base (RN (RN w m.cO (Int.toNat c*5+1) [I (-1)]) m.cO (Int.toNat c*5+2) [I 0]) (RG W c) m:=by
 have e1:=h.Aa5 c0 c1 (j:=1) (vs:=[I (-1)]) (x:={ gi W.IF c with cur := -1 }) rfl Qd;refine⟨e1,?_⟩;have hg:gi (W.IF.set c.toNat { gi W.IF c with cur := -1 }) c={ gi W.IF c with cur := -1 }:=by rw[QD _ _ c0 c1 c0,H' rfl]
 have e2:=e1.Aa5 c0 (by simpa using c1) (j:=2) (vs:=[I 0]) (x:=XB (gi W.IF c)) (by rw[hg];rfl) Qd;rw[List.set_set] at e2;exact e2
def Zr{n:Nat}(h:Yn n base w W m){c:Int}(c0:0<=c)(c1:c<(W.IF.length:Int)) :
  Cz Z5 #[.agg (Qa W m).toArray,I c] w λe w'=>e=.returned (.agg (Qa (RG W c) m).toArray)/\Mv n base [] w m w' (RG W c) m:=by
 refine(zei _ _ _ _ _ _ _ _ _ _ c (R:=λv w'=>v=.agg (Qa (RG W c) m).toArray/\Mv n base [] w m w' (RG W c) m) ?_).mono λe w' ⟨v,he,hv,h3⟩=>⟨by rw[he,hv],h3⟩
 intro x hx x1 SD;obtain⟨e1,e2⟩:=zs3 h c0 c1;have hr:=h.rd (bs:=[]) Qs;refine⟨hr.c.ix Zy c0 c1,znq h Qs c0 c1 Qd,hr.c.ix Zy c0 c1,znq e1 Qs c0 (by simpa using c1) Qd,λwr Rt=>⟨by simp[Qa,RG,S8],((Mv.start h).W9 e2 (zby.trans zby)).RJ Rt⟩⟩
def zwd{W:Q7}{g c:Int}{s:MK}:RR W g c s={ W with IE:=W.IE.set g.toNat { gi W.IE g with IH:=(gi W.IE g).IH.set c.toNat s } }:=rfl
def Oh{W W':Q7}{m:MW}(h:Fr W W'):Qa W' m=Qa W m:=by
 simp only[Qa,h.n,h.c,h.t,h.g.len]
def zd9{gs:List ZL}(ht:ZZ gs){k:Int}(hu:Q6 gs k):TL (gs.length+1) gs k 0=dep 3 gs k:=by
 have hp:∀g:Int,g≠0->Q6 gs g->Q6 gs (gi gs g).IG:=λg hz hu=>(ZR ht hu hz).1
 have hd:0<=dep 3 gs k/\dep 3 gs k<=3:=by
  by_cases hz:k=0
  ·subst hz;rw[Ye];omega
  ·obtain⟨_,_,_,d,e,_,hd⟩:=ZR ht hu hz;omega
 have hm:=Kn gs 3 gs.length k hd.1 (by rw[ht.len];omega);rw[HZ hp _ _ _ hu,hm,E' Qo];omega
def AN{F K:Int}{n:Nat}(pR:SF F K W)(h:Yn n base w W m)(hk:F+Qp<=K){k c:Int}(hu:Q6 W.IE k)(hn:n=8)(c0:0<=c)(c1:c<(W.IF.length:Int))(s:MK) :
  Yn n base (RN w (m.ms k.toNat).sO (Int.toNat c*5) (TY s)) (RR W k c s) m:=by
 obtain⟨u0,u1,_⟩:=Q5.1 hu;have hl:=pR.w.a.gl;have hs:=pR.w.a.sl hu;exact h.BK9 u0 Qo c0 Qo (j:=0) (vs:=TY s) (x:=s) (by simp[TY]) (by simp[TY])
def KB{F K:Int}(h:Yn 8 base w W m)(pR:SF F K W)(hk:F+Qp<=K)(hK:K<=1000000000000000000){c:Int}(c0:0<=c)(c1:c<(W.IF.length:Int)) :
  Cz Uv #[.agg (Qa W m).toArray,I c] w λe w'=>e=.returned (.agg (Qa W m).toArray)/\Mv 8 base [] w m w' (QQ W c) m:=by
 refine(Ad _ _ _ _ _ _ _ _ _ _ c (R:=λv w'=>v=.agg (Qa W m).toArray/\Mv 8 base [] w m w' (QQ W c) m) ?_).mono λe w' ⟨v,he,hv,h3⟩=>⟨by rw[he,hv],h3⟩
 intro x hx x1 SD;have cN:=pR.w.a.gl
 refine⟨λvs w1=>∃(j:Nat),vs=[I (3-(j:Int))]/\j<=3/\Mv 8 base [x,x1] w m w1 (XM W c j) m,
  λvs _=>(Y5 0 vs).toNat,λwr tJ _=>⟨0,rfl,Qd,(Mv.two h hx SD).RJ tJ⟩,?_⟩
 rintro d wv hs ⟨j,he,j3,hM⟩;obtain⟨hS,hO⟩:=EA pR hk c0 c1 j j3;have hN:XM W c (j+1)=ZW (XM W c j) c (3-(j:Int)) 8:=rfl;have hE:j=3->XM W c j=QQ W c:=λe=>by rw[e];rfl
 generalize XM W c j=W1 at hM hS hO hN hE;simp only[I6,I7,true_and,and_true] at he;refine⟨λhd=>?_,λhd=>?_⟩
 ·have hd:=Ot hd;have yP:c<(W1.IF.length:Int):=by rw[hO.c];exact c1
  refine P0 W.IE.length 1 rfl (λk w2=>1<=k/\k<=8/\Mv 8 base [x,x1] w m w2 (ZW W1 c d k) m) (λw2 Rt _=>⟨I9 _,Qd,?_⟩) λk w2 Wg ⟨hk1,hk8,dS⟩=>?_
  ·have e:ZW W1 c d 1=W1:=zmn Qo;rw[e];exact hM.step Rt
  obtain⟨hS2,tF⟩:=AM hS hk (c:=c) (d:=d) Qo c0 yP k hk8;have hf2:=hO.trans tF;have e0:Qa (ZW W1 c d k) m=Qa W m:=Oh hf2.fr;have hr:=dS.rd;have yW:(ZW W1 c d k).IE.length=W.IE.length:=hf2.g.len;have Ax8:(ZW W1 c d k).IF.length=W.IF.length:=by rw[hf2.c]
  have aU:ZW W1 c d (k+1)=if (gi (ZW W1 c d k).IE (k:Int)).IW=true/\dep 3 (ZW W1 c d k).IE (k:Int)=d then RR (ZW W1 c d k) (k:Int) c (Yq (ZW W1 c d k) (k:Int) c) else ZW W1 c d k:=rfl;have hN8:k=8->XM W c (j+1)=ZW W1 c d k:=λe=>by rw[hN,<-he,e]
  generalize ZW W1 c d k=W2 at dS hS2 tF hf2 e0 hr yW Ax8 aU hN8;refine⟨λIX=>?_,λRX=>?_⟩
  ·have IX:=Ot IX;have Si:(k:Int)<(W2.IE.length:Int):=Qo;have hdp:=OY (g:=(k:Int)) (c:=m.gC) hr.g (by have:=Zp;omega);rw[yW] at hdp;refine⟨by have:=hr.g.ix (i:=(k:Int)) Qo Si;rwa[yW] at this,(gi W2.IE (k:Int)).IW,hr.g.IW Qo Si,_,λ_=>hdp,λg=>?_,λg=>?_⟩
   ·refine⟨⟨Qo,Qo⟩,λw3 Ru _=>Z4 Qo ⟨Qo,Qo,?_⟩⟩;rw[aU,E']
    ·exact dS.step Ru
    ·rintro⟨h1,h2⟩;have hu:Q6 W2.IE (k:Int):=Q5.2 ⟨Qo,Si,h1⟩;have:=zd9 hS2.w.a.tree hu;rw[yW] at this;rw[this,h1,h2] at g;simp at g
   ·simp only[I1,I8,bne_eq_false_iff_eq] at g;have hu:Q6 W2.IE (k:Int):=Q5.2 ⟨Qo,Si,g.1⟩;have hdk:=zd9 hS2.w.a.tree hu;rw[yW,g.2] at hdk;rw[H' ⟨g.1,hdk.symm⟩] at aU;have hsl:=hS2.w.a.sl hu;have hz:(k:Int)≠0:=Qo;have hp:=hS2.w.a.up hu hz;obtain⟨p0,p1,_⟩:=Q5.1 hp;have hpl:=hS2.w.a.sl hp;have s1:=hS2.w.s _ c hu c0 Qo;have s2:=hS2.w.s _ c hp c0 Qo;have lc:=ZX ((Qb W2 (k:Int) c).v-(Qb W2 (gi W2.IE (k:Int)).IG c).IL) (Qb W2 (k:Int) c).w;have lm:=ZV (Qb W2 (k:Int) c).w;have WJ:Ix m.gO W.IE.length (k:Int):=by have:=hr.g.ix (i:=(k:Int)) Qo Si;rwa[yW] at this
    have AG3:=(hr.g.IH (k:Int) Qo Si).ix Zz c0 Qo;have AZ7:=Oa (g:=(k:Int)) hr hS2.w.a c0 Qo;have Bt5:=Mt (g:=(k:Int)) hr hS2.w.a hu c0 Qo;rw[e0] at AZ7 Bt5;have SZ:=λs=>AN hS2 dS.own hk hu rfl c0 (c:=c) Qo s
    have BH3:∀{vs:List Va},Q0 (QS 8 m) w2 (RN w2 (m.ms k).sO (Int.toNat c*5) vs):=λ{vs}=>N9 Qo
    have tI:=zt0 dS.own dS.nb (i:=(k:Int)) Qo Qo c0 Qo (j:=0) (k:=5) Qd;simp only[Ii] at SZ tI AG3;refine⟨WJ,_,_,_,hr.g.RY Qo Si,AG3,_,_,_,_,_,(hr.g.IH (k:Int) Qo Si) c c0 Qo,λb2 cA=>⟨QA W2 (k:Int) c,AZ7,V6 W2 (k:Int) c,λ_=>Bt5,λg2=>?_,λg2=>?_⟩⟩
    ·have hss:Yq W2 (k:Int) c=⟨(Qb W2 (k:Int) c).IL,QA W2 (k:Int) c && !V6 W2 (k:Int) c,(Qb W2 (gi W2.IE (k:Int)).IG c).IL+Xc ((Qb W2 (k:Int) c).v-(Qb W2 (gi W2.IE (k:Int)).IG c).IL) (Qb W2 (k:Int) c).w,(Qb W2 (k:Int) c).w,(Qb W2 (k:Int) c).sum⟩:=by
      unfold Yq;rw[H']
      simpa[Qb] using g2
     have SZ:=SZ (Yq W2 (k:Int) c);rw[hss] at SZ;have AB3:Ix m.gO W.IE.length (gi W2.IE (k:Int)).IG:=by have:=hr.g.ix p0 p1;rwa[yW] at this
     refine⟨WJ,_,hr.g.IG Qo Si,AB3,_,_,_,hr.g.RY p0 p1,(hr.g.IH _ p0 p1).ix Zz c0 Qo,_,zia.f (hr.g.IH _ p0 p1) c0 Qo (j:=0) rfl,⟨by show _<=(Qb W2 (k:Int) c).v-(Qb W2 (gi W2.IE (k:Int)).IG c).IL;omega,by show (Qb W2 (k:Int) c).v-(Qb W2 (gi W2.IE (k:Int)).IG c).IL<=_;omega⟩,_,PE,⟨?_,?_⟩,WJ,_,_,_,hr.g.RY Qo Si,AG3,tI,⟨Qo,Qo⟩,λw3 Ru _=>Z4 Qo ⟨Qo,Qo,?_⟩⟩
     ·show -9223372036854775808<=(Qb W2 (gi W2.IE (k:Int)).IG c).IL+Xc ((Qb W2 (k:Int) c).v-(Qb W2 (gi W2.IE (k:Int)).IG c).IL) (Qb W2 (k:Int) c).w;omega
     ·show (Qb W2 (gi W2.IE (k:Int)).IG c).IL+Xc ((Qb W2 (k:Int) c).v-(Qb W2 (gi W2.IE (k:Int)).IG c).IL) (Qb W2 (k:Int) c).w<=9223372036854775807;omega
     ·rw[aU,hss];exact(dS.W9 SZ BH3).step Ru
    ·have hss:Yq W2 (k:Int) c=⟨(Qb W2 (k:Int) c).IL,QA W2 (k:Int) c && !V6 W2 (k:Int) c,(Qb W2 (k:Int) c).v,(Qb W2 (k:Int) c).w,(Qb W2 (k:Int) c).sum⟩:=by
      unfold Yq;rw[E'];intro h1;rw[h1.1,show (gi (gi W2.IE (k:Int)).IH c).on=false from h1.2] at g2;cases g2
     have SZ:=SZ (Yq W2 (k:Int) c);rw[hss] at SZ;refine⟨WJ,_,_,_,hr.g.RY Qo Si,AG3,tI,⟨Qo,Qo⟩,λw3 Ru _=>Z4 Qo ⟨Qo,Qo,?_⟩⟩;rw[aU,hss];exact(dS.W9 SZ BH3).step Ru
  ·have RX:=Ou RX;have hN8:=hN8 Qo;refine⟨⟨Qo,Qo⟩,λw3 Ru _=>⟨⟨j+1,?_,Qo,?_⟩,?_⟩⟩
   ·rw[show d-1=3-((j+1:Nat):Int) by omega]
   ·rw[hN8];exact dS.step Ru
   ·show (d-1).toNat<d.toNat;omega
 ·have hd:=Ou hd;rw[<-hE Qo];exact λw2 Rt=>⟨rfl,(hM.step Rt).close⟩
end
def Tm{n:Nat}{m:MW}{i:Nat}{p:MG}:∀x∈QS n (Oo m i p),x∈QS n m\/x∈Qw p:=λx hx=>by
 rcases Fu hx with h|h|h|⟨k,hk,h⟩
 ·exact .inl (ED h)
 ·exact .inl (EF h)
 ·exact .inl (EE h)
 ·simp only[Oo] at h
  split at h
  ·exact .inr h
  ·exact .inl (JN hk h)
def Mv.swap{n base:Nat}{bs:List Nat}{w0 w w':Wo}{W W':Q7}{m0 m m':MW}(h:Mv n base bs w0 m0 w W m)(k:Yn n base w' W' m')(hx:Q0 (QS n m) w w')(hm:m'={ m with ms:=m'.ms })(BH3:∀x∈QS n m',x∈QS n m\/(w0.heap.size<=x/\x∉bs)):Mv n base bs w0 m0 w' W' m':=
 ⟨k,h.ext.fresh hx λx hm=>(h.sub x hm).symm,λx hx=>by
  rcases BH3 x hx with h1|h1
  ·exact h.sub x h1
  ·exact .inr h1.1,by rw[hm,h.hd],λx hx=>by
  rcases BH3 x hx with h1|h1
  ·exact h.nb x h1
  ·exact h1.2,h.new⟩
section
variable {base:Nat}{W:Q7}{m:MW}{w:Wo}
def BK{K:Int}(h:Yn 8 base w W m)(pR:SW K W)(hK:0<=K){c:Int}(c0:0<=c)(c1:c<(W.IF.length:Int)) :
  Cz Tc #[.agg (Qa W m).toArray,I c] w λe w'=>e=.returned (.agg (Qa W m).toArray)/\Mv 8 base [] w m w' (Zq W c) m:=by
 refine(Bq _ _ _ _ _ _ _ _ _ _ c (R:=λv w'=>v=.agg (Qa W m).toArray/\Mv 8 base [] w m w' (Zq W c) m) ?_).mono λe w' ⟨v,he,hv,h3⟩=>⟨by rw[he,hv],h3⟩
 intro x hx x1 SD;have cN:=pR.a.gl;refine P0 W.IE.length 0 rfl (λk w2=>k<=8/\Mv 8 base [x,x1] w m w2 (Z3 W c k) m) (λw2 Rt _=>⟨Qd,(Mv.two h hx SD).RJ Rt⟩) λk w2 Wg ⟨hk8,dS⟩=>?_
 obtain⟨hS2,tF⟩:=Lc pR hK c0 c1 k hk8;have e0:Qa (Z3 W c k) m=Qa W m:=Oh tF.fr;have hr:=dS.rd;have yW:(Z3 W c k).IE.length=W.IE.length:=tF.g.len;have Ax8:(Z3 W c k).IF.length=W.IF.length:=by rw[tF.c]
 have aU:Z3 W c (k+1)=if (gi (Z3 W c k).IE (k:Int)).IW=true/\ZO (Z3 W c k) (k:Int) c 20/\Zc (Z3 W c k) (k:Int) c 20>(Qb (Z3 W c k) (k:Int) c).IL then RR (Z3 W c k) (k:Int) c (Eg (Z3 W c k) (k:Int) c) else Z3 W c k:=rfl;have hN8:k=8->Zq W c=Z3 W c k:=λe=>by rw[e];rfl
 generalize Z3 W c k=W2 at dS hS2 tF e0 hr yW Ax8 aU hN8;refine⟨λIX=>?_,λRX=>?_⟩
 ·have IX:=Ot IX;have Si:(k:Int)<(W2.IE.length:Int):=Qo;have WJ:Ix m.gO W.IE.length (k:Int):=by have:=hr.g.ix (i:=(k:Int)) Qo Si;rwa[yW] at this
  refine⟨WJ,(gi W2.IE (k:Int)).IW,hr.g.IW Qo Si,λg=>?_,λg=>?_⟩
  ·refine⟨⟨Qo,Qo⟩,λw3 Ru _=>Z4 Qo ⟨Qo,?_⟩⟩;rw[aU,E' (λh1=>by rw[h1.1] at g;cases g)];exact dS.step Ru
  ·have g:(gi W2.IE (k:Int)).IW:=by simpa using g
   have hu:Q6 W2.IE (k:Int):=Q5.2 ⟨Qo,Si,g⟩;have hsl:=hS2.a.sl hu;have hle:=KA (g:=(k:Int)) hr hS2.a c0 Qo;rw[e0] at hle;have hss:=hr.g.IH (k:Int) Qo Si;have AG3:=hss.ix Zz c0 Qo;have tI:=zt0 dS.own dS.nb (i:=(k:Int)) Qo Qo c0 Qo (j:=0) (k:=1) Qd;have SZ:=dS.own.BK9 (i:=(k:Int)) Qo Qo c0 Qo (j:=0) (vs:=[I (Zc W2 (k:Int) c 20)]) (x:=Eg W2 (k:Int) c) rfl Qs;rw[<-zwd] at SZ;have BH3:Q0 (QS 8 m) w2 (RN w2 (m.ms k).sO (Int.toNat c*5+0) [I (Zc W2 (k:Int) c 20)]):=N9 Qo;simp only[Ii] at tI AG3 SZ;refine⟨_,_,hle,λ_=>WJ,_,_,_,λ_=>hr.g.RY Qo Si,λ_=>AG3,_,λ_=>zia.f hss c0 Qo (j:=0) rfl,λg2=>?_,λg2=>?_⟩
   ·refine⟨WJ,_,_,_,hr.g.RY Qo Si,AG3,tI,⟨Qo,Qo⟩,λw3 Ru _=>Z4 Qo ⟨Qo,?_⟩⟩;rw[aU,H' ⟨g,by simpa[Qb] using g2⟩];exact(dS.W9 SZ BH3).step Ru
   ·refine⟨⟨Qo,Qo⟩,λw3 Ru _=>Z4 Qo ⟨Qo,?_⟩⟩;rw[aU,E']
    ·exact dS.step Ru
    ·rintro⟨_,h1,h2⟩;rw[h1,show decide (Zc W2 (k:Int) c 20>(gi (gi W2.IE (k:Int)).IH c).IL)=true from Ij h2] at g2;cases g2
 ·have RX:=Ou RX;rw[hN8 Qo];exact λw3 Ru=>⟨rfl,(dS.step Ru).close⟩
def K0.Co4{bs:List Nat}{w:Wo}{gs:List ZL}{ms:Nat->MG}{o:OA}(h:K0 bs w o gs ms){i:Int}(h0:0<=i)(h1:i<(gs.length:Int)):Q2 bs w o (Int.toNat i*14+8+3) [.slice (ms i.toNat).lO (gi gs i).IY.locals.length (ms i.toNat).lC]:=(h.cells i h0 h1).get 11 _ rfl
def K0.quo{bs:List Nat}{w:Wo}{gs:List ZL}{ms:Nat->MG}{o:OA}(h:K0 bs w o gs ms){i:Int}(h0:0<=i)(h1:i<(gs.length:Int)):Q2 bs w o (Int.toNat i*14+8+0) [I (gi gs i).IY.R4]:=(h.cells i h0 h1).get 8 _ rfl
def P5(m:MG)(p:MG):MG:=⟨p.lO,p.lC,p.dO,p.dC,m.sO,m.sC⟩
def Tl{m p:MG}:∀x∈Qw (P5 m p),x∈ZQ p\/x∈Qw m:=λx hx=>by
 simp only[Qw,P5,ZQ,Ip] at hx ⊢;rcases hx with (h|h)|h
 ·exact .inl (.inl h)
 ·exact .inl (.inr h)
 ·exact .inr (.inr h)
def Yn.Bv1{n:Nat}(h:Yn n base w W m){i:Int}(h0:0<=i)(hi:i<(n:Int)){b:Jx}{p:MG}(hb:Z2 base w b p)(hn:∀x∈ZQ p,x∉QS n m) :
  Yn n base (RN w m.gO (Int.toNat i*14+8) (Za b p)) (WW W i b) (Oo m i.toNat (P5 (m.ms i.toNat) p)):=by
 have hm:=h.each h0 hi;refine h.Bm9 h0 hi (g:={ gi W.IE i with IY:=b }) (p:=P5 (m.ms i.toNat) p) ⟨hb.loc,hb.RW,hm.shl⟩ (λx hx=>?_) rfl (by simp[Za]);rcases Tl x hx with h1|h1
 ·exact .inl (hn x h1)
 ·exact .inr h1
def za4{F K:Int}(h:Yn 8 base w W m)(pR:SF F K W)(rQ:base<=w.heap.size) :
  Cz ON #[.agg (Qa W m).toArray] w λe w'=>∃m',e=.returned (.agg (Qa W m).toArray)/\Mv 8 base [] w m w' (LX W) m':=by
 refine(zar _ _ _ _ _ _ _ _ _ _ (R:=λv w'=>∃m',v=.agg (Qa W m).toArray/\Mv 8 base [] w m w' (LX W) m') ?_).mono λe w' ⟨v,he,m',hv,h3⟩=>⟨m',by rw[he,hv],h3⟩
 intro x hx x1 SD;have cN:=pR.w.a.gl;have Ch2:=pR.w.a.c2;have rU:=Yz hx SD;refine P0 W.IE.length 0 rfl (λk w2=>k<=8/\∃m2,Mv 8 base [x,x1] w m w2 (X1 W k) m2) (λw2 Rt _=>⟨Qd,m,(Mv.two h hx SD).RJ Rt⟩) λk w2 Wg ⟨hk8,m2,dS⟩=>?_
 obtain⟨hS2,tF⟩:=TJ pR k hk8;have yW:(X1 W k).IE.length=W.IE.length:=tF.g.len;have Ax8:(X1 W k).IF.length=W.IF.length:=by rw[tF.c]
 have aU:X1 W (k+1)=if (gi (X1 W k).IE (k:Int)).IW=true/\(gi (X1 W k).IE (k:Int)).IY.R4≠0 then YG (X1 W k) (k:Int) (X1 W k).IF.length else X1 W k:=rfl;have hN8:k=8->LX W=X1 W k:=λe=>by rw[e];rfl
 generalize X1 W k=W2 at dS hS2 tF yW Ax8 aU hN8;have hmg:m2.gO=m.gO:=by rw[dS.hd]
 have hr:=dS.rd;refine⟨λIX=>?_,λRX=>?_⟩
 ·have IX:=Ot IX;have Si:(k:Int)<(W2.IE.length:Int):=Qo;have WJ:Ix m.gO W.IE.length (k:Int):=by have:=hr.g.ix (i:=(k:Int)) Qo Si;rwa[yW,hmg] at this
  have hru:=hr.g.IW (i:=(k:Int)) Qo Si;have hrq:=hr.g.quo (i:=(k:Int)) Qo Si;rw[hmg] at hru hrq;refine⟨WJ,(gi W2.IE (k:Int)).IW,hru,λ_=>WJ,_,λ_=>hrq,λg=>?_,λg=>?_⟩
  ·refine⟨⟨Qo,Qo⟩,λw3 Ru _=>Z4 Qo ⟨Qo,m2,?_⟩⟩;rw[aU,E']
   ·exact dS.step Ru
   ·rintro⟨h1,h2⟩;rw[h1] at g;simp[h2] at g
  ·simp only[I1,I8,beq_eq_false_iff_ne] at g;have hu:Q6 W2.IE (k:Int):=Q5.2 ⟨Qo,Si,g.1⟩;rw[H' ⟨g.1,g.2⟩] at aU;refine P0 W.IF.length 0 rfl (λc w3=>c<=W.IF.length/\∃m3,Mv 8 base [x,x1] w m w3 (YG W2 (k:Int) c) m3) (λw3 Ru _=>⟨Ig _,m2,dS.step Ru⟩) λc w3 kO ⟨hc,m3,hM3⟩=>?_
   obtain⟨hS3,hO3,hq3⟩:=HM hS2 hu g.2 c Qo;have CJ7:(YG W2 (k:Int) c).IE.length=W.IE.length:=by rw[hO3.g.len,yW]
   have CI8:(YG W2 (k:Int) c).IF.length=W.IF.length:=by rw[hO3.c,Ax8]
   have BO0:YG W2 (k:Int) (c+1)=if gi (gi (YG W2 (k:Int) c).IE (k:Int)).IY.locals (c:Int)>0/\QA (YG W2 (k:Int) c) (k:Int) (c:Int)=false then WW (YG W2 (k:Int) c) (k:Int) (Yo (gi (YG W2 (k:Int) c).IE (k:Int)).IY (c:Int)) else YG W2 (k:Int) c:=rfl;have hN3:c=W.IF.length->X1 W (k+1)=YG W2 (k:Int) c:=λe=>by rw[aU,Ax8,e]
   have e3:Qa (YG W2 (k:Int) c) m3=Qa W m:=hM3.AI5 (by rw[hO3.n,tF.n]) CI8 (by rw[hO3.t,tF.t]) CJ7;have hu3:Q6 (YG W2 (k:Int) c).IE (k:Int):=by rw[hO3.g.dW];exact hu
   generalize YG W2 (k:Int) c=W3 at hM3 hS3 hO3 hq3 CJ7 CI8 BO0 hN3 e3 hu3;have CL1:m3.gO=m.gO:=by rw[hM3.hd]
   have hr3:=hM3.rd;refine⟨λCL0=>?_,λBi8=>?_⟩
   ·have CL0:=Ot CL0;obtain⟨u0,u1,kU⟩:=hS3.w.a.u hu3;obtain⟨hb,hbl,_⟩:=kU.IY hq3;have BV9:(k:Int)<(W3.IE.length:Int):=Qo;have hrl:=hr3.g.Co4 (i:=(k:Int)) Qo BV9;have hrb:=hr3.g.IY (i:=(k:Int)) Qo BV9;rw[CL1] at hrl hrb;have hLo:=hr3.g.locals (k:Int) Qo BV9;have hDo:=hr3.g.RW (k:Int) Qo BV9;have AZ7:=Oa (g:=(k:Int)) (c:=(c:Int)) hr3 hS3.w.a Qo Qo;rw[e3] at AZ7;refine⟨WJ,_,_,_,hrl,hLo.ix VY Qo Qo,_,hLo (c:Int) Qo Qo,_,λ_=>AZ7,λg3=>?_,λg3=>?_⟩
    ·simp only[A',Il,ID] at g3;rw[H' g3] at BO0;refine⟨WJ,_,_,_,_,_,_,_,_,_,hrb,λRL Ru gX=>?_⟩;have pX:=hM3.step Ru;have hr4:=pX.rd0;refine I5 (Jd (op:=⟨3,(c:Int),0⟩) hb (hr4.g.locals (k:Int) Qo BV9) (hr4.g.RW (k:Int) Qo BV9)) ?_;rintro e RH ⟨p,he,hO,hy⟩
     have nH:YM (gi W3.IE (k:Int)).IY ⟨3,(c:Int),0⟩=(Yo (gi W3.IE (k:Int)).IY (c:Int),0):=by
      unfold YM;rw[E' (show ¬(3:Int)=4 by decide),E' (by rw[Qr.2 (by show 0<=(c:Int)/\(c:Int)<=_;omega)];decide),E' (show ¬(3:Int)=1 by decide),E' (show ¬(3:Int)=2 by decide),H' rfl]
     rw[nH] at he hO
     dsimp only at he hO
     have hM5:=pX.RJ hy;have hbs:base<=RL.heap.size:=by have:=pX.ext.size;omega
     have hOb:∀y∈ZQ p,RL.heap.size<=y:=λy hy=>(hO.lt y hy).1
     have BH1:=hM5.own.Bv1 (i:=(k:Int)) Qo Qo (hO.mono hbs) (λy hy hm=>by have:=hOb y hy;have:=(pX.own.lt y hm).2;omega);have tI:=zb1 hM5.own hM5.nb (i:=(k:Int)) Qo Qo (j:=8) (k:=5) Qd;have oA:=pX.ext.size
     have hM6:=hM5.swap BH1 F3 rfl λy hy=>by
      rcases Tm y hy with h1|h1
      ·exact .inl h1
      ·rcases Tl y h1 with h2|h2
       ·have:=hOb y h2;exact .inr ⟨Qo,λhm=>by have:=gX y hm;omega⟩
       ·exact .inl (JN Qo h2)
     rw[CL1] at tI hM6;refine⟨_,_,_,_,_,_,_,_,_,_,he,Qf hy gX,λb2 cA=>⟨WJ,tI,⟨Qo,Qo⟩,λw5 Wb _=>Z4 (w1:=w3) Qo ⟨Qo,Oo m3 (Int.toNat (k:Int)) (P5 (m3.ms (Int.toNat (k:Int))) p),?_⟩⟩⟩;rw[BO0];exact hM6.step Wb
    ·refine⟨⟨Qo,Qo⟩,λw5 Wb _=>Z4 Qo ⟨Qo,m3,?_⟩⟩;rw[BO0,E']
     ·exact hM3.step Wb
     ·rintro⟨h1,h2⟩;rw[h2,Ij h1] at g3;cases g3
   ·have Bi8:=Ou Bi8;refine⟨⟨Qo,Qo⟩,λw5 Wb _=>Z4 Qo ⟨Qo,m3,?_⟩⟩;rw[hN3 Qo];exact hM3.step Wb
 ·have RX:=Ou RX;rw[hN8 Qo];exact λw3 Ru=>⟨m2,rfl,(dS.step Ru).close⟩
end
end Go.Proofs.YtjinkcmkgnofjaaGreat
