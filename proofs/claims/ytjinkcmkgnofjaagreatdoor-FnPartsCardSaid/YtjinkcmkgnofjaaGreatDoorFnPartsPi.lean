/- Part 9 of what the law FnParts needs. -/
import Derived.Test.YtjinkcmkgnofjaaGreatDoorFnPartsPh
set_option linter.all false
set_option maxRecDepth 100000
set_option maxHeartbeats 8000000
namespace Go.Proofs.YtjinkcmkgnofjaaGreatDoor
open Go.RowKit
def SF.RC{F K:Int}{W:Q7}(h:SF F K W){g c:Int}{s:KM}(hu:Q6 W.IE g)(c0:0<=c)(c1:c<(W.IF.length:Int))(f0:0<=s.IM)(f1:s.IM<=F)(fk:s.IM<=K)(v0:0<=s.v)(v1:s.v<=K)(w1:1<=s.w)(w2:s.w<=20):SF F K (RC W g c s):=by
 obtain⟨u0,u1,_⟩:=Q2.1 hu;have hl:=h.w.a.gl;have hs:=h.w.a.sl hu;have hT:=J5 (W:=W) (g:=g) (c:=c) (s:=s) u0 u1
 have e:∀k d:Int,Q6 (YtjinkcmkgnofjaaGreatDoor.RC W g c s).IE k->0<=d->Qa (YtjinkcmkgnofjaaGreatDoor.RC W g c s) k d=if g=k/\c=d then s else Qa W k d:=λk d uk hd=>by
  rw[hT.aO] at uk;exact UV u0 u1 c0 Qo (Q2.1 uk).1 hd
 refine⟨⟨h.w.a.RC u0 Qo,λt a b n=>by rw[hT.aO];exact h.w.t t a b n,h.w.tv,λk d uk a b=>?_,h.w.cu⟩,λk d uk a b=>?_⟩
 ·rw[e k d uk a];rw[hT.aO] at uk;split
  ·exact⟨f0,fk,v0,v1,w1,w2⟩
  ·exact h.w.s k d uk a b
 ·rw[e k d uk a];rw[hT.aO] at uk;split
  ·exact f1
  ·exact h.f k d uk a b
def ZH(W:Q7)(k c:Int):KM:=
 { Qa W k c with
  v:=if (Qv W k c && !Xu W k c)=true/\(Qa W k c).on=false then (Qa W (gi W.IE k).IG c).IM+Yg ((Qa W k c).v-(Qa W (gi W.IE k).IG c).IM) (Qa W k c).w else (Qa W k c).v
  on:=Qv W k c && !Xu W k c }
def Z9(W:Q7)(c d:Int):Nat->Q7
 |0=>W
 |k+1=>if (gi (Z9 W c d k).IE (k:Int)).IV=true/\dep 3 (Z9 W c d k).IE (k:Int)=d then RC (Z9 W c d k) (k:Int) c (ZH (Z9 W c d k) (k:Int) c) else Z9 W c d k
def zu0{W:Q7}{c d:Int}(h:d≠0):Z9 W c d 1=W:=by
 show (if (gi W.IE ((0:Nat):Int)).IV=true/\dep 3 W.IE ((0:Nat):Int)=d then _ else W)=W;refine B' λhc=>h ?_
 have:=hc.2;rw[show (((0:Nat):Int))=0 from rfl,ZR] at this;exact this.symm
def Yh(W:Q7)(c:Int):Nat->Q7
 |0=>W
 |j+1=>Z9 (Yh W c j) c (3-(j:Int)) 8
def QF(W:Q7)(c:Int):Q7:=Yh W c 3
abbrev Qh:Int:=34686091440
def zyo{F K:Int}{W:Q7}(h:SF F K W)(hk:F+Qh<=K){k c d:Int}(hu:Q6 W.IE k)(hd:dep 3 W.IE k=d)(d1:1<=d)(c0:0<=c)(c1:c<(W.IF.length:Int)):SF F K (RC W k c (ZH W k c)):=by
 have hz:k≠0:=λe=>by subst e;rw[ZR] at hd;omega
 have hp:=h.w.a.up hu hz;have s1:=h.w.s k c hu c0 c1;have s2:=h.w.s _ c hp c0 c1;have f1:=h.f k c hu c0 c1;have f2:=h.f _ c hp c0 c1;have lc:=ZF ((Qa W k c).v-(Qa W (gi W.IE k).IG c).IM) (Qa W k c).w;have lm:=ZN (Qa W k c).w;refine h.RC hu c0 c1 s1.1 f1 (by show (Qa W k c).IM<=K;omega) ?_ ?_ s1.2.2.2.2.1 s1.2.2.2.2.2
 ·simp only[ZH];split <;> omega
 ·simp only[ZH];simp only[Qh] at hk;split <;> omega
structure Xz (W W':Q7):Prop where
 n:W'.now=W.now
 c:W'.IF=W.IF
 t:W'.IJ=W.IJ
 g:QH W.IE W'.IE
 b:∀i:Int,0<=i->(gi W'.IE i).IL=(gi W.IE i).IL
 l:∀i:Int,0<=i->(gi W'.IE i).IH.length=(gi W.IE i).IH.length
def Xz.refl(W:Q7):Xz W W:=⟨rfl,rfl,rfl,QH.refl _,λ_ _=>rfl,λ_ _=>rfl⟩
def Xz.trans{A B C:Q7}(h:Xz A B)(k:Xz B C):Xz A C:=⟨k.n.trans h.n,k.c.trans h.c,k.t.trans h.t,h.g.trans k.g,λi hi=>(k.b i hi).trans (h.b i hi),λi hi=>(k.l i hi).trans (h.l i hi)⟩
def US{W:Q7}{g c:Int}{s:KM}(h0:0<=g)(h1:g<(W.IE.length:Int)):Xz W (RC W g c s):=⟨rfl,rfl,rfl,J5 h0 h1,λ_ hi=>zir h0 h1 hi,λ_ hi=>zjz h0 h1 hi⟩
def FZ{F K:Int}{W:Q7}(h:SF F K W)(hk:F+Qh<=K){c d:Int}(d1:1<=d)(c0:0<=c)(c1:c<(W.IF.length:Int)):∀k:Nat,k<=8->SF F K (Z9 W c d k)/\Xz W (Z9 W c d k)
 |0,_=>⟨h,Xz.refl _⟩
 |k+1,hk8=>by
  obtain⟨ih,io⟩:=FZ h hk (d:=d) d1 c0 c1 k Qo;have hl:=ih.w.a.gl;simp only[Z9];split
  ·rename_i hc;have hu:Q6 (Z9 W c d k).IE (k:Int):=Q2.2 ⟨Qo,Qo,hc.1⟩;exact⟨zyo ih hk hu hc.2 d1 c0 (by rw[io.c];exact c1),io.trans (US Qo Qo)⟩
  ·exact⟨ih,io⟩
def HQ{F K:Int}{W:Q7}(h:SF F K W)(hk:F+Qh<=K){c:Int}(c0:0<=c)(c1:c<(W.IF.length:Int)):∀j:Nat,j<=3->SF F K (Yh W c j)/\Xz W (Yh W c j)
 |0,_=>⟨h,Xz.refl _⟩
 |j+1,hj=>by
  obtain⟨a1,b1⟩:=HQ h hk c0 c1 j Qo;obtain⟨a2,b2⟩:=FZ a1 hk (c:=c) (d:=3-(j:Int)) Qo c0 (by rw[b1.c];exact c1) 8 Qo;exact⟨a2,b1.trans b2⟩
def HP{F K:Int}{W:Q7}(h:SF F K W)(hk:F+Qh<=K){c:Int}(c0:0<=c)(c1:c<(W.IF.length:Int)):SF F K (QF W c)/\Xz W (QF W c):=HQ h hk c0 c1 3 (I7 _)
def Z2(W:Q7):Nat->Q7
 |0=>W
 |c+1=>QF (Z2 W c) (c:Int)
def T3{F K:Int}{W:Q7}(h:SF F K W)(hk:F+Qh<=K):∀c:Nat,c<=W.IF.length->SF F K (Z2 W c)/\Xz W (Z2 W c)
 |0,_=>⟨h,Xz.refl _⟩
 |c+1,hc=>by
  obtain⟨a,b⟩:=T3 h hk c Qo;obtain⟨a2,b2⟩:=HP a hk (c:=(c:Int)) Qo (by rw[b.c];omega);exact⟨a2,b.trans b2⟩
def Yi(b:Um)(c:Int):Um:={ b with RH:=b.RH+gi b.locals c,locals:=b.locals.set c.toNat 0,Ry:=if b.RH+gi b.locals c>0 then List.replicate b.Ry.length false else b.Ry }
def Bv(l:List Int)(c:Int)(x:Int)(c0:0<=c)(c1:c<(l.length:Int)):∀k:Nat,Vl (l.set c.toNat x) k=Vl l k+if c<(k:Int) then x-gi l c else 0
 |0=>by simp only[Vl];rw[B' Qo];omega
 |k+1=>by
  simp only[Vl];rw[Bv l c x c0 c1 k,Qx _ _ c0 c1 Qo]
  by_cases e:c=(k:Int)
  ·subst e;rw[B' Qo,C' rfl,C' Qo];omega
  ·rw[B' e]
   by_cases h:c<(k:Int)
   ·rw[C' h,C' Qo];omega
   ·rw[B' h,B' Qo];omega
def zmm{l:List Int}(h:∀c:Int,0<=c->c<(l.length:Int)->0<=gi l c){c:Int}(c0:0<=c):∀k:Nat,k<=l.length->0<=Vl l k/\(c<(k:Int)->gi l c<=Vl l k)
 |0,_=>by simp only[Vl];exact⟨Qo,λh=>by omega⟩
 |k+1,hk=>by
  have ih:=zmm h c0 k Qo;have:=h (k:Int) Qo Qo;simp only[Vl];refine⟨Qo,λhc=>?_⟩
  by_cases e:c=(k:Int)
  ·subst e;omega
  ·have:=ih.2 Qo;omega
def My{α:Type}[Inhabited α](n:Nat)(x:α){i:Int}(h0:0<=i)(h1:i<(n:Int)):gi (List.replicate n x) i=x:=by
 obtain⟨k,rfl⟩:=Int.eq_ofNat_of_zero_le h0;rw[Ju (by simp;omega)];simp
def zx0{b:Um}(h:P2 b){c:Int}(c0:0<=c)(c1:c<(b.locals.length:Int))(hp:0<gi b.locals c):P2 (Yi b c)/\(Yi b c).locals.length=b.locals.length/\(Yi b c).I'=b.I':=by
 have hs:=Bv b.locals c 0 c0 c1 b.locals.length;rw[C' c1] at hs;have hn:=zmm (λd d0 d1=>(h.each d d0 d1).1) c0 b.locals.length (I7 _);have hn2:=hn.2 c1;have p1:=h.p1;have s1:=h.s1;have su:=h.sum;have Bq0:b.RH+gi b.locals c>0:=Qo;refine⟨⟨h.q1,h.q2,?_,?_,?_,?_,?_,h.s1,h.s2,λd d0 d1=>?_,?_⟩,by simp[Yi],rfl⟩
 ·simp only[Yi,E'];exact h.l1
 ·simp only[Yi,E'];exact h.l2
 ·simp only[Yi];rw[C' Bq0];simp[h.dl]
 ·simp only[Yi];omega
 ·simp only[Yi];omega
 ·simp only[Yi,E'] at d1 ⊢;have hd:=h.dl;have he:=h.each d d0 d1;rw[C' Bq0,My _ _ d0 Qo,Qx _ _ c0 c1 d0];have:=h.q1;refine⟨?_,?_,λh=>by cases h⟩
  ·split <;> omega
  ·split <;> omega
 ·simp only[Yi,E'];rw[hs];omega
def Ze(W:Q7)(k:Int):Nat->Q7
 |0=>W
 |c+1=>if gi (gi (Ze W k c).IE k).IL.locals (c:Int)>0/\Qv (Ze W k c) k (c:Int)=false then RF (Ze W k c) k (Yi (gi (Ze W k c).IE k).IL (c:Int)) else Ze W k c
def Zv(W:Q7):Nat->Q7
 |0=>W
 |k+1=>if (gi (Zv W k).IE (k:Int)).IV=true/\(gi (Zv W k).IE (k:Int)).IL.I'≠0 then Ze (Zv W k) (k:Int) (Zv W k).IF.length else Zv W k
def PK(W:Q7):Q7:=Zv W 8
structure UY (W W':Q7):Prop where
 n:W'.now=W.now
 c:W'.IF=W.IF
 t:W'.IJ=W.IJ
 g:QH W.IE W'.IE
 s:∀i:Int,0<=i->(gi W'.IE i).IH=(gi W.IE i).IH
def UY.refl(W:Q7):UY W W:=⟨rfl,rfl,rfl,QH.refl _,λ_ _=>rfl⟩
def UY.trans{A B C:Q7}(h:UY A B)(k:UY B C):UY A C:=⟨k.n.trans h.n,k.c.trans h.c,k.t.trans h.t,h.g.trans k.g,λi hi=>(k.s i hi).trans (h.s i hi)⟩
def HT{W:Q7}{g:Int}{b:Um}(h0:0<=g)(h1:g<(W.IE.length:Int)):UY W (RF W g b):=⟨rfl,rfl,rfl,XZ h0 h1 rfl rfl rfl,λi hi=>by
 unfold RF;rw[Ym h0 h1 hi];split
 ·rename_i e;subst e;rfl
 ·rfl⟩
def SF.A96{F K:Int}{W W':Q7}(h:SF F K W)(ho:UY W W')(ha:WA W'):SF F K W':=by
 have e:∀k c:Int,Q6 W'.IE k->Qa W' k c=Qa W k c:=λk c hu=>by unfold Qa;rw[ho.s k (Q2.1 hu).1]
 have et:∀t:Int,Q8 W' t=Q8 W t:=λt=>by unfold Q8;rw[ho.t]
 refine⟨⟨ha,λt a b n=>?_,λt a b=>by rw[et];exact h.w.tv t a b,λk c u a b=>?_,λc a b=>?_⟩,λk c u a b=>?_⟩
 ·rw[et] at n ⊢;rw[ho.g.aO,ho.c];exact h.w.t t a b n
 ·rw[e k c u];rw[ho.g.aO] at u;rw[ho.c] at b;exact h.w.s k c u a b
 ·rw[ho.c] at b ⊢;exact h.w.cu c a b
 ·rw[e k c u];rw[ho.g.aO] at u;rw[ho.c] at b;exact h.f k c u a b
def WA.RF{W:Q7}(ha:WA W){g:Int}{b:Um}(hu:Q6 W.IE g)(hq:(gi W.IE g).IL.I'≠0)(hb:P2 b)(hl:b.locals.length=W.IF.length)(he:b.I'=(gi W.IE g).IL.I'):WA (RF W g b):=by
 obtain⟨u0,u1,hg⟩:=ha.u hu;have hb0:=hg.IL hq;refine ha.set u0 u1 rfl rfl rfl (λhn=>?_) λ_=>⟨hg.w1,hg.w2,hg.m,hg.m0,hg.s,hg.len,λh=>⟨(hg.root h).1,(hg.root h).2.1,by show b.I'=0;rw[he];exact(hg.root h).2.2⟩,λh=>Ir (he.symm.trans h) hq,λ_=>⟨hb,hl,hb0.2.2⟩⟩
 have:(gi W.IE g).IV=false:=hn;rw[(Q2.1 hu).2.2] at this;cases this
def Mz{F K:Int}{W:Q7}(h:SF F K W){k:Int}(hu:Q6 W.IE k)(hq:(gi W.IE k).IL.I'≠0):∀c:Nat,c<=W.IF.length->SF F K (Ze W k c)/\UY W (Ze W k c)/\(gi (Ze W k c).IE k).IL.I'≠0
 |0,_=>⟨h,UY.refl _,hq⟩
 |c+1,hc=>by
  obtain⟨a,b,q⟩:=Mz h hu hq c Qo;simp only[Ze];split
  ·rename_i tG;have hu':Q6 (Ze W k c).IE k:=by rw[b.g.aO];exact hu
   obtain⟨u0,u1,hg⟩:=a.w.a.u hu';have hb:=hg.IL q;have hl:=a.w.a.gl;have qT:(Ze W k c).IF.length=W.IF.length:=by rw[b.c]
   obtain⟨g1,g2,g3⟩:=zx0 hb.1 (c:=(c:Int)) Qo Qo tG.1;have ho:=HT (W:=Ze W k c) (b:=Yi (gi (Ze W k c).IE k).IL (c:Int)) u0 Qo;refine⟨a.A96 ho (a.w.a.RF hu' q g1 (by rw[g2,hb.2.1]) g3),b.trans ho,?_⟩;show (gi (R3 _ k _).IE k).IL.I'≠0;rw[Ym u0 Qo u0,C' rfl];exact λe=>q (by rw[<-g3];exact e)
  ·exact⟨a,b,q⟩
def JP{F K:Int}{W:Q7}(h:SF F K W):∀k:Nat,k<=8->SF F K (Zv W k)/\UY W (Zv W k)
 |0,_=>⟨h,UY.refl _⟩
 |k+1,hk=>by
  obtain⟨a,b⟩:=JP h k Qo;simp only[Zv];split
  ·rename_i hc;have hl:=a.w.a.gl;obtain⟨a2,b2,_⟩:=Mz a (k:=(k:Int)) (Q2.2 ⟨Qo,Qo,hc.1⟩) hc.2 _ (I7 _);exact⟨a2,b.trans b2⟩
  ·exact⟨a,b⟩
def Eo(W:Q7)(k c:Int):KM:={ Qa W k c with IM:=QZ W k c 20 }
def QI(W:Q7)(c:Int):Nat->Q7
 |0=>W
 |k+1=>if (gi (QI W c k).IE (k:Int)).IV=true/\Za (QI W c k) (k:Int) c 20/\QZ (QI W c k) (k:Int) c 20>(Qa (QI W c k) (k:Int) c).IM then RC (QI W c k) (k:Int) c (Eo (QI W c k) (k:Int) c) else QI W c k
def Z4(W:Q7)(c:Int):Q7:=QI W c 8
def zcj{K:Int}{W:Q7}(h:SW K W){k c:Int}(c0:0<=c)(c1:c<(W.IF.length:Int))(hK:0<=K):0<=QZ W k c 20/\QZ W k c 20<=K:=by
 unfold QZ;split
 ·omega
 ·rename_i hn;have hl:=h.a.gl;rcases Zg (Z3 W k c) (Z1 W c) 20 with h1|h1
  ·omega
  ·obtain⟨j,hj⟩:∃j:Nat,QU (Z3 W k c) (Z1 W c) 20=(j:Int):=⟨(QU (Z3 W k c) (Z1 W c) 20).toNat,Qo⟩;rw[hj,Ig] at h1 ⊢;have hp:=h1.2.2.1;unfold Z1
   by_cases h12:j<12
   ·rw[C' h12];exact h.tv (j:Int) Qo Qo
   ·rw[B' h12];unfold Z3 at hp;rw[B' h12] at hp;unfold Xb at hp;simp only[A'] at hp;have hu:Q6 W.IE ((j-12:Nat):Int):=Q2.2 ⟨Qo,Qo,hp.1.2.1⟩;have:=h.s _ c hu c0 c1;omega
def On{K:Int}{W:Q7}(h:SW K W)(hK:0<=K){c:Int}(c0:0<=c)(c1:c<(W.IF.length:Int)):∀k:Nat,k<=8->SW K (QI W c k)/\Xz W (QI W c k)
 |0,_=>⟨h,Xz.refl _⟩
 |k+1,hk=>by
  obtain⟨a,b⟩:=On h hK c0 c1 k Qo;have hl:=a.a.gl;have oM:c<((QI W c k).IF.length:Int):=by rw[b.c];exact c1
  simp only[QI];split
  ·rename_i hc;have hu:Q6 (QI W c k).IE (k:Int):=Q2.2 ⟨Qo,Qo,hc.1⟩;have s1:=a.s _ c hu c0 oM;have br:=zcj a (k:=(k:Int)) c0 oM hK;exact⟨(a.sf.RC (s:=Eo (QI W c k) (k:Int) c) hu c0 oM br.1 br.2 br.2 s1.2.2.1 s1.2.2.2.1 s1.2.2.2.2.1 s1.2.2.2.2.2).w,b.trans (US Qo Qo)⟩
  ·exact⟨a,b⟩
def XA(x:PP):PP:={ x with cur := -1,SX:=0 }
def Rc(W:Q7)(c:Int):Q7:=RO W c (XA (gi W.IF c))
def zts{cs nL:List PP}:∀k:Nat,(∀j:Nat,j<k->(gi nL (j:Int)).up=(gi cs (j:Int)).up)->Vm nL k=Vm cs k
 |0,_=>rfl
 |k+1,h=>by simp only[Vm];rw[zts k λj hj=>h j Qo,h k Qo]
def zmt{cs nL:List PP}(hl:nL.length=cs.length)(h:∀j:Nat,j<cs.length->(gi nL (j:Int)).up=(gi cs (j:Int)).up):JG nL=JG cs:=by
 unfold JG;rw[hl];exact zts _ h
def WA.cp{W:Q7}(ha:WA W){cs:List PP}(hl:cs.length=W.IF.length)(hu:JG cs≠0):WA { W with IF:=cs }:=
 ⟨ha.n1,ha.n2,by show 1<=cs.length;rw[hl];exact ha.c1,by show cs.length<=4;rw[hl];exact ha.c2,ha.t,ha.tree,hu,λk a b=>by
  have:=ha.grp k a b;refine⟨this.1,λhu=>?_⟩;have hg:=this.2 hu
  exact⟨hg.w1,hg.w2,hg.m,hg.m0,hg.s,by show (gi W.IE k).IH.length=cs.length;rw[hl];exact hg.len,hg.root,hg.none,λq=>by
   have:=hg.IL q;exact⟨this.1,by show (gi W.IE k).IL.locals.length=cs.length;rw[hl];exact this.2.1,this.2.2⟩⟩⟩
def SW.Rc{K:Int}{W:Q7}(h:SW K W){c:Int}(c0:0<=c)(c1:c<(W.IF.length:Int)):SW K (Rc W c):=by
 have hl:(W.IF.set c.toNat (XA (gi W.IF c))).length=W.IF.length:=E';have hg:∀d:Int,0<=d->gi (W.IF.set c.toNat (XA (gi W.IF c))) d=if c=d then XA (gi W.IF c) else gi W.IF d:=λd d0=>Qx _ _ c0 c1 d0
 refine⟨h.a.cp hl ?_,λt a b n=>?_,h.tv,λk d u a b=>?_,λd a b=>?_⟩
 ·rw[zmt hl λj hj=>?_]
  ·exact h.a.ups
  ·rw[hg _ Qo];split
   ·rename_i e;rw[e];rfl
   ·rfl
 ·show _/\_/\_<(((W.IF.set c.toNat (XA (gi W.IF c))).length:Nat):Int);rw[hl];exact h.t t a b n
 ·have b:d<(((W.IF.set c.toNat (XA (gi W.IF c))).length:Nat):Int):=b;rw[hl] at b;exact h.s k d u a b
 ·have b:d<(((W.IF.set c.toNat (XA (gi W.IF c))).length:Nat):Int):=b;rw[hl] at b;show _<=(gi (W.IF.set c.toNat (XA (gi W.IF c))) d).cur/\_;rw[show (gi (YtjinkcmkgnofjaaGreatDoor.Rc W c).IF d).cur=(gi (W.IF.set c.toNat (XA (gi W.IF c))) d).cur from rfl,hg _ a];split
  ·exact⟨I2 _,show (-1:Int)<12 by decide⟩
  ·exact h.cu d a b
def P9(W:Q7)(c:Int):Bool:=decide ((gi W.IF c).cur>=0)&&(((Q8 W (gi W.IF c).cur).R1 != c) || !Zf W (gi W.IF c).cur)
def Xs(W:Q7)(c:Int):Q7:=if P9 (Z4 (QF W c) c) c=true then Rc (Z4 (QF W c) c) c else Z4 (QF W c) c
def YB(W:Q7):Nat->Q7
 |0=>W
 |c+1=>Xs (YB W c) (c:Int)
def Qb(W:Q7):Q7:=YB (PK (Z2 W W.IF.length)) W.IF.length
structure Fr (W W':Q7):Prop where
 n:W'.now=W.now
 c:W'.IF.length=W.IF.length
 t:W'.IJ=W.IJ
 g:QH W.IE W'.IE
def Fr.refl(W:Q7):Fr W W:=⟨rfl,rfl,rfl,QH.refl _⟩
def Fr.trans{A B C:Q7}(h:Fr A B)(k:Fr B C):Fr A C:=⟨k.n.trans h.n,k.c.trans h.c,k.t.trans h.t,h.g.trans k.g⟩
def Xz.fr{W W':Q7}(h:Xz W W'):Fr W W':=⟨h.n,by rw[h.c],h.t,h.g⟩
def UY.fr{W W':Q7}(h:UY W W'):Fr W W':=⟨h.n,by rw[h.c],h.t,h.g⟩
def Nn(W:Q7)(c:Int):Fr W (Rc W c):=⟨rfl,E',rfl,QH.refl _⟩
def zo7{K:Int}{W:Q7}(h:SW K W)(hK:0<=K){c:Int}(c0:0<=c)(c1:c<(W.IF.length:Int)):SW (K+Qh) (Xs W c)/\Fr W (Xs W c):=by
 obtain⟨a1,b1⟩:=HP (F:=K) (K:=K+Qh) (h.sf.mono (I2 _) (by simp only[Qh];omega)) (I2 _) c0 c1;obtain⟨a2,b2⟩:=On a1.w (by simp only[Qh];omega) c0 (c:=c) (by rw[b1.c];exact c1) 8 Qo;have hf:=b1.fr.trans b2.fr;unfold Xs;split
 ·exact⟨SW.Rc a2 c0 (by show c<((QI (QF W c) c 8).IF.length:Int);rw[hf.c];exact c1),hf.trans (Nn _ _)⟩
 ·exact⟨a2,hf⟩
def Pi{K:Int}{W:Q7}(h:SW K W)(hK:0<=K):∀c:Nat,c<=W.IF.length->SW (K+(c:Int)*Qh) (YB W c)/\Fr W (YB W c)
 |0,_=>⟨h.mono Qs,Fr.refl _⟩
 |c+1,hc=>by
  obtain⟨a,b⟩:=Pi h hK c Qo;obtain⟨a2,b2⟩:=zo7 a (by simp only[Qh];omega) (c:=(c:Int)) Qo (by rw[b.c];omega);exact⟨a2.mono (by simp only[Qh];omega),b.trans b2⟩
abbrev UW:Int:=5*Qh
def JF{K:Int}{W:Q7}(h:SW K W)(hK:0<=K):SW (K+UW) (Qb W)/\Fr W (Qb W):=by
 obtain⟨a1,b1⟩:=T3 (F:=K) (K:=K+Qh) (h.sf.mono (I2 _) (by simp only[Qh];omega)) (I2 _) W.IF.length (I7 _);obtain⟨a2,b2⟩:=JP a1 8 Qo;have hf:=b1.fr.trans b2.fr;obtain⟨a3,b3⟩:=Pi a2.w (by simp only[Qh];omega) W.IF.length (by show W.IF.length<=(Zv (Z2 W W.IF.length) 8).IF.length;rw[hf.c];exact I7 _);have:=h.a.c2;exact⟨a3.mono (by simp only[Qh,UW];omega),hf.trans b3⟩
abbrev Ql:Int:=50000000000000000
structure Ge (W:Q7):Prop where
 n:W.now<=Ql
 c:∀c:Int,0<=c->c<(W.IF.length:Int)->(gi W.IF c).busy<=Ql/\(gi W.IF c).idle<=Ql
 t:∀t:Int,0<=t->t<(W.IJ.length:Int)->(gi W.IJ t).v<=Ql/\(gi W.IJ t).sum<=Ql/\(gi W.IJ t).IV<=Ql
 g:∀k:Int,0<=k->k<(W.IE.length:Int)->(gi W.IE k).sum<=Ql
 s:∀k c:Int,0<=k->k<(W.IE.length:Int)->0<=c->c<((gi W.IE k).IH.length:Int)->(Qa W k c).IM<=Ql/\(Qa W k c).v<=Ql/\(Qa W k c).sum<=Ql
noncomputable def QO(W:Q7):Bool:=U0 (Ge W)
def MS{W:Q7}(wp:XQ W)(r:Ge W):SW Ql W:=by
 have ht:=wp.a.t;have hg:=wp.a.gl;refine⟨wp.a,λt t0 t1 n=>?_,λt t0 t1=>?_,λk c u c0 c1=>?_,λc c0 c1=>?_⟩
 ·rcases wp.t t t0 t1 with h|h
  ·exact Ir h.1 n
  ·exact⟨h.2.g,GY wp.a h.2.c⟩
 ·refine⟨?_,(r.t t t0 Qo).1⟩;rcases wp.t t t0 t1 with h|h
  ·rw[h.2];exact I2 _
  ·exact(Xj.1 h.2.v).1
 ·obtain⟨u0,u1,_⟩:=Q2.1 u;have hl:=wp.a.sl u;have hs:=wp.s k c u0 Qo c0 Qo;have hr:=r.s k c u0 u1 c0 Qo;exact⟨(Xj.1 hs.f).1,hr.1,(Xj.1 hs.v).1,hr.2.1,hs.w1,hs.w2⟩
 ·have hc:=wp.c c c0 c1;have h1:=hc.c1;have h2:=hc.c2;omega
def WA.tk{W:Q7}(ha:WA W){ts:List PS}(hl:ts.length=W.IJ.length):WA { W with IJ:=ts }:=
 ⟨ha.n1,ha.n2,ha.c1,ha.c2,by show ts.length=12;rw[hl];exact ha.t,ha.tree,ha.ups,λk a b=>by
  have:=ha.grp k a b;refine⟨this.1,λhu=>?_⟩;have hg:=this.2 hu;exact⟨hg.w1,hg.w2,hg.m,hg.m0,hg.s,hg.len,hg.root,hg.none,hg.IL⟩⟩
def SW.J'{K:Int}{W:Q7}(h:SW K W){t:Int}(t0:0<=t)(t1:t<12){x:PS}(hx:x.state≠0->Q6 W.IE x.II/\0<=x.R1/\x.R1<(W.IF.length:Int))(v0:0<=x.v)(v1:x.v<=K):SW K (J' W t x):=by
 have hl:=h.a.t;have e:∀i:Int,0<=i->Q8 (YtjinkcmkgnofjaaGreatDoor.J' W t x) i=if t=i then x else Q8 W i:=λi i0=>Qx _ _ t0 Qo i0
 refine⟨h.a.tk E',λi a b n=>?_,λi a b=>?_,h.s,h.cu⟩
 ·rw[e i a] at n ⊢;split
  ·rename_i he;rw[C' he] at n;exact hx n
  ·rename_i he;rw[B' he] at n;exact h.t i a b n
 ·rw[e i a];split
  ·exact⟨v0,v1⟩
  ·exact h.tv i a b
def Lu:Q7:=⟨0,[],[],[]⟩
def z0h:MW:=⟨none,0,none,0,none,0,λ_=>⟨none,0,none,0,none,0⟩⟩
noncomputable def Yz(W:Q7)(bar:Int)(W':Q7):Q7×Int:=if Qr W=false then (Lu,1) else if bar≠0 then (W,bar) else (W',0)
def zr6{W W':Q7}{bar:Int}(h:Qr W=false):Yz W bar W'=(Lu,1):=C' h
def za0{W W':Q7}{bar:Int}(h:Qr W)(hb:bar≠0):Yz W bar W'=(W,bar):=by unfold Yz;rw[B' (by rw[h];decide),C' hb]
def zkn{W W':Q7}{bar:Int}(h:Qr W)(hb:bar=0):Yz W bar W'=(W',0):=by unfold Yz;rw[B' (by rw[h];decide),B' (by simpa using hb)]
def Yn(W:Q7)(t:Int):Bool:=YY t 0 ((W.IJ.length:Int)-1)&&((Q8 W t).state != 0)
def Y7{W:Q7}{t:Int}(h:Yn W t):0<=t/\t<(W.IJ.length:Int)/\(Q8 W t).state≠0:=by
 unfold Yn at h;simp only[A',It,ne_eq] at h;have:=Qu.1 h.1;exact⟨Qo,Qo,h.2⟩
noncomputable def VD(W:Q7)(t:Int):Int:=if Yn W t=false then 2 else if (Q8 W t).state≠1 then 6 else if QO W=false then 10 else 0
def zck(W:Q7)(t:Int):Q7:=Qb (J' W t { Q8 W t with state:=2 })
def zcl{W:Q7}{t:Int}(hW:Qr W)(hb:VD W t=0):Yn W t/\(Q8 W t).state=1/\SW Ql W/\SW Ql (J' W t { Q8 W t with state:=2 }):=by
 have wp:=Qm.1 hW;unfold VD at hb
 split at hb
 ·cases hb
 ·rename_i h1
  split at hb
  ·cases hb
  ·rename_i h2
   split at hb
   ·cases hb
   ·rename_i h3;have h1:Yn W t:=by simpa using h1
    have h2:(Q8 W t).state=1:=by simpa using h2
    have h3:QO W:=by simpa using h3
    have sw:=MS wp (Qm.1 h3);obtain⟨t0,t1,n⟩:=Y7 h1;have hl:=wp.a.t;have hv:=sw.tv t t0 Qo;exact⟨h1,h2,sw,sw.J' t0 Qo (λ_=>sw.t t t0 Qo n) hv.1 hv.2⟩
def UD.same{α:Type}{enc:α->List Va}{z:Nat}{ty:TypeId}{base:Nat}{w:Wo}{o:OA}{cap:Nat}{l l':List α}(h:UD enc z ty base w o cap l)(he:l'.flatMap enc=l.flatMap enc)(hl:l'.length=l.length):UD enc z ty base w o cap l':=by
 rcases h with ⟨h1,rfl,h3⟩|⟨b,sp,rfl,h1,h2,h3,h4⟩
 ·exact .inl ⟨h1,List.eq_nil_of_length_eq_zero hl,h3⟩
 ·exact .inr ⟨b,sp,rfl,h1,by rw[he];exact h2,by rw[he];exact h3,Qo⟩
def DH{α:Type}{enc:α->List Va}:∀(l:List α) (i:Nat) (x:α),(∀y,l[i]? = some y->enc x=enc y)->(l.set i x).flatMap enc=l.flatMap enc
 |[],_,_,_=>rfl
 |y::r,0,x,h=>by simp only[List.set_cons_zero,List.flatMap_cons];rw[h y rfl]
 |y::r,i+1,x,h=>by
  simp only[List.set_cons_succ,List.flatMap_cons];rw[DH r i x λz hz=>h z (by simpa using hz)]
def z4k{α:Type}[Inhabited α]{l:List α}{i:Int}(h0:0<=i)(hi:i<(l.length:Int)):l[i.toNat]? = some (gi l i):=by
 obtain⟨k,rfl⟩:=Int.eq_ofNat_of_zero_le h0;rw[Ig];exact z1i Qo
section
variable {base:Nat}{w w':Wo}{o:OA}{cap:Nat}{ps:List (ZD×MG)}
def Lw.BR1{α:Type}{enc:α->List Va}{z:Nat}{ty:TypeId}{aP qO:Nat}{o':OA}{l:List α}(h:Lw base w o cap ps)(h':UD enc z ty aP w o' qO l)(n1:Z0≠ty)(n2:Qg≠ty)(n3:ZA≠ty)(n4:ZO≠ty)(hx:Q0 (QL o') w w'):Lw base w' o cap ps:=
 ⟨h.row.ext hx (h.row.Wd h' n1),λi a b=>(h.each i a b).ext hx λx hm=>by
  simp only[Qt,Im] at hm;rcases hm with (hm|hm)|hm
  ·exact(h.each i a b).loc.Wd h' n2 x hm
  ·exact(h.each i a b).Ry.Wd h' n3 x hm
  ·exact(h.each i a b).shl.Wd h' n4 x hm,h.dj⟩
def Lw.Rw(h:Lw base w o cap ps){i:Int}(h0:0<=i)(hi:i<(ps.length:Int)){p:ZD×MG}(hp:PR base w p)(hd:∀j:Int,0<=j->j<(ps.length:Int)->i≠j->∀b∈Qt (gi ps j).2,b∉Qt p.2){j:Nat}{vs:List Va}(he:Om p=(Om (gi ps i)).take j++vs++(Om (gi ps i)).drop (j+vs.length))(hj:j+vs.length<=14):Lw base (YtjinkcmkgnofjaaGreatDoor.Rw w o (Int.toNat i*14+j) vs) o cap (ps.set i.toNat p):=by
 have hx:=h.row.rP (Int.toNat i*14+j) vs;have hlen:(ps.set i.toNat p).length=ps.length:=E';refine⟨h.row.Rw YG.len h0 hi he hj,λk hk nN=>?_,λa k ha hal hk nN hak b hb gV=>?_⟩
 ·rw[hlen] at nN;rw[Qx _ _ h0 hi hk];split
  ·exact hp.ext hx (Jv h.row hp)
  ·exact(h.each k hk nN).ext hx (Jv h.row (h.each k hk nN))
 ·rw[hlen] at hal nN;rw[Qx _ _ h0 hi ha] at hb;rw[Qx _ _ h0 hi hk] at gV
  by_cases e1:i=a
  ·rw[C' e1] at hb
   by_cases e2:i=k
   ·omega
   ·rw[B' e2] at gV;exact hd k hk nN e2 b gV hb
  ·rw[B' e1] at hb
   by_cases e2:i=k
   ·rw[C' e2] at gV;exact hd a ha hal e1 b hb gV
   ·rw[B' e2] at gV;exact h.dj a k ha hal hk nN hak b hb gV
def Lw.in(h:Lw base w o cap ps){i:Int}(h0:0<=i)(hi:i<(ps.length:Int)){p:ZD×MG}{bs:List Nat}(hx:Q0 bs w w')(hb:∀x∈bs,x∈Qt (gi ps i).2)(hp:PR base w' p)(hm:p.2=(gi ps i).2)(he:Om p=Om (gi ps i)):Lw base w' o cap (ps.set i.toNat p):=by
 have hlen:(ps.set i.toNat p).length=ps.length:=E';refine⟨?_,λk hk nN=>?_,λa k ha hal hk nN hak b bY gV=>?_⟩
 ·refine(h.row.ext hx λb bY cD=>Jv h.row (h.each i h0 hi) b (hb b cD) bY).same (DH _ _ _ λy hy=>?_) hlen;rw[z4k h0 hi] at hy;cases hy;exact he
 ·rw[hlen] at nN;rw[Qx _ _ h0 hi hk];split
  ·exact hp
  ·rename_i cU;exact(h.each k hk nN).ext hx λb bY cD=>h.dj i k h0 hi hk nN cU b (hb b cD) bY
 ·rw[hlen] at hal nN;rw[Qx _ _ h0 hi ha] at bY;rw[Qx _ _ h0 hi hk] at gV
  have e1:b∈Qt (gi ps a).2:=by
   by_cases e:i=a
   ·rw[C' e,hm,e] at bY;exact bY
   ·rw[B' e] at bY;exact bY
  have e2:b∈Qt (gi ps k).2:=by
   by_cases e:i=k
   ·rw[C' e,hm,e] at gV;exact gV
   ·rw[B' e] at gV;exact gV
  exact h.dj a k ha hal hk nN hak b e1 e2
end
def zs9(W:Q7)(m:MW):List (ZD×MG):=(List.range W.IE.length).map λ(k:Nat)=>(gi W.IE (k:Int),m.ms k)
def Ue(W:Q7)(m:MW):(zs9 W m).length=W.IE.length:=by simp[zs9]
def MN{W:Q7}{m:MW}{i:Int}(h0:0<=i)(hi:i<(W.IE.length:Int)):gi (zs9 W m) i=(gi W.IE i,m.ms i.toNat):=by
 obtain⟨k,rfl⟩:=Int.eq_ofNat_of_zero_le h0;rw[Ju (by rw[Ue];omega)];simp[zs9]
def QM(n:Nat)(m:MW):List Nat:=QL m.cO++QL m.tO++QL m.gO++(List.range n).flatMap λ(k:Nat)=>Qt (m.ms k)
structure Zp (n base:Nat) (w:Wo) (W:Q7) (m:MW):Prop where
 c:UD Gv 5 Zi base w m.cO m.cC W.IF
 t:UD Xc 9 QQ base w m.tO m.tC W.IJ
 g:Lw base w m.gO m.gC (zs9 W m)
 len:W.IE.length=n
section
variable {n base:Nat}{w w':Wo}{W:Q7}{m:MW}{bs:List Nat}
def zej{x:Nat}(h:x∈QL m.cO):x∈QM n m:=by simp[QM,h]
def zel{x:Nat}(h:x∈QL m.tO):x∈QM n m:=by simp[QM,h]
def zek{x:Nat}(h:x∈QL m.gO):x∈QM n m:=by simp[QM,h]
def UB{x k:Nat}(hk:k<n)(h:x∈Qt (m.ms k)):x∈QM n m:=by
 unfold QM;exact Iy _ (List.mem_flatMap.2 ⟨k,List.mem_range.2 hk,h⟩)
def AI{x:Nat}(h:x∈QM n m):x∈QL m.cO\/x∈QL m.tO\/x∈QL m.gO\/∃k,k<n/\x∈Qt (m.ms k):=by
 unfold QM at h;simp only[Im,List.mem_flatMap,List.mem_range] at h;rcases h with ((h|h)|h)|⟨k,hk,h⟩
 ·exact .inl h
 ·exact .inr (.inl h)
 ·exact .inr (.inr (.inl h))
 ·exact .inr (.inr (.inr ⟨k,hk,h⟩))
def Zp.each(h:Zp n base w W m){i:Int}(h0:0<=i)(hi:i<(n:Int)):PR base w (gi W.IE i,m.ms i.toNat):=by
 have:=h.g.each i h0 (by rw[Ue,h.len];exact hi)
 rwa[MN h0 (by rw[h.len];exact hi)] at this
def Zp.lt(h:Zp n base w W m):∀x∈QM n m,base<=x/\x<w.heap.size:=λx hx=>by
 rcases AI hx with hx|hx|hx|⟨k,hk,hx⟩
 ·exact h.c.lt x hx
 ·exact h.t.lt x hx
 ·exact h.g.row.lt x hx
 ·exact(h.each (i:=(k:Int)) Qo Qo).lt x (by simpa using hx)
def Zp.ext(h:Zp n base w W m)(hx:Q0 bs w w')(hd:∀x∈QM n m,x∉bs):Zp n base w' W m:=
 ⟨h.c.ext hx λb hb=>hd b (zej hb),h.t.ext hx λb hb=>hd b (zel hb),
  ⟨h.g.row.ext hx λb hb=>hd b (zek hb),λi a b=>by
   have b':i<(W.IE.length:Int):=by rw[Ue] at b;exact b
   have hl:=h.len;refine(h.g.each i a b).ext hx λx hm=>?_
   rw[MN a b'] at hm;exact hd x (UB Qo hm),h.g.dj⟩,h.len⟩
def Zp.WH(h:Zp n base w W m)(hx:Q0 [] w w'):Zp n base w' W m:=h.ext hx Qs
def Zp.mono{aP:Nat}(h:Zp n base w W m)(hb:aP<=base):Zp n aP w W m:=⟨h.c.mono hb,h.t.mono hb,h.g.mono hb,h.len⟩
def Zp.rd(h:Zp n base w W m)(hd:∀x∈QM n m,x∉bs):XV bs w W m:=by
 have hl:=h.len;refine⟨h.c.rd HN.len λb hb=>hd b (zej hb),h.t.rd Mh.len λb hb=>hd b (zel hb),⟨λi h0 hi=>?_,λi h0 hi=>?_,λi h0 hi=>?_,λi h0 hi=>?_⟩⟩
 ·have:=h.g.row.rd YG.len (bs:=bs) (λb hb=>hd b (zek hb)) i h0 (by rw[Ue];exact hi)
  rwa[MN h0 hi] at this
 ·exact(h.each h0 Qo).loc.rd Xe.len λb hb=>hd b (UB (k:=i.toNat) Qo (by simp[Qt];exact .inl hb))
 ·exact(h.each h0 Qo).Ry.rd J0.len λb hb=>hd b (UB (k:=i.toNat) Qo (by simp[Qt];exact .inr (.inl hb)))
 ·exact(h.each h0 Qo).shl.rd M6.len λb hb=>hd b (UB (k:=i.toNat) Qo (by simp[Qt];exact .inr (.inr hb)))
def Zp.AF3(h:Zp n base w W m){i:Int}(h0:0<=i)(hi:i<(W.IJ.length:Int)){j:Nat}{vs:List Va}{x:PS}(he:Xc x=(Xc (gi W.IJ i)).take j++vs++(Xc (gi W.IJ i)).drop (j+vs.length))(hj:j+vs.length<=9) :
  Zp n base (Rw w m.tO (Int.toNat i*9+j) vs) { W with IJ:=W.IJ.set i.toNat x } m:=
 ⟨h.c.ext (h.t.rP _ _) (h.c.Wd h.t Qd),h.t.Rw Mh.len h0 hi he hj,h.g.BR1 h.t Qd Qd Qd Qd (h.t.rP _ _),h.len⟩
def Zp.AF2(h:Zp n base w W m){i:Int}(h0:0<=i)(hi:i<(W.IF.length:Int)){j:Nat}{vs:List Va}{x:PP}(he:Gv x=(Gv (gi W.IF i)).take j++vs++(Gv (gi W.IF i)).drop (j+vs.length))(hj:j+vs.length<=5) :
  Zp n base (Rw w m.cO (Int.toNat i*5+j) vs) { W with IF:=W.IF.set i.toNat x } m:=
 ⟨h.c.Rw HN.len h0 hi he hj,h.t.ext (h.c.rP _ _) (h.t.Wd h.c Qd),h.g.BR1 h.c Qd Qd Qd Qd (h.c.rP _ _),h.len⟩
def GK(m:MW)(k:Nat)(p:MG):MW:={ m with ms:=λj=>if k=j then p else m.ms j }
def zjw(m:MW)(k:Nat):GK m k (m.ms k)=m:=by
 unfold GK
 have:(λj=>if k=j then m.ms k else m.ms j)=m.ms:=by
  funext j
  split
  ·rename_i e;rw[e]
  ·rfl
 rw[this]
def zta{i:Int}(h0:0<=i)(hi:i<(W.IE.length:Int))(g:ZD)(p:MG):zs9 { W with IE:=W.IE.set i.toNat g } (GK m i.toNat p)=(zs9 W m).set i.toNat (g,p):=by
 refine zqc (by rw[Ue,E',E',Ue]) λk hk=>?_
 rw[Ue,E'] at hk;rw[MN Qo (by rw[E'];omega),Qx _ _ h0 hi Qo,Qx _ _ h0 (by rw[Ue];exact hi) Qo];simp only[GK]
 by_cases e:i=(k:Int)
 ·rw[C' e,C' e,C' Qo]
 ·rw[B' e,B' e,B' Qo,MN Qo Qo]
def Zp.Bn0{p:MG}(h:Zp n base w W m){i:Int}(hn:∀x∈Qt p,x∉QM n m\/x∈Qt (m.ms i.toNat))(h0:0<=i)(hi:i<(n:Int)):∀j:Int,0<=j->j<((zs9 W m).length:Int)->i≠j->∀b∈Qt (gi (zs9 W m) j).2,b∉Qt p:=λj hj hjl hij b hb gV=>by
 have hl:=h.len;rw[Ue] at hjl;have cD:=hb;rw[MN hj hjl] at hb;rcases hn b gV with h1|h1
 ·exact h1 (UB Qo hb)
 ·have:=h.g.dj i j h0 (by rw[Ue];omega) hj (by rw[Ue];exact hjl) hij b (by rw[MN h0 Qo];exact h1);exact this cD
def Zp.Bt5(h:Zp n base w W m){i:Int}(h0:0<=i)(hi:i<(n:Int)){g:ZD}{p:MG}(hp:PR base w (g,p))(hn:∀x∈Qt p,x∉QM n m\/x∈Qt (m.ms i.toNat)){j:Nat}{vs:List Va}(he:YA g p=(YA (gi W.IE i) (m.ms i.toNat)).take j++vs++(YA (gi W.IE i) (m.ms i.toNat)).drop (j+vs.length))(hj:j+vs.length<=14) :
  Zp n base (Rw w m.gO (Int.toNat i*14+j) vs) { W with IE:=W.IE.set i.toNat g } (GK m i.toNat p):=by
 have hl:=h.len;have hx:=h.g.row.rP (Int.toNat i*14+j) vs;refine⟨h.c.ext hx (h.c.Wd h.g.row Qd),h.t.ext hx (h.t.Wd h.g.row Qd),?_,by rw[E'];exact hl⟩;have:=h.g.Rw h0 (by rw[Ue];omega) hp (h.Bn0 hn h0 hi) (j:=j) (vs:=vs) (by rw[MN h0 Qo];exact he) hj;rw[zta h0 Qo];exact this
def Zp.Ae8(h:Zp n base w W m){i:Int}(h0:0<=i)(hi:i<(n:Int)){g:ZD}(e1:g.IL.locals=(gi W.IE i).IL.locals)(e2:g.IL.Ry=(gi W.IE i).IL.Ry)(e3:g.IH=(gi W.IE i).IH){j:Nat}{vs:List Va}(he:YA g (m.ms i.toNat)=(YA (gi W.IE i) (m.ms i.toNat)).take j++vs++(YA (gi W.IE i) (m.ms i.toNat)).drop (j+vs.length))(hj:j+vs.length<=14) :
  Zp n base (Rw w m.gO (Int.toNat i*14+j) vs) { W with IE:=W.IE.set i.toNat g } m:=by
 have hm:=h.each h0 hi;have:=h.Bt5 h0 hi (g:=g) (p:=m.ms i.toNat) ⟨by rw[e1];exact hm.loc,by rw[e2];exact hm.Ry,by rw[e3];exact hm.shl⟩ (λx hx=>.inr hx) he hj
 rwa[zjw] at this
def Zp.in(h:Zp n base w W m){i:Int}(h0:0<=i)(hi:i<(n:Int)){g:ZD}(hx:Q0 bs w w')(hb:∀x∈bs,x∈Qt (m.ms i.toNat))(hp:PR base w' (g,m.ms i.toNat))(he:YA g (m.ms i.toNat)=YA (gi W.IE i) (m.ms i.toNat)) :
  Zp n base w' { W with IE:=W.IE.set i.toNat g } m:=by
 have hl:=h.len;have hmi:=h.each h0 hi
 have hf:∀{α:Type} {enc:α->List Va} {z:Nat} {ty:TypeId} {aP qO:Nat} {o':OA} {l:List α},UD enc z ty aP w o' qO l->ty≠Qg->ty≠ZA->ty≠ZO->∀b∈QL o',b∉bs:=λho n1 n2 n3 b bY cD=>by
  have hm:=hb b cD;simp only[Qt,Im] at hm;rcases hm with (hm|hm)|hm
  ·exact ho.Wd hmi.loc n1 b bY hm
  ·exact ho.Wd hmi.Ry n2 b bY hm
  ·exact ho.Wd hmi.shl n3 b bY hm
 refine⟨h.c.ext hx (hf h.c Qd Qd Qd),h.t.ext hx (hf h.t Qd Qd Qd),?_,by rw[E'];exact hl⟩;have:=h.g.in h0 (by rw[Ue];omega) (p:=(g,m.ms i.toNat)) hx (by rw[MN h0 Qo];exact hb) hp (by rw[MN h0 Qo]) (by rw[MN h0 Qo];exact he);have hs:=zta (m:=m) h0 (W:=W) Qo g (m.ms i.toNat);rw[zjw] at hs;rw[hs];exact this
def z2u(W:Q7)(i:Int)(c:Int)(x:KM)(mg:MG):YA { gi W.IE i with IH:=(gi W.IE i).IH.set c.toNat x } mg=YA (gi W.IE i) mg:=by
 simp[YA]
def Zp.B39(h:Zp n base w W m){i c:Int}(h0:0<=i)(hi:i<(n:Int))(c0:0<=c)(c1:c<((gi W.IE i).IH.length:Int)){j:Nat}{vs:List Va}{x:KM}(he:T9 x=(T9 (gi (gi W.IE i).IH c)).take j++vs++(T9 (gi (gi W.IE i).IH c)).drop (j+vs.length))(hj:j+vs.length<=5) :
  Zp n base (Rw w (m.ms i.toNat).sO (Int.toNat c*5+j) vs) { W with IE:=W.IE.set i.toNat { gi W.IE i with IH:=(gi W.IE i).IH.set c.toNat x } } m:=by
 have hm:=h.each h0 hi;have hx:=hm.shl.rP (Int.toNat c*5+j) vs;exact h.in h0 hi hx (λx hx=>by simp[Qt];exact .inr (.inr hx)) ⟨hm.loc.ext hx (hm.loc.Wd hm.shl Qd),hm.Ry.ext hx (hm.Ry.Wd hm.shl Qd),hm.shl.Rw M6.len c0 c1 he hj⟩ (z2u _ _ _ _ _)
def Zp.dV(h:Zp n base w W m){i c:Int}(h0:0<=i)(hi:i<(n:Int))(c0:0<=c)(c1:c<((gi W.IE i).IL.locals.length:Int))(x:Int) :
  Zp n base (Rw w (m.ms i.toNat).lO (Int.toNat c*1+0) [I x]) { W with IE:=W.IE.set i.toNat { gi W.IE i with IL:={ (gi W.IE i).IL with locals:=(gi W.IE i).IL.locals.set c.toNat x } } } m:=by
 have hm:=h.each h0 hi;have hx:=hm.loc.rP (Int.toNat c*1+0) [I x];exact h.in h0 hi hx (λx hx=>by simp[Qt];exact .inl hx) ⟨hm.loc.Rw Xe.len c0 c1 (j:=0) (vs:=[I x]) (x:=x) rfl Qs,hm.Ry.ext hx (hm.Ry.Wd hm.loc Qd),hm.shl.ext hx (hm.shl.Wd hm.loc Qd)⟩ (by simp[YA])
def Zp.B38(h:Zp n base w W m){i c:Int}(h0:0<=i)(hi:i<(n:Int))(c0:0<=c)(c1:c<((gi W.IE i).IL.Ry.length:Int))(x:Bool) :
  Zp n base (Rw w (m.ms i.toNat).dO (Int.toNat c*1+0) [.bool x]) { W with IE:=W.IE.set i.toNat { gi W.IE i with IL:={ (gi W.IE i).IL with Ry:=(gi W.IE i).IL.Ry.set c.toNat x } } } m:=by
 have hm:=h.each h0 hi;have hx:=hm.Ry.rP (Int.toNat c*1+0) [.bool x];exact h.in h0 hi hx (λx hx=>by simp[Qt];exact .inr (.inl hx)) ⟨hm.loc.ext hx (hm.loc.Wd hm.Ry Qd),hm.Ry.Rw J0.len c0 c1 (j:=0) (vs:=[.bool x]) (x:=x) rfl Qs,hm.shl.ext hx (hm.shl.Wd hm.Ry Qd)⟩ (by simp[YA])
end
structure Mv (n base:Nat) (bs:List Nat) (w0:Wo) (m0:MW) (w:Wo) (W:Q7) (m:MW):Prop where
 own:Zp n base w W m
 ext:Q0 (QM n m0) w0 w
 sub:∀x∈QM n m,x∈QM n m0\/w0.heap.size<=x
 hd:m={ m0 with ms:=m.ms }
 nb:∀x∈QM n m,x∉bs
 new:∀x∈bs,w0.heap.size<=x
section
variable {n base:Nat}{bs cs:List Nat}{w0 w w':Wo}{W W':Q7}{m0 m m':MW}{b:Nat}
def Mv.start(h:Zp n base w W m):Mv n base [] w m w W m:=⟨h,Q0.refl _ _,λx hx=>.inl hx,rfl,Qs,Qs⟩
def Mv.add(h:Mv n base bs w0 m0 w W m)(hb:w.heap.size<=b):Mv n base (bs++[b]) w0 m0 w W m:=⟨h.own,h.ext,h.sub,h.hd,λx hx hm=>by
 rcases Im.1 hm with hm|hm
 ·exact h.nb x hx hm
 ·have:x=b:=by simpa using hm
  have:=(h.own.lt x hx).2;omega,λx hm=>by
 rcases Im.1 hm with hm|hm
 ·exact h.new x hm
 ·have:x=b:=by simpa using hm
  have:=h.ext.size;omega⟩
def Mv.BO0(h:Mv n base bs w0 m0 w W m)(hs:∀x∈cs,x∈bs):Mv n base cs w0 m0 w W m:=⟨h.own,h.ext,h.sub,h.hd,λx hx hm=>h.nb x hx (hs x hm),λx hm=>h.new x (hs x hm)⟩
def Mv.close(h:Mv n base bs w0 m0 w W m):Mv n base [] w0 m0 w W m:=h.BO0 Qs
def Mv.step(h:Mv n base bs w0 m0 w W m)(hx:Q0 bs w w'):Mv n base bs w0 m0 w' W m:=⟨h.own.ext hx h.nb,h.ext.fresh hx λx hm=>.inl (h.new x hm),h.sub,h.hd,h.nb,h.new⟩
def Mv.R7(h:Mv n base bs w0 m0 w W m)(hx:Q0 [] w w'):Mv n base bs w0 m0 w' W m:=⟨h.own.WH hx,h.ext.trans hx.of_nil,h.sub,h.hd,h.nb,h.new⟩
def Mv.call(h:Mv n base bs w0 m0 w W m)(k:Mv n base [] w m w' W' m')(hs:∀x∈bs,x<w.heap.size):Mv n base bs w0 m0 w' W' m':=
 ⟨k.own,h.ext.fresh k.ext λx hm=>(h.sub x hm).symm,λx hx=>by
  rcases k.sub x hx with h1|h1
  ·exact h.sub x h1
  ·have:=h.ext.size;exact .inr Qo,by rw[k.hd,h.hd],λx hx hm=>by
  rcases k.sub x hx with h1|h1
  ·exact h.nb x h1 hm
  ·have:=hs x hm;omega,h.new⟩
def Mv.Ss(h:Mv n base bs w0 m0 w W m)(k:Zp n base w' W' m)(hx:Q0 (QM n m) w w'):Mv n base bs w0 m0 w' W' m:=
 ⟨k,h.ext.fresh hx λx hm=>(h.sub x hm).symm,h.sub,h.hd,h.nb,h.new⟩
def Mv.kept(h:Mv n base bs w0 m0 w W m)(k:Mv n base [] w m w' W' m')(hs:∀x∈bs,x<w.heap.size):Q9 bs w w':=λx hm=>k.ext.block x (hs x hm) λgZ=>h.nb x gZ hm
def Mv.rd(h:Mv n base bs w0 m0 w W m):XV bs w W m:=h.own.rd h.nb
def Mv.rd0(h:Mv n base bs w0 m0 w W m):XV [] w W m:=h.own.rd Qs
def Mv.trans{w1:Wo}{W1:Q7}{m1:MW}(h:Mv n base [] w0 m0 w W m)(k:Mv n base [] w m w1 W1 m1):Mv n base [] w0 m0 w1 W1 m1:=h.call k Qs
def Mv.AO2(h:Mv n base bs w0 m0 w W m){W0:Q7}(e0:W.now=W0.now)(e1:W.IF.length=W0.IF.length)(e2:W.IJ.length=W0.IJ.length)(e3:W.IE.length=W0.IE.length):Qc W m=Qc W0 m0:=by
 rw[h.hd];simp only[Qc,e0,e1,e2,e3]
end
structure OW (n base:Nat) (bs:List Nat) (w:Wo) (W:Q7) (m:MW):Prop where
 own:Zp n base w W m
 nb:∀x∈QM n m,x∉bs
section
variable {n base:Nat}{bs cs:List Nat}{w w':Wo}{W:Q7}{m:MW}{b:Nat}
def OW.of(h:Zp n base w W m)(hs:∀x∈bs,x<base):OW n base bs w W m:=⟨h,λx hx hm=>by
 have:=(h.lt x hx).1;have:=hs x hm;omega⟩
def OW.step(h:OW n base bs w W m)(hx:Q0 bs w w'):OW n base bs w' W m:=⟨h.own.ext hx h.nb,h.nb⟩
def OW.R7(h:OW n base bs w W m)(hx:Q0 [] w w'):OW n base bs w' W m:=⟨h.own.WH hx,h.nb⟩
def OW.call(h:OW n base bs w W m)(hx:Q0 cs w w')(hd:∀x∈QM n m,x∉cs):OW n base bs w' W m:=⟨h.own.ext hx hd,h.nb⟩
def OW.add(h:OW n base bs w W m)(hb:w.heap.size<=b):OW n base (bs++[b]) w W m:=⟨h.own,λx hx hm=>by
 rcases Im.1 hm with hm|hm
 ·exact h.nb x hx hm
 ·have:x=b:=by simpa using hm
  have:=(h.own.lt x hx).2;omega⟩
def OW.put(h:OW n base bs w W m)(hx:Q0 bs w w')(hb:w.heap.size<=b):OW n base (bs++[b]) w' W m:=⟨(h.step hx).own,(h.add hb).nb⟩
def OW.AH4{b2:Nat}(h:OW n base bs w W m)(hx:Q0 bs w w')(hb:w.heap.size<=b)(cD:w.heap.size<=b2):OW n base (bs++[b]++[b2]) w' W m:=⟨(h.step hx).own,((h.add hb).add cD).nb⟩
def OW.sub(h:OW n base bs w W m)(hs:∀x∈cs,x∈bs):OW n base cs w W m:=⟨h.own,λx hx hm=>h.nb x hx (hs x hm)⟩
def OW.mono{aP:Nat}(h:OW n base bs w W m)(hb:aP<=base):OW n aP bs w W m:=⟨h.own.mono hb,h.nb⟩
def OW.rd(h:OW n base bs w W m):XV bs w W m:=h.own.rd h.nb
def OW.rd0(h:OW n base bs w W m):XV [] w W m:=h.own.rd Qs
end
def Jt(b:Um):Um:=⟨b.I',b.I',0,List.replicate b.Ry.length 0,List.replicate b.Ry.length false⟩
def ZL(b:Um)(c:Int):Um×Int:=
 if gi b.locals c>0 then (b,0)
 else (⟨b.I',b.RH-Zr 20 b.RH,b.So,b.locals.set c.toNat (Zr 20 b.RH),b.Ry.set c.toNat (Zr 20 b.RH==0)⟩,if Zr 20 b.RH=0 then 2 else 0)
def Y6(b:Um)(c n:Int):Um×Int:=
 if n<1\/n>gi b.locals c then (b,3) else ({ b with So:=b.So+n,locals:=b.locals.set c.toNat (gi b.locals c-n) },0)
def ZP(b:Um)(op:z69):Um×Int:=
 if op.kind=4 then (Jt b,0)
 else if YY op.nJ 0 ((b.locals.length:Int)-1)=false then (b,1)
 else if op.kind=1 then ZL b op.nJ
 else if op.kind=2 then Y6 b op.nJ op.n
 else if op.kind=3 then (Yi b op.nJ,0)
 else (b,1)
structure Zz (base:Nat) (w:Wo) (b:Um) (p:MG):Prop where
 loc:UD U2 1 Qg base w p.lO p.lC b.locals
 Ry:UD K3 1 ZA base w p.dO p.dC b.Ry
def YK(p:MG):List Nat:=QL p.lO++QL p.dO
def Zz.lt{base:Nat}{w:Wo}{b:Um}{p:MG}(h:Zz base w b p):∀x∈YK p,base<=x/\x<w.heap.size:=λx hx=>by
 rcases Im.1 hx with hx|hx
 ·exact h.loc.lt x hx
 ·exact h.Ry.lt x hx
def Zz.ext{base:Nat}{w w':Wo}{b:Um}{p:MG}{bs:List Nat}(h:Zz base w b p)(hx:Q0 bs w w')(hd:∀x∈YK p,x∉bs):Zz base w' b p:=
 ⟨h.loc.ext hx λx hm=>hd x (Ia _ hm),h.Ry.ext hx λx hm=>hd x (Iy _ hm)⟩
def Zz.WH{base:Nat}{w w':Wo}{b:Um}{p:MG}(h:Zz base w b p)(hx:Q0 [] w w'):Zz base w' b p:=h.ext hx Qs
def Zz.CR7{base:Nat}{w w':Wo}{b:Um}{p:MG}{bs:List Nat}(h:Zz base w b p)(hx:Q0 bs w w')(hb:∀x∈bs,x<base):Zz base w' b p:=h.ext hx λx hm gZ=>by
 have:=(h.lt x hm).1;have:=hb x gZ;omega
def Zz.mono{base aP:Nat}{w:Wo}{b:Um}{p:MG}(h:Zz base w b p)(hb:aP<=base):Zz aP w b p:=⟨h.loc.mono hb,h.Ry.mono hb⟩
def Zz.dV{base:Nat}{w:Wo}{b:Um}{p:MG}(h:Zz base w b p){c:Int}(c0:0<=c)(c1:c<(b.locals.length:Int))(x:Int):Zz base (Rw w p.lO (Int.toNat c*1) [I x]) { b with locals:=b.locals.set c.toNat x } p:=
 ⟨h.loc.Rw Xe.len c0 c1 (j:=0) (vs:=[I x]) (x:=x) rfl Qs,h.Ry.ext (h.loc.rP _ _) (h.Ry.Wd h.loc Qd)⟩
def Zz.B38{base:Nat}{w:Wo}{b:Um}{p:MG}(h:Zz base w b p){c:Int}(c0:0<=c)(c1:c<(b.Ry.length:Int))(x:Bool):Zz base (Rw w p.dO (Int.toNat c*1) [.bool x]) { b with Ry:=b.Ry.set c.toNat x } p:=
 ⟨h.loc.ext (h.Ry.rP _ _) (h.loc.Wd h.Ry Qd),h.Ry.Rw J0.len c0 c1 (j:=0) (vs:=[.bool x]) (x:=x) rfl Qs⟩
def Zz.xL{base:Nat}{w:Wo}{b:Um}{p:MG}(h:Zz base w b p)(n:Nat)(vs:List Va):Q0 (YK p) w (Rw w p.lO n vs):=(h.loc.rP n vs).mono λx hx=>Ia _ hx
def Zz.xD{base:Nat}{w:Wo}{b:Um}{p:MG}(h:Zz base w b p)(n:Nat)(vs:List Va):Q0 (YK p) w (Rw w p.dO n vs):=(h.Ry.rP n vs).mono λx hx=>Iy _ hx
section
variable {b:Um}{m:MG}{w:Wo}
def Hy{α:Type}[Inhabited α]{l:List α}{i:Nat}(h:i<l.length):l.take i++[gi l (i:Int)]=l.take (i+1):=by
 rw[List.take_succ_eq_append_getElem h,Ju h]
def FV(h1:zm3 [] w m.lO b.locals)(h2:zwi [] w m.dO b.Ry)(hd:b.Ry.length=b.locals.length)(hl:b.locals.length<=1048576) :
  Cz OT #[.agg (ZI b m).toArray] w λe w'=>∃p,e=.returned (.agg (ZI b p).toArray)/\Zz w.heap.size w' b p/\Q0 [] w w':=by
 refine(zk6 b.I' b.RH b.So m.lO b.locals.length m.lC m.dO b.Ry.length m.dC (R:=λv w'=>∃p,v=.agg (ZI b p).toArray/\Zz w.heap.size w' b p/\Q0 [] w w') ?_).mono λe w' ⟨v,he,p,hv,h3⟩=>⟨p,by rw[he,hv],h3⟩
 intro x sJ x5 Su x6 bE
 refine⟨λvs w1=>∃(i:Nat) (p:MG),vs=[I (i:Int),I b.I',I b.RH,I b.So,.slice p.lO (b.locals.take i).length p.lC,.slice p.dO (b.Ry.take i).length p.dC]/\i<=b.locals.length/\Sc w [x,x5,x6] w1/\Ob U2 1 Qg w.heap.size [x,x5,x6] w1 p.lO p.lC (b.locals.take i)/\Ob K3 1 ZA w.heap.size [x,x5,x6] w1 p.dO p.dC (b.Ry.take i),
  ZG b.locals.length 0,λwr hx _=>⟨0,⟨none,0,none,0,none,0⟩,Qs,Ic _,(((Sc.start w).add sJ).add Su |>.add bE).R7 hx,⟨.inl ⟨rfl,rfl,rfl⟩,by simp[QL]⟩,⟨.inl ⟨rfl,rfl,rfl⟩,by simp[QL]⟩⟩,?_⟩
 rintro c1 l l1 l2 Sf Sg Sh l4O l4L l4C wv hs ⟨i,p,he,hi,s1,hO,hD⟩;simp only[I4,I5,Iv,true_and,and_true] at he;obtain⟨rfl,rfl,rfl,rfl,⟨rfl,rfl,rfl⟩,rfl,rfl,rfl⟩:=he;refine⟨λIW=>?_,λRM=>?_⟩
 ·have IW:=Ot IW;have vL:=h1.scb s1;refine⟨vL.ix XU Qo IW,_,vL i Qo IW,λb8 hb8=>⟨rfl,λRD Rl fY WO=>?_⟩⟩;have s2:=s1.put Rl hb8;have nG:=hO.put Rl hb8;have hD2:=hD.put Rl hb8;obtain⟨o2,c2,w2,We,uF,hO3,SQ⟩:=nG.AG3 Xe MV (x:=gi b.locals (i:Int)) fY s2.ext.size WO (z45 _) (by rw[List.length_take];omega) Qd YX #[false,false];rw[Hy Qo] at We hO3;have s3:=s2.call SQ λx hm=>(nG.own.lt x hm).1
  have hD3:=hD2.call SQ (hD2.own.Wd nG.own Qd);have uH:=h2.scb s3;refine⟨_,_,_,w2,We,uF,uH.ix LF Qo Qo,_,uH i Qo Qo,λb9 hb9=>⟨rfl,λRE T' dT CG0=>?_⟩⟩;have s4:=s3.put T' hb9;have hO4:=hO3.put T' hb9;have hD4:=hD3.put T' hb9;obtain⟨o4,c4,w4,B98,hk4,hD5,iD⟩:=hD4.AG3 J0 Lq (x:=gi b.Ry (i:Int)) dT s4.ext.size CG0 (z6p _) (by rw[List.length_take];omega) Qd Ja #[false,false];rw[Hy Qo] at B98 hD5;have s5:=s4.call iD λx hm=>(hD4.own.lt x hm).1
  have hO5:=hO4.call iD (hO4.own.Wd hD4.own Qd);refine⟨_,_,_,w4,B98,hk4,⟨Qo,Qo⟩,λw5 Su _=>⟨⟨i+1,⟨o2,c2,o4,c4,none,0⟩,rfl,Qo,(s5.step Su).sub Qs,(hO5.step Su).sub Qs,(hD5.step Su).sub Qs⟩,?_⟩⟩;simp only[ZG,Xt,Ye,Ie];omega
 ·have RM:=Ou RM;have e1:b.locals.take i=b.locals:=List.take_of_length_le Qo;have e2:b.Ry.take i=b.Ry:=List.take_of_length_le Qo;rw[e1] at hO ⊢;rw[e2] at hD ⊢;exact λw2 Rk=>⟨p,rfl,⟨(hO.step Rk).own,(hD.step Rk).own⟩,(s1.step Rk).ext⟩
def zpg(l:List Bool)(k:Nat)(h:k<l.length):(List.replicate k false++l.drop k).set k false=List.replicate (k+1) false++l.drop (k+1):=by
 rw[List.set_append,B' Qs,List.length_replicate,Nat.sub_self,List.drop_eq_getElem_cons h,List.set_cons_zero,List.replicate_succ',List.append_assoc,List.singleton_append]
def FW{base:Nat}(h:Zz base w b m)(hl:b.Ry.length<=1048576) :
  Cz OU #[.agg (ZI b m).toArray] w λe w'=>e=.returned (.agg (ZI b m).toArray)/\Zz base w' { b with Ry:=List.replicate b.Ry.length false } m/\Q0 (YK m) w w':=by
 refine(zk7 b.I' b.RH b.So m.lO b.locals.length m.lC m.dO b.Ry.length m.dC (R:=λv w'=>v=.agg (ZI b m).toArray/\Zz base w' { b with Ry:=List.replicate b.Ry.length false } m/\Q0 (YK m) w w') ?_).mono λe w' ⟨v,he,hv,h3⟩=>⟨by rw[he,hv],h3⟩
 intro x sJ x5 Su
 have hnb:∀y∈YK m,y∉[x,x5]:=λy hy hm=>by
  have:=(h.lt y hy).2;simp only[Ii,List.not_mem_nil,or_false] at hm;rcases hm with rfl|rfl <;> omega
 have vJ:∀y∈[x,x5],w.heap.size<=y:=λy hm=>by
  simp only[Ii,List.not_mem_nil,or_false] at hm;rcases hm with rfl|rfl <;> assumption
 refine Jm b.Ry.length 0 rfl (λk w1=>k<=b.Ry.length/\Zz base w1 { b with Ry:=List.replicate k false++b.Ry.drop k } m/\Q0 (YK m) w w1) (λw1 S9 _=>⟨Ic _,by simpa using h.WH S9,S9.of_nil⟩) λk w1 hs ⟨hk,hO,hX⟩=>⟨λIW=>?_,λRM=>?_⟩
 ·have IW:=Ot IW;have hlen:(List.replicate k false++b.Ry.drop k).length=b.Ry.length:=by simp;omega
  have e1:=hO.B38 (c:=(k:Int)) Qo (by show (k:Int)<((List.replicate k false++b.Ry.drop k).length:Int);rw[hlen];exact IW) false;have e2:({ b with Ry:=(List.replicate k false++b.Ry.drop k).set k false }:Um)={ b with Ry:=List.replicate (k+1) false++b.Ry.drop (k+1) }:=by rw[zpg _ _ Qo]
  have Wn:=hO.Ry.ix (i:=(k:Int)) Qo (by show (k:Int)<((List.replicate k false++b.Ry.drop k).length:Int);rw[hlen];exact IW);have vE:=hO.Ry.wr J0.len (bs:=[x,x5]) (λy hy=>hnb y (Iy _ hy)) (i:=(k:Int)) Qo (by show (k:Int)<((List.replicate k false++b.Ry.drop k).length:Int);rw[hlen];exact IW) (j:=0) (n:=1) Qd;refine⟨by rw[<-hlen];exact Wn,vE,⟨Qo,Qo⟩,λw2 Rk _=>Qw Qo ⟨Qo,?_,(hX.trans (hO.xD _ _)).fresh Rk λy hy=>.inl (vJ y hy)⟩⟩;rw[Ig] at e1;have:=(e2▸e1:Zz base (Rw w1 m.dO (k*1) [.bool false]) { b with Ry:=List.replicate (k+1) false++b.Ry.drop (k+1) } m);exact this.ext (by rw[Ig] at Rk;exact Rk) hnb
 ·have RM:=Ou RM;have uF:k=b.Ry.length:=Qo;subst uF;rw[List.drop_length,List.append_nil] at hO;exact λw2 Rk=>⟨rfl,hO.ext Rk hnb,hX.fresh Rk λy hy=>.inl (vJ y hy)⟩
def zbc{p:Int}(h:0<=p):0<=Zr 20 p/\Zr 20 p<=p:=by unfold Zr;split <;> omega
def Vh{op:z69}(hb:P2 b)(h1:zm3 [] w m.lO b.locals)(h2:zwi [] w m.dO b.Ry) :
  Cz XD #[.agg (ZI b m).toArray,.agg (z6f op).toArray] w λe w'=>∃p,e=.returned (.tuple #[.agg (ZI (ZP b op).1 p).toArray,I (ZP b op).2])/\Zz w.heap.size w' (ZP b op).1 p/\Q0 [] w w':=by
 refine(zg3 b.I' b.RH b.So m.lO b.locals.length m.lC m.dO b.Ry.length m.dC op.kind op.nJ op.n (R:=λv w'=>∃p,v=.tuple #[.agg (ZI (ZP b op).1 p).toArray,I (ZP b op).2]/\Zz w.heap.size w' (ZP b op).1 p/\Q0 [] w w') ?_).mono λe w' ⟨v,he,p,hv,h3⟩=>⟨p,by rw[he,hv],h3⟩
 have hm9:=Y5;have hl2:=hb.l2;have hdl:=hb.dl;have q1:=hb.q1;have q2:=hb.q2;have p1:=hb.p1;have p2:=hb.p2;have s1':=hb.s1;have s2':=hb.s2;intro x sJ x5 Su x6 bE;have hok:=DN (bs:=[]) h1 h2 Qo;rw[Qm.2 hb] at hok;refine⟨true,hok,λh=>by simp at h,λ_ R5 S9 dE=>?_⟩;have t1:=((((Sc.start w).add sJ).add Su).add bE).R7 S9;refine(FV (h1.ext S9) (h2.ext S9) hdl Qo).mono λe wv ⟨p,he,hO,cW⟩=>⟨_,_,_,_,_,_,_,_,_,he,Qi cW dE,λg4=>?_,λg4=>?_⟩
 ·have g4:op.kind=4:=by simpa using g4
  have t2:=t1.R7 cW;have vI:∀y∈[x,x5,x6],y<R5.heap.size:=dE;refine λR6 Rk V'=>⟨_,_,_,_,KI Xe MV b.Ry.length Qo Qo R6,Qi (Zc _ _) V',λRD Rl fY=>?_⟩
  have hLo:=(Vj (enc:=U2) Xe.len Qg b.Ry.length (0:Int) R6).ext Rl λy hy hm=>by
   have:y=R6.heap.size:=by simpa[QL] using hy
   have:=V' y hm;omega
  have hD3:UD K3 1 ZA R5.heap.size RD p.dO p.dC b.Ry:=((hO.CR7 Rk vI).WH (Zc R6 _)).CR7 Rl vI |>.Ry
  have C20:R5.heap.size<=R6.heap.size:=IB cW.size Rk.size;have hB3:Zz R5.heap.size RD { b with locals:=List.replicate b.Ry.length 0 } ⟨some ⟨R6.heap.size,0,none⟩,b.Ry.length,p.dO,p.dC,none,0⟩:=⟨hLo.mono C20,hD3⟩;have t3:=((t2.step Rk).R7 (Zc R6 (.cells ((List.replicate b.Ry.length (0:Int)).flatMap U2).toArray Qg))).step Rl;have hw:=FW (b:=⟨b.I',b.I',0,List.replicate b.Ry.length 0,b.Ry⟩) (m:=⟨some ⟨R6.heap.size,0,none⟩,b.Ry.length,p.dO,p.dC,none,0⟩) (base:=R5.heap.size) ⟨hB3.loc,hB3.Ry⟩ (by show b.Ry.length<=_;omega);simp only[ZI,List.length_replicate] at hw;refine I3 hw λe w4 ⟨he4,hO4,iD⟩=>⟨_,_,_,_,_,_,_,_,_,he4,λy hm=>iD.block y (fY y hm) λgZ=>?_,λRE T'=>⟨⟨some ⟨R6.heap.size,0,none⟩,b.Ry.length,p.dO,p.dC,none,0⟩,?_,?_,?_⟩⟩
  ·have:=(hB3.lt y gZ).1;have:=dE y hm;omega
  ·have:ZP b op=(Jt b,0):=by unfold ZP;rw[C' g4]
   rw[this];simp[ZI,Jt]
  ·have:ZP b op=(Jt b,0):=by unfold ZP;rw[C' g4]
   rw[this]
   exact(Zz.mono ⟨hO4.loc,hO4.Ry⟩ S9.size).ext T' λy hy hm=>by
    have:=(hB3.lt y hy).1;have:=dE y hm;omega
  ·exact((t3.call iD λy hy=>IB S9.size (hB3.lt y hy).1).step T').ext
 ·have g4:¬op.kind=4:=by simpa using g4
  have t2:=t1.R7 cW
  have vI:∀y∈YK p,y∉[x,x5,x6]:=λy hy hm=>by
   have:=(hO.lt y hy).1;have:=dE y hm;omega
  have hO0:Zz w.heap.size wv b p:=hO.mono S9.size
  have fin:∀{b':Um} {c:Int} {w1 w2:Wo},ZP b op=(b',c)->Zz w.heap.size w1 b' p->Q0 (YK p) wv w1->Q0 [x,x5,x6] w1 w2->Zz w.heap.size w2 (ZP b op).1 p/\Q0 [] w w2:=λe hB hX hx=>by
   rw[e];exact⟨hB.ext hx vI,((t2.call hX λy hy=>(hO0.lt y hy).1).step hx).ext⟩
  have vL:zm3 [x,x5,x6] wv p.lO b.locals:=hO.loc.rd Xe.len λy hy=>vI y (Ia _ hy)
  refine⟨⟨Qo,Qo⟩,_,Qq,λg5 wr hx=>⟨p,?_,fin (b':=b) (c:=1) ?_ hO0 (Q0.refl _ _) hx⟩,λg5=>?_⟩
  ·have:ZP b op=(b,1):=by unfold ZP;rw[B' g4,C' (by simpa using g5)]
   rw[this];rfl
  ·unfold ZP;rw[B' g4,C' (by simpa using g5)]
  have g5':YY op.nJ 0 ((b.locals.length:Int)-1):=by simpa using g5
  have eI:ZP b op=if op.kind=1 then ZL b op.nJ else if op.kind=2 then Y6 b op.nJ op.n else if op.kind=3 then (Yi b op.nJ,0) else (b,1):=by
   unfold ZP;rw[B' g4,B' (by rw[g5'];decide)]
  obtain⟨c0,c1⟩:=Qu.1 g5';have c1:op.nJ<(b.locals.length:Int):=Qo;have he':=hb.each _ c0 c1;have Wn:=vL.ix XU c0 c1;have hwL:Xh [x,x5,x6] wv p.lO (Int.toNat op.nJ*1) 1:=hO.loc.wr Xe.len (λy hy=>vI y (Ia _ hy)) c0 c1 (j:=0) Qd;refine⟨λg6=>?_,λg6=>?_⟩
  ·have g6:op.kind=1:=by simpa using g6
   rw[C' g6] at eI;refine⟨Wn,_,vL _ c0 c1,λg7 wr hx=>⟨p,?_,fin (b':=b) (c:=0) ?_ hO0 (Q0.refl _ _) hx⟩,λg7=>?_⟩
   ·rw[eI];unfold ZL;rw[C' (Ot g7)];rfl
   ·rw[eI];unfold ZL;rw[C' (Ot g7)]
   have g7:=Ou g7;have ht:ZL b op.nJ=(⟨b.I',b.RH-Zr 20 b.RH,b.So,b.locals.set op.nJ.toNat (Zr 20 b.RH),b.Ry.set op.nJ.toNat (Zr 20 b.RH==0)⟩,if Zr 20 b.RH=0 then 2 else 0):=by unfold ZL;rw[B' g7]
   rw[ht] at eI;have hm:=zbc p1;have e1:=hO0.dV c0 c1 (Zr 20 b.RH);have e2:=e1.B38 (c:=op.nJ) c0 (by show op.nJ<(b.Ry.length:Int);omega) (Zr 20 b.RH==0);have hX:=(hO0.xL (Int.toNat op.nJ*1) [I (Zr 20 b.RH)]).trans (e1.xD (Int.toNat op.nJ*1) [.bool (Zr 20 b.RH==0)]);refine⟨_,JE,⟨Qo,Qo⟩,Wn,hwL,e1.Ry.ix c0 (by show op.nJ<(b.Ry.length:Int);omega),e1.Ry.wr J0.len (λy hy=>vI y (Iy _ hy)) c0 (by show op.nJ<(b.Ry.length:Int);omega) (j:=0) Qd,λg8 wr hx=>⟨p,?_,fin eI ⟨e2.loc,e2.Ry⟩ hX hx⟩,λg8 wr hx=>⟨p,?_,fin eI ⟨e2.loc,e2.Ry⟩ hX hx⟩⟩
   ·rw[eI,C' (by simpa using g8)];simp[ZI]
   ·rw[eI,B' (by simpa using g8)];simp[ZI]
  ·have g6:¬op.kind=1:=by simpa using g6
   rw[B' g6] at eI;refine⟨λg7=>?_,λg7=>?_⟩
   ·have g7:op.kind=2:=by simpa using g7
    rw[C' g7] at eI;refine⟨λ_=>Wn,_,λ_=>vL _ c0 c1,λg8 wr hx=>⟨p,?_,fin (b':=b) (c:=3) ?_ hO0 (Q0.refl _ _) hx⟩,λg8=>?_⟩
    ·rw[eI];unfold Y6;rw[C' (by simpa using g8)];rfl
    ·rw[eI];unfold Y6;rw[C' (by simpa using g8)]
    have g8':¬(op.n<1\/op.n>gi b.locals op.nJ):=by simpa using g8
    have ht:Y6 b op.nJ op.n=({ b with So:=b.So+op.n,locals:=b.locals.set op.nJ.toNat (gi b.locals op.nJ-op.n) },0):=by unfold Y6;rw[B' g8']
    rw[ht] at eI;have e1:=hO0.dV c0 c1 (gi b.locals op.nJ-op.n);refine⟨Wn,_,vL _ c0 c1,⟨Qo,Qo⟩,Wn,hwL,⟨Qo,Qo⟩,λwr hx=>⟨p,?_,fin eI ⟨e1.loc,e1.Ry⟩ (hO0.xL _ _) hx⟩⟩;rw[eI];simp[ZI]
   ·have g7:¬op.kind=2:=by simpa using g7
    rw[B' g7] at eI;refine⟨λg8=>?_,λg8 wr hx=>⟨p,?_,fin (b':=b) (c:=1) ?_ hO0 (Q0.refl _ _) hx⟩⟩
    ·have g8:op.kind=3:=by simpa using g8
     rw[C' g8] at eI;have e1:=hO0.dV c0 c1 0;refine⟨Wn,_,vL _ c0 c1,⟨Qo,Qo⟩,Wn,hwL,λg9 wr hx hs=>?_,λg9 wr hx=>⟨p,?_,fin eI ?_ (hO0.xL _ _) hx⟩⟩
     ·have g9:=Ot g9;have e2:Zz w.heap.size wr ⟨b.I',b.RH+gi b.locals op.nJ,b.So,b.locals.set op.nJ.toNat 0,b.Ry⟩ p:=Zz.ext ⟨e1.loc,e1.Ry⟩ hx vI;have hw:=FW e2 (by show b.Ry.length<=_;omega);simp only[ZI,E'] at hw;refine I3 hw λe w4 ⟨he4,hO4,iD⟩=>⟨_,_,_,_,_,_,_,_,_,he4,λy hm=>iD.block y (hs y hm) λgZ=>vI y gZ hm,λRE T'=>⟨p,?_,?_,?_⟩⟩
      ·rw[eI];simp[ZI,Yi,C' g9]
      ·rw[eI];have:Yi b op.nJ=⟨b.I',b.RH+gi b.locals op.nJ,b.So,b.locals.set op.nJ.toNat 0,List.replicate b.Ry.length false⟩:=by unfold Yi;rw[C' g9]
       rw[this];exact Zz.ext ⟨hO4.loc,hO4.Ry⟩ T' vI
      ·exact((((t2.call (hO0.xL _ _) λy hy=>(hO0.lt y hy).1).step hx).call iD λy hy=>(hO0.lt y hy).1).step T').ext
     ·have g9:=Ou g9;rw[eI];simp[ZI,Yi,B' g9]
     ·have g9:=Ou g9;have:Yi b op.nJ=⟨b.I',b.RH+gi b.locals op.nJ,b.So,b.locals.set op.nJ.toNat 0,b.Ry⟩:=by unfold Yi;rw[B' g9]
      rw[this];exact⟨e1.loc,e1.Ry⟩
    ·rw[eI,B' (by simpa using g8)];rfl
    ·rw[eI,B' (by simpa using g8)]
end
section
variable {base:Nat}{W:Q7}{m:MW}{w:Wo}
def YM{w:Wo}{x x1:Nat}(h:w.heap.size<=x)(h1:w.heap.size<=x1):∀y∈[x,x1],w.heap.size<=y:=λy hm=>by
 simp only[Ii,List.not_mem_nil,or_false] at hm;rcases hm with rfl|rfl <;> assumption
def Mv.two{n:Nat}(h:Zp n base w W m){x x1:Nat}(hx:w.heap.size<=x)(S9:w.heap.size<=x1):Mv n base [x,x1] w m w W m:=((Mv.start h).add hx).add S9
def Dz{n:Nat}{m:MW}{w:Wo}{k:Nat}{vs:List Va}:Q0 (QM n m) w (Rw w m.cO k vs):=TR λa ha=>zej (by rw[ha];simp[QL])
def Hx{n:Nat}{m:MW}{w:Wo}{k:Nat}{vs:List Va}:Q0 (QM n m) w (Rw w m.tO k vs):=TR λa ha=>zel (by rw[ha];simp[QL])
def Ag{n:Nat}{m:MW}{w:Wo}{k:Nat}{vs:List Va}:Q0 (QM n m) w (Rw w m.gO k vs):=TR λa ha=>zek (by rw[ha];simp[QL])
def zml{n:Nat}{m:MW}{w:Wo}{i k:Nat}{vs:List Va}(hi:i<n):Q0 (QM n m) w (Rw w (m.ms i).sO k vs):=TR λa ha=>UB hi (by simp[Qt,QL,ha])
def z2y{n:Nat}{m:MW}{w:Wo}{i k:Nat}{vs:List Va}(hi:i<n):Q0 (QM n m) w (Rw w (m.ms i).lO k vs):=TR λa ha=>UB hi (by simp[Qt,QL,ha])
def z6x{n:Nat}{m:MW}{w:Wo}{i k:Nat}{vs:List Va}(hi:i<n):Q0 (QM n m) w (Rw w (m.ms i).dO k vs):=TR λa ha=>UB hi (by simp[Qt,QL,ha])
def zpk{n:Nat}{bs:List Nat}(h:Zp n base w W m)(hd:∀x∈QM n m,x∉bs){i:Int}(h0:0<=i)(h1:i<(W.IF.length:Int)){j k:Nat}(hj:j+k<=5):Xh bs w m.cO (Int.toNat i*5+j) k:=h.c.wr HN.len (λb hb=>hd b (zej hb)) h0 h1 hj
def ztu{n:Nat}{bs:List Nat}(h:Zp n base w W m)(hd:∀x∈QM n m,x∉bs){i:Int}(h0:0<=i)(h1:i<(W.IJ.length:Int)){j k:Nat}(hj:j+k<=9):Xh bs w m.tO (Int.toNat i*9+j) k:=h.t.wr Mh.len (λb hb=>hd b (zel hb)) h0 h1 hj
def zrw{n:Nat}{bs:List Nat}(h:Zp n base w W m)(hd:∀x∈QM n m,x∉bs){i:Int}(h0:0<=i)(h1:i<(n:Int)){j k:Nat}(hj:j+k<=14):Xh bs w m.gO (Int.toNat i*14+j) k:=h.g.row.wr YG.len (λb hb=>hd b (zek hb)) h0 (by rw[Ue,h.len];exact h1) hj
def z65{n:Nat}{bs:List Nat}(h:Zp n base w W m)(hd:∀x∈QM n m,x∉bs){i c:Int}(h0:0<=i)(h1:i<(n:Int))(c0:0<=c)(c1:c<((gi W.IE i).IH.length:Int)){j k:Nat}(hj:j+k<=5):Xh bs w (m.ms i.toNat).sO (Int.toNat c*5+j) k:=
 (h.each h0 h1).shl.wr M6.len (λb hb=>hd b (UB (k:=i.toNat) Qo (by simp[Qt];exact .inr (.inr hb)))) c0 c1 hj
def z8c{n:Nat}{bs:List Nat}(h:Zp n base w W m)(hd:∀x∈QM n m,x∉bs){i c:Int}(h0:0<=i)(h1:i<(n:Int))(c0:0<=c)(c1:c<((gi W.IE i).IL.locals.length:Int)){j k:Nat}(hj:j+k<=1):Xh bs w (m.ms i.toNat).lO (Int.toNat c*1+j) k:=
 (h.each h0 h1).loc.wr Xe.len (λb hb=>hd b (UB (k:=i.toNat) Qo (by simp[Qt];exact .inl hb))) c0 c1 hj
def z8b{n:Nat}{bs:List Nat}(h:Zp n base w W m)(hd:∀x∈QM n m,x∉bs){i c:Int}(h0:0<=i)(h1:i<(n:Int))(c0:0<=c)(c1:c<((gi W.IE i).IL.Ry.length:Int)){j k:Nat}(hj:j+k<=1):Xh bs w (m.ms i.toNat).dO (Int.toNat c*1+j) k:=
 (h.each h0 h1).Ry.wr J0.len (λb hb=>hd b (UB (k:=i.toNat) Qo (by simp[Qt];exact .inr (.inl hb)))) c0 c1 hj
def zs3{n:Nat}(h:Zp n base w W m){c:Int}(c0:0<=c)(c1:c<(W.IF.length:Int)) :
  (Zp n base (Rw w m.cO (Int.toNat c*5+1) [I (-1)]) { W with IF:=W.IF.set c.toNat { gi W.IF c with cur := -1 } } m)/\
  Zp n base (Rw (Rw w m.cO (Int.toNat c*5+1) [I (-1)]) m.cO (Int.toNat c*5+2) [I 0]) (Rc W c) m:=by
 have e1:=h.AF2 c0 c1 (j:=1) (vs:=[I (-1)]) (x:={ gi W.IF c with cur := -1 }) rfl Qd;refine⟨e1,?_⟩;have hg:gi (W.IF.set c.toNat { gi W.IF c with cur := -1 }) c={ gi W.IF c with cur := -1 }:=by rw[Qx _ _ c0 c1 c0,C' rfl]
 have e2:=e1.AF2 c0 (by simpa using c1) (j:=2) (vs:=[I 0]) (x:=XA (gi W.IF c)) (by rw[hg];rfl) Qd;rw[List.set_set] at e2;exact e2
def ZS{n:Nat}(h:Zp n base w W m){c:Int}(c0:0<=c)(c1:c<(W.IF.length:Int)) :
  Cz Zj #[.agg (Qc W m).toArray,I c] w λe w'=>e=.returned (.agg (Qc (Rc W c) m).toArray)/\Mv n base [] w m w' (Rc W c) m:=by
 refine(zk8 _ _ _ _ _ _ _ _ _ _ c (R:=λv w'=>v=.agg (Qc (Rc W c) m).toArray/\Mv n base [] w m w' (Rc W c) m) ?_).mono λe w' ⟨v,he,hv,h3⟩=>⟨by rw[he,hv],h3⟩
 intro x hx x1 S9;obtain⟨e1,e2⟩:=zs3 h c0 c1;have hr:=h.rd (bs:=[]) Qs;refine⟨hr.c.ix Y1 c0 c1,zpk h Qs c0 c1 Qd,hr.c.ix Y1 c0 c1,zpk e1 Qs c0 (by simpa using c1) Qd,λwr Rk=>⟨by simp[Qc,Rc,RO],((Mv.start h).Ss e2 (Dz.trans Dz)).R7 Rk⟩⟩
def z3u{W:Q7}{g c:Int}{s:KM}:RC W g c s={ W with IE:=W.IE.set g.toNat { gi W.IE g with IH:=(gi W.IE g).IH.set c.toNat s } }:=rfl
def U4{W W':Q7}{m:MW}(h:Fr W W'):Qc W' m=Qc W m:=by
 simp only[Qc,h.n,h.c,h.t,h.g.len]
def zk0{gs:List ZD}(ht:Yr gs){k:Int}(hu:Q6 gs k):Pa (gs.length+1) gs k 0=dep 3 gs k:=by
 have hp:∀g:Int,g≠0->Q6 gs g->Q6 gs (gi gs g).IG:=λg hz hu=>(Y0 ht hu hz).1
 have hd:0<=dep 3 gs k/\dep 3 gs k<=3:=by
  by_cases hz:k=0
  ·subst hz;rw[ZR];omega
  ·obtain⟨_,_,_,d,e,_,hd⟩:=Y0 ht hu hz;omega
 have hm:=H0 gs 3 gs.length k hd.1 (by rw[ht.len];omega);rw[FY hp _ _ _ hu,hm,B' Qo];omega
def zed{F K:Int}{n:Nat}(jJ:SF F K W)(h:Zp n base w W m)(hk:F+Qh<=K){k c:Int}(hu:Q6 W.IE k)(hn:n=8)(c0:0<=c)(c1:c<(W.IF.length:Int))(s:KM) :
  Zp n base (Rw w (m.ms k.toNat).sO (Int.toNat c*5) (T9 s)) (RC W k c s) m:=by
 obtain⟨u0,u1,_⟩:=Q2.1 hu;have hl:=jJ.w.a.gl;have hs:=jJ.w.a.sl hu;exact h.B39 u0 Qo c0 Qo (j:=0) (vs:=T9 s) (x:=s) (by simp[T9]) (by simp[T9])
def Hd{F K:Int}(h:Zp 8 base w W m)(jJ:SF F K W)(hk:F+Qh<=K)(hK:K<=1000000000000000000){c:Int}(c0:0<=c)(c1:c<(W.IF.length:Int)) :
  Cz Vu #[.agg (Qc W m).toArray,I c] w λe w'=>e=.returned (.agg (Qc W m).toArray)/\Mv 8 base [] w m w' (QF W c) m:=by
 refine(zc8 _ _ _ _ _ _ _ _ _ _ c (R:=λv w'=>v=.agg (Qc W m).toArray/\Mv 8 base [] w m w' (QF W c) m) ?_).mono λe w' ⟨v,he,hv,h3⟩=>⟨by rw[he,hv],h3⟩
 intro x hx x1 S9;have bU:=jJ.w.a.gl
 refine⟨λvs w1=>∃(j:Nat),vs=[I (3-(j:Int))]/\j<=3/\Mv 8 base [x,x1] w m w1 (Yh W c j) m,
  λvs _=>(Ye 0 vs).toNat,λwr sJ _=>⟨0,rfl,Qd,(Mv.two h hx S9).R7 sJ⟩,?_⟩
 rintro d wv hs ⟨j,he,j3,hM⟩;obtain⟨hS,hO⟩:=HQ jJ hk c0 c1 j j3;have hN:Yh W c (j+1)=Z9 (Yh W c j) c (3-(j:Int)) 8:=rfl;have hE:j=3->Yh W c j=QF W c:=λe=>by rw[e];rfl
 generalize Yh W c j=W1 at hM hS hO hN hE;simp only[I4,I5,true_and,and_true] at he;refine⟨λhd=>?_,λhd=>?_⟩
 ·have hd:=Ot hd;have oM:c<(W1.IF.length:Int):=by rw[hO.c];exact c1
  refine Jm W.IE.length 1 rfl (λk w2=>1<=k/\k<=8/\Mv 8 base [x,x1] w m w2 (Z9 W1 c d k) m) (λw2 Rk _=>⟨I7 _,Qd,?_⟩) λk w2 V' ⟨hk1,hk8,Wz⟩=>?_
  ·have e:Z9 W1 c d 1=W1:=zu0 Qo;rw[e];exact hM.step Rk
  obtain⟨kW,nG⟩:=FZ hS hk (c:=c) (d:=d) Qo c0 oM k hk8;have hf2:=hO.trans nG;have e0:Qc (Z9 W1 c d k) m=Qc W m:=U4 hf2.fr;have hr:=Wz.rd;have sG:(Z9 W1 c d k).IE.length=W.IE.length:=hf2.g.len;have AQ8:(Z9 W1 c d k).IF.length=W.IF.length:=by rw[hf2.c]
  have W8:Z9 W1 c d (k+1)=if (gi (Z9 W1 c d k).IE (k:Int)).IV=true/\dep 3 (Z9 W1 c d k).IE (k:Int)=d then RC (Z9 W1 c d k) (k:Int) c (ZH (Z9 W1 c d k) (k:Int) c) else Z9 W1 c d k:=rfl;have hN8:k=8->Yh W c (j+1)=Z9 W1 c d k:=λe=>by rw[hN,<-he,e]
  generalize Z9 W1 c d k=W2 at Wz kW nG hf2 e0 hr sG AQ8 W8 hN8;refine⟨λIW=>?_,λRM=>?_⟩
  ·have IW:=Ot IW;have Rh:(k:Int)<(W2.IE.length:Int):=Qo;have hdp:=MF (g:=(k:Int)) (c:=m.gC) hr.g (by have:=Y5;omega);rw[sG] at hdp;refine⟨by have:=hr.g.ix (i:=(k:Int)) Qo Rh;rwa[sG] at this,(gi W2.IE (k:Int)).IV,hr.g.IV Qo Rh,_,λ_=>hdp,λg=>?_,λg=>?_⟩
   ·refine⟨⟨Qo,Qo⟩,λw3 Rl _=>Qw Qo ⟨Qo,Qo,?_⟩⟩;rw[W8,B']
    ·exact Wz.step Rl
    ·rintro⟨h1,h2⟩;have hu:Q6 W2.IE (k:Int):=Q2.2 ⟨Qo,Rh,h1⟩;have:=zk0 kW.w.a.tree hu;rw[sG] at this;rw[this,h1,h2] at g;simp at g
   ·simp only[H',I6,bne_eq_false_iff_eq] at g;have hu:Q6 W2.IE (k:Int):=Q2.2 ⟨Qo,Rh,g.1⟩;have hdk:=zk0 kW.w.a.tree hu;rw[sG,g.2] at hdk;rw[C' ⟨g.1,hdk.symm⟩] at W8;have hsl:=kW.w.a.sl hu;have hz:(k:Int)≠0:=Qo;have hp:=kW.w.a.up hu hz;obtain⟨p0,p1,_⟩:=Q2.1 hp;have hpl:=kW.w.a.sl hp;have s1:=kW.w.s _ c hu c0 Qo;have s2:=kW.w.s _ c hp c0 Qo;have lc:=ZF ((Qa W2 (k:Int) c).v-(Qa W2 (gi W2.IE (k:Int)).IG c).IM) (Qa W2 (k:Int) c).w;have lm:=ZN (Qa W2 (k:Int) c).w;have Wn:Ix m.gO W.IE.length (k:Int):=by have:=hr.g.ix (i:=(k:Int)) Qo Rh;rwa[sG] at this
    have AM6:=(hr.g.IH (k:Int) Qo Rh).ix YT c0 Qo;have AG7:=PB (g:=(k:Int)) hr kW.w.a c0 Qo;have B11:=LK (g:=(k:Int)) hr kW.w.a hu c0 Qo;rw[e0] at AG7 B11;have SS:=λs=>zed kW Wz.own hk hu rfl c0 (c:=c) Qo s
    have BK3:∀{vs:List Va},Q0 (QM 8 m) w2 (Rw w2 (m.ms k).sO (Int.toNat c*5) vs):=λ{vs}=>zml Qo
    have vE:=z65 Wz.own Wz.nb (i:=(k:Int)) Qo Qo c0 Qo (j:=0) (k:=5) Qd;simp only[Ig] at SS vE AM6;refine⟨Wn,_,_,_,hr.g.Rn Qo Rh,AM6,_,_,_,_,_,(hr.g.IH (k:Int) Qo Rh) c c0 Qo,λb2 cD=>⟨Qv W2 (k:Int) c,AG7,Xu W2 (k:Int) c,λ_=>B11,λg2=>?_,λg2=>?_⟩⟩
    ·have hss:ZH W2 (k:Int) c=⟨(Qa W2 (k:Int) c).IM,Qv W2 (k:Int) c && !Xu W2 (k:Int) c,(Qa W2 (gi W2.IE (k:Int)).IG c).IM+Yg ((Qa W2 (k:Int) c).v-(Qa W2 (gi W2.IE (k:Int)).IG c).IM) (Qa W2 (k:Int) c).w,(Qa W2 (k:Int) c).w,(Qa W2 (k:Int) c).sum⟩:=by
      unfold ZH;rw[C']
      simpa[Qa] using g2
     have SS:=SS (ZH W2 (k:Int) c);rw[hss] at SS;have AG9:Ix m.gO W.IE.length (gi W2.IE (k:Int)).IG:=by have:=hr.g.ix p0 p1;rwa[sG] at this
     refine⟨Wn,_,hr.g.IG Qo Rh,AG9,_,_,_,hr.g.Rn p0 p1,(hr.g.IH _ p0 p1).ix YT c0 Qo,_,zm2.f (hr.g.IH _ p0 p1) c0 Qo (j:=0) rfl,⟨by show _<=(Qa W2 (k:Int) c).v-(Qa W2 (gi W2.IE (k:Int)).IG c).IM;omega,by show (Qa W2 (k:Int) c).v-(Qa W2 (gi W2.IE (k:Int)).IG c).IM<=_;omega⟩,_,KD,⟨?_,?_⟩,Wn,_,_,_,hr.g.Rn Qo Rh,AM6,vE,⟨Qo,Qo⟩,λw3 Rl _=>Qw Qo ⟨Qo,Qo,?_⟩⟩
     ·show -9223372036854775808<=(Qa W2 (gi W2.IE (k:Int)).IG c).IM+Yg ((Qa W2 (k:Int) c).v-(Qa W2 (gi W2.IE (k:Int)).IG c).IM) (Qa W2 (k:Int) c).w;omega
     ·show (Qa W2 (gi W2.IE (k:Int)).IG c).IM+Yg ((Qa W2 (k:Int) c).v-(Qa W2 (gi W2.IE (k:Int)).IG c).IM) (Qa W2 (k:Int) c).w<=9223372036854775807;omega
     ·rw[W8,hss];exact(Wz.Ss SS BK3).step Rl
    ·have hss:ZH W2 (k:Int) c=⟨(Qa W2 (k:Int) c).IM,Qv W2 (k:Int) c && !Xu W2 (k:Int) c,(Qa W2 (k:Int) c).v,(Qa W2 (k:Int) c).w,(Qa W2 (k:Int) c).sum⟩:=by
      unfold ZH;rw[B'];intro h1;rw[h1.1,show (gi (gi W2.IE (k:Int)).IH c).on=false from h1.2] at g2;cases g2
     have SS:=SS (ZH W2 (k:Int) c);rw[hss] at SS;refine⟨Wn,_,_,_,hr.g.Rn Qo Rh,AM6,vE,⟨Qo,Qo⟩,λw3 Rl _=>Qw Qo ⟨Qo,Qo,?_⟩⟩;rw[W8,hss];exact(Wz.Ss SS BK3).step Rl
  ·have RM:=Ou RM;have hN8:=hN8 Qo;refine⟨⟨Qo,Qo⟩,λw3 Rl _=>⟨⟨j+1,?_,Qo,?_⟩,?_⟩⟩
   ·rw[show d-1=3-((j+1:Nat):Int) by omega]
   ·rw[hN8];exact Wz.step Rl
   ·show (d-1).toNat<d.toNat;omega
 ·have hd:=Ou hd;rw[<-hE Qo];exact λw2 Rk=>⟨rfl,(hM.step Rk).close⟩
end
def OQ{n:Nat}{m:MW}{i:Nat}{p:MG}:∀x∈QM n (GK m i p),x∈QM n m\/x∈Qt p:=λx hx=>by
 rcases AI hx with h|h|h|⟨k,hk,h⟩
 ·exact .inl (zej h)
 ·exact .inl (zel h)
 ·exact .inl (zek h)
 ·simp only[GK] at h
  split at h
  ·exact .inr h
  ·exact .inl (UB hk h)
def Mv.swap{n base:Nat}{bs:List Nat}{w0 w w':Wo}{W W':Q7}{m0 m m':MW}(h:Mv n base bs w0 m0 w W m)(k:Zp n base w' W' m')(hx:Q0 (QM n m) w w')(hm:m'={ m with ms:=m'.ms })(BK3:∀x∈QM n m',x∈QM n m\/(w0.heap.size<=x/\x∉bs)):Mv n base bs w0 m0 w' W' m':=
 ⟨k,h.ext.fresh hx λx hm=>(h.sub x hm).symm,λx hx=>by
  rcases BK3 x hx with h1|h1
  ·exact h.sub x h1
  ·exact .inr h1.1,by rw[hm,h.hd],λx hx=>by
  rcases BK3 x hx with h1|h1
  ·exact h.nb x h1
  ·exact h1.2,h.new⟩
section
variable {base:Nat}{W:Q7}{m:MW}{w:Wo}
def z6{K:Int}(h:Zp 8 base w W m)(jJ:SW K W)(hK:0<=K){c:Int}(c0:0<=c)(c1:c<(W.IF.length:Int)) :
  Cz OG #[.agg (Qc W m).toArray,I c] w λe w'=>e=.returned (.agg (Qc W m).toArray)/\Mv 8 base [] w m w' (Z4 W c) m:=by
 refine(CU _ _ _ _ _ _ _ _ _ _ c (R:=λv w'=>v=.agg (Qc W m).toArray/\Mv 8 base [] w m w' (Z4 W c) m) ?_).mono λe w' ⟨v,he,hv,h3⟩=>⟨by rw[he,hv],h3⟩
 intro x hx x1 S9;have bU:=jJ.a.gl;refine Jm W.IE.length 0 rfl (λk w2=>k<=8/\Mv 8 base [x,x1] w m w2 (QI W c k) m) (λw2 Rk _=>⟨Qd,(Mv.two h hx S9).R7 Rk⟩) λk w2 V' ⟨hk8,Wz⟩=>?_
 obtain⟨kW,nG⟩:=On jJ hK c0 c1 k hk8;have e0:Qc (QI W c k) m=Qc W m:=U4 nG.fr;have hr:=Wz.rd;have sG:(QI W c k).IE.length=W.IE.length:=nG.g.len;have AQ8:(QI W c k).IF.length=W.IF.length:=by rw[nG.c]
 have W8:QI W c (k+1)=if (gi (QI W c k).IE (k:Int)).IV=true/\Za (QI W c k) (k:Int) c 20/\QZ (QI W c k) (k:Int) c 20>(Qa (QI W c k) (k:Int) c).IM then RC (QI W c k) (k:Int) c (Eo (QI W c k) (k:Int) c) else QI W c k:=rfl;have hN8:k=8->Z4 W c=QI W c k:=λe=>by rw[e];rfl
 generalize QI W c k=W2 at Wz kW nG e0 hr sG AQ8 W8 hN8;refine⟨λIW=>?_,λRM=>?_⟩
 ·have IW:=Ot IW;have Rh:(k:Int)<(W2.IE.length:Int):=Qo;have Wn:Ix m.gO W.IE.length (k:Int):=by have:=hr.g.ix (i:=(k:Int)) Qo Rh;rwa[sG] at this
  refine⟨Wn,(gi W2.IE (k:Int)).IV,hr.g.IV Qo Rh,λg=>?_,λg=>?_⟩
  ·refine⟨⟨Qo,Qo⟩,λw3 Rl _=>Qw Qo ⟨Qo,?_⟩⟩;rw[W8,B' (λh1=>by rw[h1.1] at g;cases g)];exact Wz.step Rl
  ·have g:(gi W2.IE (k:Int)).IV:=by simpa using g
   have hu:Q6 W2.IE (k:Int):=Q2.2 ⟨Qo,Rh,g⟩;have hsl:=kW.a.sl hu;have hle:=Hc (g:=(k:Int)) hr kW.a c0 Qo;rw[e0] at hle;have hss:=hr.g.IH (k:Int) Qo Rh;have AM6:=hss.ix YT c0 Qo;have vE:=z65 Wz.own Wz.nb (i:=(k:Int)) Qo Qo c0 Qo (j:=0) (k:=1) Qd;have SS:=Wz.own.B39 (i:=(k:Int)) Qo Qo c0 Qo (j:=0) (vs:=[I (QZ W2 (k:Int) c 20)]) (x:=Eo W2 (k:Int) c) rfl Qs;rw[<-z3u] at SS;have BK3:Q0 (QM 8 m) w2 (Rw w2 (m.ms k).sO (Int.toNat c*5+0) [I (QZ W2 (k:Int) c 20)]):=zml Qo;simp only[Ig] at vE AM6 SS;refine⟨_,_,hle,λ_=>Wn,_,_,_,λ_=>hr.g.Rn Qo Rh,λ_=>AM6,_,λ_=>zm2.f hss c0 Qo (j:=0) rfl,λg2=>?_,λg2=>?_⟩
   ·refine⟨Wn,_,_,_,hr.g.Rn Qo Rh,AM6,vE,⟨Qo,Qo⟩,λw3 Rl _=>Qw Qo ⟨Qo,?_⟩⟩;rw[W8,C' ⟨g,by simpa[Qa] using g2⟩];exact(Wz.Ss SS BK3).step Rl
   ·refine⟨⟨Qo,Qo⟩,λw3 Rl _=>Qw Qo ⟨Qo,?_⟩⟩;rw[W8,B']
    ·exact Wz.step Rl
    ·rintro⟨_,h1,h2⟩;rw[h1,show decide (QZ W2 (k:Int) c 20>(gi (gi W2.IE (k:Int)).IH c).IM)=true from Ih h2] at g2;cases g2
 ·have RM:=Ou RM;rw[hN8 Qo];exact λw3 Rl=>⟨rfl,(Wz.step Rl).close⟩
def Gd.Cc9{bs:List Nat}{w:Wo}{gs:List ZD}{ms:Nat->MG}{o:OA}(h:Gd bs w o gs ms){i:Int}(h0:0<=i)(h1:i<(gs.length:Int)):Q1 bs w o (Int.toNat i*14+8+3) [.slice (ms i.toNat).lO (gi gs i).IL.locals.length (ms i.toNat).lC]:=(h.cells i h0 h1).get 11 _ rfl
def Gd.quo{bs:List Nat}{w:Wo}{gs:List ZD}{ms:Nat->MG}{o:OA}(h:Gd bs w o gs ms){i:Int}(h0:0<=i)(h1:i<(gs.length:Int)):Q1 bs w o (Int.toNat i*14+8+0) [I (gi gs i).IL.I']:=(h.cells i h0 h1).get 8 _ rfl
def KH(m:MG)(p:MG):MG:=⟨p.lO,p.lC,p.dO,p.dC,m.sO,m.sC⟩
def OO{m p:MG}:∀x∈Qt (KH m p),x∈YK p\/x∈Qt m:=λx hx=>by
 simp only[Qt,KH,YK,Im] at hx ⊢;rcases hx with (h|h)|h
 ·exact .inl (.inl h)
 ·exact .inl (.inr h)
 ·exact .inr (.inr h)
def Zp.B36{n:Nat}(h:Zp n base w W m){i:Int}(h0:0<=i)(hi:i<(n:Int)){b:Um}{p:MG}(hb:Zz base w b p)(hn:∀x∈YK p,x∉QM n m) :
  Zp n base (Rw w m.gO (Int.toNat i*14+8) (ZI b p)) (RF W i b) (GK m i.toNat (KH (m.ms i.toNat) p)):=by
 have hm:=h.each h0 hi;refine h.Bt5 h0 hi (g:={ gi W.IE i with IL:=b }) (p:=KH (m.ms i.toNat) p) ⟨hb.loc,hb.Ry,hm.shl⟩ (λx hx=>?_) rfl (by simp[ZI]);rcases OO x hx with h1|h1
 ·exact .inl (hn x h1)
 ·exact .inr h1
def zhm{F K:Int}(h:Zp 8 base w W m)(jJ:SF F K W)(tE:base<=w.heap.size) :
  Cz Ms #[.agg (Qc W m).toArray] w λe w'=>∃m',e=.returned (.agg (Qc W m).toArray)/\Mv 8 base [] w m w' (PK W) m':=by
 refine(zg6 _ _ _ _ _ _ _ _ _ _ (R:=λv w'=>∃m',v=.agg (Qc W m).toArray/\Mv 8 base [] w m w' (PK W) m') ?_).mono λe w' ⟨v,he,m',hv,h3⟩=>⟨m',by rw[he,hv],h3⟩
 intro x hx x1 S9;have bU:=jJ.w.a.gl;have CV1:=jJ.w.a.c2;have Aw8:=YM hx S9;refine Jm W.IE.length 0 rfl (λk w2=>k<=8/\∃m2,Mv 8 base [x,x1] w m w2 (Zv W k) m2) (λw2 Rk _=>⟨Qd,m,(Mv.two h hx S9).R7 Rk⟩) λk w2 V' ⟨hk8,m2,Wz⟩=>?_
 obtain⟨kW,nG⟩:=JP jJ k hk8;have sG:(Zv W k).IE.length=W.IE.length:=nG.g.len;have AQ8:(Zv W k).IF.length=W.IF.length:=by rw[nG.c]
 have W8:Zv W (k+1)=if (gi (Zv W k).IE (k:Int)).IV=true/\(gi (Zv W k).IE (k:Int)).IL.I'≠0 then Ze (Zv W k) (k:Int) (Zv W k).IF.length else Zv W k:=rfl;have hN8:k=8->PK W=Zv W k:=λe=>by rw[e];rfl
 generalize Zv W k=W2 at Wz kW nG sG AQ8 W8 hN8;have hmg:m2.gO=m.gO:=by rw[Wz.hd]
 have hr:=Wz.rd;refine⟨λIW=>?_,λRM=>?_⟩
 ·have IW:=Ot IW;have Rh:(k:Int)<(W2.IE.length:Int):=Qo;have Wn:Ix m.gO W.IE.length (k:Int):=by have:=hr.g.ix (i:=(k:Int)) Qo Rh;rwa[sG,hmg] at this
  have hru:=hr.g.IV (i:=(k:Int)) Qo Rh;have hrq:=hr.g.quo (i:=(k:Int)) Qo Rh;rw[hmg] at hru hrq;refine⟨Wn,(gi W2.IE (k:Int)).IV,hru,λ_=>Wn,_,λ_=>hrq,λg=>?_,λg=>?_⟩
  ·refine⟨⟨Qo,Qo⟩,λw3 Rl _=>Qw Qo ⟨Qo,m2,?_⟩⟩;rw[W8,B']
   ·exact Wz.step Rl
   ·rintro⟨h1,h2⟩;rw[h1] at g;simp[h2] at g
  ·simp only[H',I6,beq_eq_false_iff_ne] at g;have hu:Q6 W2.IE (k:Int):=Q2.2 ⟨Qo,Rh,g.1⟩;rw[C' ⟨g.1,g.2⟩] at W8;refine Jm W.IF.length 0 rfl (λc w3=>c<=W.IF.length/\∃m3,Mv 8 base [x,x1] w m w3 (Ze W2 (k:Int) c) m3) (λw3 Rl _=>⟨Ic _,m2,Wz.step Rl⟩) λc w3 fY ⟨hc,m3,fX⟩=>?_
   obtain⟨hS3,hO3,hq3⟩:=Mz kW hu g.2 c Qo;have CW2:(Ze W2 (k:Int) c).IE.length=W.IE.length:=by rw[hO3.g.len,sG]
   have CV0:(Ze W2 (k:Int) c).IF.length=W.IF.length:=by rw[hO3.c,AQ8]
   have AB7:Ze W2 (k:Int) (c+1)=if gi (gi (Ze W2 (k:Int) c).IE (k:Int)).IL.locals (c:Int)>0/\Qv (Ze W2 (k:Int) c) (k:Int) (c:Int)=false then RF (Ze W2 (k:Int) c) (k:Int) (Yi (gi (Ze W2 (k:Int) c).IE (k:Int)).IL (c:Int)) else Ze W2 (k:Int) c:=rfl;have hN3:c=W.IF.length->Zv W (k+1)=Ze W2 (k:Int) c:=λe=>by rw[W8,AQ8,e]
   have e3:Qc (Ze W2 (k:Int) c) m3=Qc W m:=fX.AO2 (by rw[hO3.n,nG.n]) CV0 (by rw[hO3.t,nG.t]) CW2;have hu3:Q6 (Ze W2 (k:Int) c).IE (k:Int):=by rw[hO3.g.aO];exact hu
   generalize Ze W2 (k:Int) c=W3 at fX hS3 hO3 hq3 CW2 CV0 AB7 hN3 e3 hu3;have CY1:m3.gO=m.gO:=by rw[fX.hd]
   have hr3:=fX.rd;refine⟨λCX9=>?_,λBc9=>?_⟩
   ·have CX9:=Ot CX9;obtain⟨u0,u1,kJ⟩:=hS3.w.a.u hu3;obtain⟨hb,vI,_⟩:=kJ.IL hq3;have Ab4:(k:Int)<(W3.IE.length:Int):=Qo;have hrl:=hr3.g.Cc9 (i:=(k:Int)) Qo Ab4;have hrb:=hr3.g.IL (i:=(k:Int)) Qo Ab4;rw[CY1] at hrl hrb;have hLo:=hr3.g.locals (k:Int) Qo Ab4;have hDo:=hr3.g.Ry (k:Int) Qo Ab4;have AG7:=PB (g:=(k:Int)) (c:=(c:Int)) hr3 hS3.w.a Qo Qo;rw[e3] at AG7;refine⟨Wn,_,_,_,hrl,hLo.ix XU Qo Qo,_,hLo (c:Int) Qo Qo,_,λ_=>AG7,λg3=>?_,λg3=>?_⟩
    ·simp only[A',Ij,ID] at g3;rw[C' g3] at AB7;refine⟨Wn,_,_,_,_,_,_,_,_,_,hrb,λRD Rl dT=>?_⟩;have cM:=fX.step Rl;have hr4:=cM.rd0;refine I3 (Vh (op:=⟨3,(c:Int),0⟩) hb (hr4.g.locals (k:Int) Qo Ab4) (hr4.g.Ry (k:Int) Qo Ab4)) ?_;rintro e RI ⟨p,he,hO,hy⟩
     have eI:ZP (gi W3.IE (k:Int)).IL ⟨3,(c:Int),0⟩=(Yi (gi W3.IE (k:Int)).IL (c:Int),0):=by
      unfold ZP;rw[B' (show ¬(3:Int)=4 by decide),B' (by rw[Qu.2 (by show 0<=(c:Int)/\(c:Int)<=_;omega)];decide),B' (show ¬(3:Int)=1 by decide),B' (show ¬(3:Int)=2 by decide),C' rfl]
     rw[eI] at he hO
     dsimp only at he hO
     have nM:=cM.R7 hy;have hbs:base<=RD.heap.size:=by have:=cM.ext.size;omega
     have hOb:∀y∈YK p,RD.heap.size<=y:=λy hy=>(hO.lt y hy).1
     have BK0:=nM.own.B36 (i:=(k:Int)) Qo Qo (hO.mono hbs) (λy hy hm=>by have:=hOb y hy;have:=(cM.own.lt y hm).2;omega);have vE:=zrw nM.own nM.nb (i:=(k:Int)) Qo Qo (j:=8) (k:=5) Qd;have sI:=cM.ext.size
     have jX:=nM.swap BK0 Ag rfl λy hy=>by
      rcases OQ y hy with h1|h1
      ·exact .inl h1
      ·rcases OO y h1 with h2|h2
       ·have:=hOb y h2;exact .inr ⟨Qo,λhm=>by have:=dT y hm;omega⟩
       ·exact .inl (UB Qo h2)
     rw[CY1] at vE jX;refine⟨_,_,_,_,_,_,_,_,_,_,he,Qi hy dT,λb2 cD=>⟨Wn,vE,⟨Qo,Qo⟩,λw5 Su _=>Qw (w1:=w3) Qo ⟨Qo,GK m3 (Int.toNat (k:Int)) (KH (m3.ms (Int.toNat (k:Int))) p),?_⟩⟩⟩;rw[AB7];exact jX.step Su
    ·refine⟨⟨Qo,Qo⟩,λw5 Su _=>Qw Qo ⟨Qo,m3,?_⟩⟩;rw[AB7,B']
     ·exact fX.step Su
     ·rintro⟨h1,h2⟩;rw[h2,Ih h1] at g3;cases g3
   ·have Bc9:=Ou Bc9;refine⟨⟨Qo,Qo⟩,λw5 Su _=>Qw Qo ⟨Qo,m3,?_⟩⟩;rw[hN3 Qo];exact fX.step Su
 ·have RM:=Ou RM;rw[hN8 Qo];exact λw3 Rl=>⟨m2,rfl,(Wz.step Rl).close⟩
end
section
variable {base:Nat}{W:Q7}{m:MW}{w:Wo}
def LH{W W':Q7}(h:Fr W W'):W'.IF.length=W.IF.length/\W'.IJ.length=W.IJ.length/\W'.IE.length=W.IE.length:=⟨h.c,by rw[h.t],h.g.len⟩
def zqe{n:Nat}{bs:List Nat}{w0 w:Wo}{W0 W:Q7}{m0 m:MW}(h:Mv n base bs w0 m0 w W m)(hf:Fr W0 W):Qc W m=Qc W0 m0:=h.AO2 hf.n hf.c (by rw[hf.t]) hf.g.len
def QA{K:Int}(h:Zp 8 base w W m)(jJ:SW K W)(hK0:0<=K)(hK:K<=100000000000000000)(tE:base<=w.heap.size) :
  Cz Qn #[.agg (Qc W m).toArray] w λe w'=>∃m',e=.returned (.agg (Qc (Qb W) m').toArray)/\Mv 8 base [] w m w' (Qb W) m':=by
 refine(CX _ _ _ _ _ _ _ _ _ _ (R:=λv w'=>∃m',v=.agg (Qc (Qb W) m').toArray/\Mv 8 base [] w m w' (Qb W) m') ?_).mono λe w' ⟨v,he,m',hv,h3⟩=>⟨m',by rw[he,hv],h3⟩
 intro x hx x1 S9;have bU:=jJ.a.gl;have CV1:=jJ.a.c2;have hm9:=Y5;refine⟨λvs w1=>∃(k:Nat),vs=I (k:Int)::Qc W m/\k<=W.IF.length/\Mv 8 base [x,x1] w m w1 (Z2 W k) m,ZG W.IF.length 0,λw1 sJ _=>⟨0,rfl,Ic _,(Mv.two h hx S9).R7 sJ⟩,?_⟩;rintro c1 l S8 Si Sp Se Sk Sn Sf Sg Sh RI V' ⟨k,he,hk,hM⟩;obtain⟨hS,hO⟩:=T3 (F:=K) (K:=K+Qh) (jJ.sf.mono (I2 _) (by simp only[Qh];omega)) (I2 _) k hk;have W8:Z2 W (k+1)=QF (Z2 W k) (k:Int):=rfl;have sF:k=W.IF.length->Z2 W W.IF.length=Z2 W k:=λe=>by rw[e]
 have e0:=zqe hM hO.fr;obtain⟨n1,n2,n3⟩:=LH hO.fr;simp only[Qc,I4,I5,Iv,true_and,and_true] at he;obtain⟨rfl,rfl,⟨rfl,rfl,rfl⟩,⟨rfl,rfl,rfl⟩,rfl,rfl,rfl⟩:=he;generalize Z2 W k=W1 at hM hS hO W8 sF e0 n1 n2 n3;refine⟨λIW RD Rl fY=>?_,λRM RQ Su fK=>?_⟩
 ·have IW:=Ot IW;have fX:=hM.step Rl;have RA:=Hd fX.own hS Qo (by simp only[Qh];omega) (c:=(k:Int)) Qo Qo;rw[e0] at RA;refine I3 RA ?_;rintro e S3 ⟨he,hy⟩;refine⟨_,_,_,_,_,_,_,_,_,_,he,fX.kept hy fY,⟨Qo,Qo⟩,λRE T' _=>⟨⟨k+1,rfl,Qo,?_⟩,?_⟩⟩
  ·rw[W8];exact(fX.call hy fY).step T'
  ·simp only[ZG,Xt,Ye,Ie];omega
 ·have RM:=Ou RM;have hkk:k=W.IF.length:=Qo;have sF:=sF hkk;have nM:=hM.step Su;have hb5:base<=RQ.heap.size:=by have:=nM.ext.size;omega
  have RA:=zhm nM.own hS hb5;rw[e0] at RA;refine I3 RA ?_;rintro e2 bG ⟨m4,bH,SQ⟩;obtain⟨hS4,hO4⟩:=JP hS 8 Qd;have jX:=nM.call SQ fK;have SS:Qb W=YB (PK W1) W.IF.length:=by unfold Qb;rw[sF]
  have hf4:Fr W (PK W1):=hO.fr.trans hO4.fr;have CT8:SW (K+Qh) (PK W1):=hS4.w;have CX4:=LH hf4;generalize PK W1=W4 at jX SS hf4 CT8 CX4;refine⟨_,_,_,_,_,_,_,_,_,_,bH,nM.kept SQ fK,λvs w1=>∃(k:Nat) (m1:MW),vs=I (k:Int)::Qc W m/\k<=W.IF.length/\Mv 8 base [x,x1] w m w1 (YB W4 k) m1,ZG W.IF.length 0,λw1 sJ _=>⟨0,m4,rfl,Ic _,jX.step sJ⟩,?_⟩;rintro c3 l S8 Si Sp Se Sk Sn Sf Sg Sh fB sH ⟨k,m7,he,hk,lR⟩;obtain⟨hS7,hf7⟩:=Pi CT8 (by simp only[Qh];omega) k Qo;have AQ9:YB W4 (k+1)=Xs (YB W4 k) (k:Int):=rfl;have AR1:k=W.IF.length->Qb W=YB W4 k:=λe=>by rw[SS,e]
  have hfW:=hf4.trans hf7;have e7:=zqe lR hfW;obtain⟨q1,q2,q3⟩:=LH hfW;simp only[Qc,I4,I5,Iv,true_and,and_true] at he;obtain⟨rfl,rfl,⟨rfl,rfl,rfl⟩,⟨rfl,rfl,rfl⟩,rfl,rfl,rfl⟩:=he;generalize YB W4 k=W7 at lR hS7 hf7 AQ9 AR1 hfW e7 q1 q2 q3;refine⟨λIW WL kL hs9=>?_,λRM=>?_⟩
  ·have IW:=Ot IW;have hM9:=lR.step kL;have hk4:(k:Int)<=4:=Qo;have hKb:K+Qh+(k:Int)*Qh+Qh<=1000000000000000000:=by simp only[Qh];omega
   have oM:(k:Int)<(W7.IF.length:Int):=Qo;have hSF:=hS7.sf.mono (F':=K+Qh+(k:Int)*Qh) (K':=K+Qh+(k:Int)*Qh+Qh) (I2 _) (by simp only[Qh];omega);have RA:=Hd hM9.own hSF (I2 _) hKb (c:=(k:Int)) Qo oM;rw[e7] at RA;refine I3 RA ?_;rintro e4 sA ⟨he4,iD⟩;obtain⟨hS8,hO8⟩:=HP hSF (I2 _) (c:=(k:Int)) Qo oM;have hM8:=hM9.call iD hs9;refine⟨_,_,_,_,_,_,_,_,_,_,he4,hM9.kept iD hs9,λSq AC2 oP=>?_⟩;have BJ0:=hM8.step AC2;have cE:Xs W7 (k:Int)=if P9 (Z4 (QF W7 (k:Int)) (k:Int)) (k:Int)=true then Rc (Z4 (QF W7 (k:Int)) (k:Int)) (k:Int) else Z4 (QF W7 (k:Int)) (k:Int):=rfl;have c2':(k:Int)<((QF W7 (k:Int)).IF.length:Int):=by rw[hO8.c];exact oM
   have Bo2:=z6 BJ0.own hS8.w (by simp only[Qh];omega) (c:=(k:Int)) Qo c2';rw[U4 hO8.fr,e7] at Bo2;obtain⟨CF1,CF0⟩:=On hS8.w (by simp only[Qh];omega) (c:=(k:Int)) Qo c2' 8 Qd;refine I3 Bo2 ?_;rintro e5 uO ⟨he5,hy5⟩;have Ab2:=BJ0.call hy5 oP;have BI9:=BJ0.kept hy5 oP;have Bc5:Fr W (Z4 (QF W7 (k:Int)) (k:Int)):=(hfW.trans hO8.fr).trans CF0.fr;have tD:SW (K+Qh+(k:Int)*Qh+Qh) (Z4 (QF W7 (k:Int)) (k:Int)):=CF1;generalize Z4 (QF W7 (k:Int)) (k:Int)=W11 at Ab2 Bc5 tD cE;have e11:=zqe Ab2 Bc5;have B18:m7.cO=m.cO/\m7.tO=m.tO:=by rw[lR.hd];exact⟨rfl,rfl⟩
   obtain⟨r1,r2,r3⟩:=LH Bc5;have hr:=Ab2.rd;have c3':(k:Int)<(W11.IF.length:Int):=Qo;have qU:=tD.cu (k:Int) Qo c3';have jF:=tD.a.t;have CX0:=hr.c.ix Y1 (i:=(k:Int)) Qo c3';have hrC:=hr.c.f (i:=(k:Int)) Qo c3' (j:=1) rfl
   have hT:(decide ((gi W11.IF (k:Int)).cur>=0))->0<=(gi W11.IF (k:Int)).cur/\(gi W11.IF (k:Int)).cur<(W11.IJ.length:Int):=λg=>by
    have:=Ot g;exact⟨this,Qo⟩
   have kK:∀g:(decide ((gi W11.IF (k:Int)).cur>=0)),PX [x,x1] YW #[.agg (Qc W m).toArray,I (gi W11.IF (k:Int)).cur] uO (.bool (Zf W11 (gi W11.IF (k:Int)).cur)):=λg=>by
    have:=Vy hr tD.a (hT g).1 (hT g).2 (λhs=>tD.li (hT g).1 (hT g).2 hs)
    rwa[e11] at this
   rw[r1,B18.1] at CX0;rw[B18.1] at hrC;refine⟨_,_,_,_,_,_,_,_,_,_,he5,BI9,CX0,_,hrC,λg=>?_,(Q8 W11 (gi W11.IF (k:Int)).cur).R1,λg=>?_,Zf W11 (gi W11.IF (k:Int)).cur,λ_ g=>kK g,λg Sr wA AC0=>?_,λg=>?_⟩
   ·have:=hr.t.ix QT (hT g).1 (hT g).2
    rwa[r2,B18.2] at this
   ·have:=hr.t.f (hT g).1 (hT g).2 (j:=2) rfl
    rwa[B18.2] at this
   ·have BJ1:=Ab2.step wA;have Bo3:=ZS BJ1.own (c:=(k:Int)) Qo c3';rw[e11] at Bo3;refine I3 Bo3 ?_;rintro e6 fA ⟨he6,hy6⟩;have e12:=U4 (m:=m7) (Nn W11 (k:Int));rw[e11] at e12;rw[e12] at he6;refine⟨_,_,_,_,_,_,_,_,_,_,he6,BJ1.kept hy6 AC0,⟨Qo,Qo⟩,λSA wB _=>⟨⟨k+1,m7,rfl,Qo,?_⟩,?_⟩⟩
    ·rw[AQ9,cE,C' (by unfold P9;exact g)];exact(BJ1.call hy6 AC0).step wB
    ·simp only[ZG,Xt,Ye,Ie];omega
   ·refine⟨⟨Qo,Qo⟩,λSA wB _=>⟨⟨k+1,m7,rfl,Qo,?_⟩,?_⟩⟩
    ·rw[AQ9,cE,B' (by unfold P9;rw[g];decide)];exact Ab2.step wB
    ·simp only[ZG,Xt,Ye,Ie];omega
  ·have RM:=Ou RM;have AR1:=AR1 Qo;rw[AR1];refine λw9 kL=>⟨m7,?_,(lR.step kL).close⟩
   rw[e7];rfl
end
def YC{n:Int}{w:Wo}{bs:List Nat}:PX bs ZK #[I n] w (.bool (decide (n<=Ql))):=zic n λwr hx=>rfl
section
variable {W:Q7}{m:MW}{w:Wo}{bs:List Nat}
def L8(h:XV bs w W m)(hl:VB W):PX bs U9 #[.agg (Qc W m).toArray] w (.bool (U0 (XQ W/\Ge W))):=
 NX _ _ _ _ _ _ _ _ _ _ λwr hx=>by
  have h:=(h.ext hx).less (cs:=[]) Qs;intro x hx;refine⟨_,Uy h hl.c hl.t hl.g hl.f,_,λ_=>YC,λg=>GB ?_,λg=>?_⟩
  ·rintro⟨wp,r⟩;rw[show Qr W=true from Qm.2 wp,show decide (W.now<=Ql)=true from Ih r.n] at g;cases g
  ·simp only[H',I6] at g;have wp:XQ W:=Qm.1 g.1;have CY8:=Ot g.2;have bU:=wp.a.gl;have jF:=wp.a.t;have qT:=wp.a.c2;refine X7 W.IF.length 0 rfl (λk=>k<=W.IF.length/\∀c:Int,0<=c->c<(k:Int)->(gi W.IF c).busy<=Ql/\(gi W.IF c).idle<=Ql) ⟨Ic _,λc a b=>by omega⟩ λk ⟨hk,hI⟩=>⟨λIW=>?_,λRM=>?_⟩
   ·have IW:=Ot IW;refine⟨h.c.ix Y1 Qo IW,_,h.c.f Qo IW (j:=3) rfl,_,YC,λ_=>h.c.ix Y1 Qo IW,_,λ_=>h.c.f Qo IW (j:=4) rfl,_,λ_=>YC,λg2=>GB ?_,λg2=>⟨⟨Qo,Qo⟩,QB Qo ⟨Qo,λc a b=>?_⟩⟩⟩
    ·rintro⟨_,r⟩;have:=r.c (k:Int) Qo IW;rw[Ih this.1,Ih this.2] at g2;cases g2
    ·by_cases e:c=(k:Int)
     ·subst e;simp only[H',I6] at g2;exact⟨Ot g2.1,Ot g2.2⟩
     ·exact hI c a Qo
   have RM:=Ou RM;have hC:∀c:Int,0<=c->c<(W.IF.length:Int)->(gi W.IF c).busy<=Ql/\(gi W.IF c).idle<=Ql:=λc a b=>hI c a Qo
   clear hI;refine X7 W.IJ.length 0 rfl (λk=>k<=W.IJ.length/\∀t:Int,0<=t->t<(k:Int)->(gi W.IJ t).v<=Ql/\(gi W.IJ t).sum<=Ql/\(gi W.IJ t).IV<=Ql) ⟨Ic _,λc a b=>by omega⟩ λk ⟨hk,hI⟩=>⟨λIW=>?_,λRM=>?_⟩
   ·have IW:=Ot IW;have Wn:=h.t.ix QT (i:=(k:Int)) Qo IW;refine⟨Wn,_,h.t.f Qo IW (j:=5) rfl,_,YC,λ_=>Wn,_,λ_=>h.t.f Qo IW (j:=6) rfl,_,λ_=>YC,λ_=>Wn,_,λ_=>h.t.f Qo IW (j:=7) rfl,_,λ_=>YC,λg2=>GB ?_,λg2=>⟨⟨Qo,Qo⟩,QB Qo ⟨Qo,λc a b=>?_⟩⟩⟩
    ·rintro⟨_,r⟩;have:=r.t (k:Int) Qo IW;rw[Ih this.1,Ih this.2.1,Ih this.2.2] at g2;cases g2
    ·by_cases e:c=(k:Int)
     ·subst e;simp only[H',I6] at g2;exact⟨Ot g2.1.1,Ot g2.1.2,Ot g2.2⟩
     ·exact hI c a Qo
   have RM:=Ou RM;have hT:∀t:Int,0<=t->t<(W.IJ.length:Int)->(gi W.IJ t).v<=Ql/\(gi W.IJ t).sum<=Ql/\(gi W.IJ t).IV<=Ql:=λc a b=>hI c a Qo
   clear hI;refine X7 W.IE.length 0 rfl (λk=>k<=W.IE.length/\∀j:Int,0<=j->j<(k:Int)->(gi W.IE j).sum<=Ql/\∀c:Int,0<=c->c<((gi W.IE j).IH.length:Int)->(Qa W j c).IM<=Ql/\(Qa W j c).v<=Ql/\(Qa W j c).sum<=Ql) ⟨Ic _,λc a b=>by omega⟩ λk ⟨hk,hI⟩=>⟨λIW=>?_,λRM=>?_⟩
   ·have IW:=Ot IW;have Wn:=h.g.ix (i:=(k:Int)) Qo IW
    have hsl:(gi W.IE (k:Int)).IH.length<=4:=by
     have:=wp.a.grp (k:Int) Qo Qo
     cases hu:(gi W.IE (k:Int)).IV with
     |true=>have:=(this.2 hu).len;omega
     |false=>have:=(this.1 hu).l;omega
    refine⟨Wn,_,(h.g.cells (k:Int) Qo IW).get 7 _ rfl,_,YC,λg2=>GB ?_,λg2=>?_⟩
    ·rintro⟨_,r⟩;have:=r.g (k:Int) Qo IW;rw[Ih this] at g2;cases g2
    have g2:(gi W.IE (k:Int)).sum<=Ql:=by simpa using g2
    have hrs:=h.g.IH (k:Int) Qo IW;refine X7 (gi W.IE (k:Int)).IH.length 0 rfl (λq=>q<=(gi W.IE (k:Int)).IH.length/\∀c:Int,0<=c->c<(q:Int)->(Qa W (k:Int) c).IM<=Ql/\(Qa W (k:Int) c).v<=Ql/\(Qa W (k:Int) c).sum<=Ql) ⟨Ic _,λc a b=>by omega⟩ λq ⟨hq,hJ⟩=>⟨Wn,_,_,_,h.g.Rn Qo IW,λRh=>?_,λaX=>?_⟩
    ·have Rh:=Ot Rh;refine⟨Wn,_,_,_,h.g.Rn Qo IW,hrs.ix YT Qo Rh,_,_,_,_,_,hrs (q:Int) Qo Rh,λb1 bY=>⟨_,YC,_,λ_=>YC,_,λ_=>YC,λg3=>GB ?_,λg3=>⟨⟨Qo,Qo⟩,QB Qo ⟨Qo,λc a b=>?_⟩⟩⟩⟩
     ·rintro⟨_,r⟩;have:=r.s (k:Int) (q:Int) Qo IW Qo Rh;unfold Qa at this;rw[Ih this.1,Ih this.2.1,Ih this.2.2] at g3;cases g3
     ·by_cases e:c=(q:Int)
      ·subst e;simp only[H',I6] at g3;exact⟨Ot g3.1.1,Ot g3.1.2,Ot g3.2⟩
      ·exact hJ c a Qo
    ·have aX:=Ou aX;refine⟨⟨Qo,Qo⟩,QB Qo ⟨Qo,λj a b=>?_⟩⟩
     by_cases e:j=(k:Int)
     ·subst e;exact⟨g2,λc a b=>hJ c a Qo⟩
     ·exact hI j a Qo
   ·have RM:=Ou RM;exact zph ⟨wp,⟨CY8,hC,hT,λj a b=>(hI j a Qo).1,λj c a b c0 c1=>(hI j a Qo).2 c c0 c1⟩⟩
def JU{t:Int}(h:XV bs w W m)(hl:W.IJ.length<=maxLen):PX bs X6 #[.agg (Qc W m).toArray,I t] w (.bool (Yn W t)):=
 zie _ _ _ _ _ _ _ _ _ _ t λwr hx=>by
  have h:=(h.ext hx).less (cs:=[]) Qs;intro x hx;have:=XX;refine⟨⟨Qo,Qo⟩,_,Qq,λg=>?_,_,λg=>?_,rfl⟩
  ·have:=Qu.1 g;exact h.t.ix QT Qo Qo
  ·have:=Qu.1 g;exact h.t.f Qo Qo (j:=0) rfl
end
structure BG (base:Nat) (bs:List Nat) (w:Wo) (o:OA) (cap:Nat) (ps:List (ZD×MG)):Prop where
 own:Lw base w o cap ps
 nb:∀x∈QL o,x∉bs
 nm:∀i:Int,0<=i->i<(ps.length:Int)->∀x∈Qt (gi ps i).2,x∉bs
section
variable {base:Nat}{bs cs:List Nat}{w w':Wo}{o:OA}{cap:Nat}{ps:List (ZD×MG)}{b:Nat}
def BG.lt(h:BG base bs w o cap ps):(∀x∈QL o,base<=x/\x<w.heap.size)/\∀i:Int,0<=i->i<(ps.length:Int)->∀x∈Qt (gi ps i).2,base<=x/\x<w.heap.size:=⟨h.own.row.lt,λi a b=>(h.own.each i a b).lt⟩
def BG.ext(h:BG base bs w o cap ps)(hx:Q0 cs w w')(h1:∀x∈QL o,x∉cs)(h2:∀i:Int,0<=i->i<(ps.length:Int)->∀x∈Qt (gi ps i).2,x∉cs):BG base bs w' o cap ps:=
 ⟨⟨h.own.row.ext hx h1,λi a b=>(h.own.each i a b).ext hx (h2 i a b),h.own.dj⟩,h.nb,h.nm⟩
def BG.step(h:BG base bs w o cap ps)(hx:Q0 bs w w'):BG base bs w' o cap ps:=h.ext hx h.nb h.nm
def BG.R7(h:BG base bs w o cap ps)(hx:Q0 [] w w'):BG base bs w' o cap ps:=h.ext hx Qs Qs
def BG.add(h:BG base bs w o cap ps)(hb:w.heap.size<=b):BG base (bs++[b]) w o cap ps:=
 have key:∀x,x<w.heap.size->x∉bs->x∉bs++[b]:=λx hl hx hm=>by
  rcases Im.1 hm with hm|hm
  ·exact hx hm
  ·have:x=b:=by simpa using hm
   omega
 ⟨h.own,λx hx=>key x (h.lt.1 x hx).2 (h.nb x hx),λi a c x hx=>key x (h.lt.2 i a c x hx).2 (h.nm i a c x hx)⟩
def BG.put(h:BG base bs w o cap ps)(hx:Q0 bs w w')(hb:w.heap.size<=b):BG base (bs++[b]) w' o cap ps:=⟨(h.step hx).own,(h.add hb).nb,(h.add hb).nm⟩
def BG.sub(h:BG base bs w o cap ps)(hs:∀x∈cs,x∈bs):BG base cs w o cap ps:=⟨h.own,λx hx hm=>h.nb x hx (hs x hm),λi a c x hx hm=>h.nm i a c x hx (hs x hm)⟩
def BG.nil(base:Nat)(bs:List Nat)(w:Wo):BG base bs w none 0 []:=⟨⟨.inl ⟨rfl,rfl,rfl⟩,λi a b=>by simp at b;omega,λi j a b=>by simp at b;omega⟩,by simp[QL],λi a b=>by simp at b;omega⟩
def z4j{α:Type}[Inhabited α]{l:List α}{x:α}{i:Int}(h0:0<=i)(h1:i<(l.length:Int)):gi (l++[x]) i=gi l i:=by
 obtain⟨k,rfl⟩:=Int.eq_ofNat_of_zero_le h0;rw[Ju (by simp;omega),Ju Qo,List.getElem_append_left]
def z1g{α:Type}[Inhabited α]{l:List α}{x:α}:gi (l++[x]) (l.length:Int)=x:=by
 rw[Ju Qs];simp
def BG.AG3{p:ZD×MG}{t':TypeId}{fz:Nat×Nat}(h:BG base bs w o cap ps)(hs:∀x∈bs,x<w.heap.size)(tE:base<=w.heap.size)(hp:PR base w p)(hpb:∀x∈Qt p.2,x∉bs)(hd:∀i:Int,0<=i->i<(ps.length:Int)->∀x∈Qt (gi ps i).2,x∉Qt p.2)(hb:w.heap[b]? = some (.cells (Om p).toArray t' fz))(h1:Zk (Om p))(hl:ps.length<=1048576)(tr:TypeId)(cs:Array Bool) :
  ∃o' qO w',(builtin .append #[QE,QE] tr cs #[.slice o ps.length cap,.slice (some ⟨b,0,none⟩) 1 1]).run Tryz.prog w=.ok (.value (.slice o' (ps++[p]).length qO)) w'/\Q9 bs w w'/\BG base bs w' o' qO (ps++[p])/\Q0 (QL o) w w':=by
 obtain⟨o2,c2,w2,We,hk,hO,hx⟩:=Ob.AG3 YG PE (⟨h.own.row,h.nb⟩:Ob Om 14 Z0 base bs w o cap ps) hs tE hb h1 hl Qd tr cs;have hlen:(ps++[p]).length=ps.length+1:=Qs
 have BR5:∀i:Int,0<=i->i<((ps++[p]).length:Int)->(i<(ps.length:Int)/\gi (ps++[p]) i=gi ps i)\/(i=(ps.length:Int)/\gi (ps++[p]) i=p):=λi a b=>by
  by_cases e:i<(ps.length:Int)
  ·exact .inl ⟨e,z4j a e⟩
  ·have:i=(ps.length:Int):=Qo;subst this;exact .inr ⟨rfl,z1g⟩
 refine⟨o2,c2,w2,We,hk,⟨⟨hO.own,λi a b=>?_,λi j a b c d e=>?_⟩,hO.nb,λi a b=>?_⟩,hx⟩
 ·rcases BR5 i a b with ⟨hi,hg⟩|⟨hi,hg⟩
  ·rw[hg];exact(h.own.each i a hi).ext hx (Jv h.own.row (h.own.each i a hi))
  ·rw[hg];exact hp.ext hx (Jv h.own.row hp)
 ·rcases BR5 i a b with ⟨hi,hg⟩|⟨hi,hg⟩ <;> rcases BR5 j c d with ⟨hj,hg'⟩|⟨hj,hg'⟩
  ·rw[hg,hg'];exact h.own.dj i j a hi c hj e
  ·rw[hg,hg'];exact hd i a hi
  ·rw[hg,hg'];exact λx hx hm=>hd j c hj x hm hx
  ·omega
 ·rcases BR5 i a b with ⟨hi,hg⟩|⟨hi,hg⟩
  ·rw[hg];exact h.nm i a hi
  ·rw[hg];exact hpb
end
def z6q(g:ZD)(m:MG):Zk (YA g m):=rfl
def KR{W:Q7}(ha:WA W){k:Int}(k0:0<=k)(k1:k<8):(gi W.IE k).IL.Ry.length=(gi W.IE k).IL.locals.length/\(gi W.IE k).IL.locals.length<=4/\(gi W.IE k).IH.length<=4:=by
 have hg:=ha.grp k k0 k1;have hc:=ha.c2
 cases hu:(gi W.IE k).IV with
 |false=>
  have:=hg.1 hu;have hb:=Hm this.b;have:=this.l;omega
 |true=>
  have:=hg.2 hu;have hl:=this.len
  by_cases hq:(gi W.IE k).IL.I'=0
  ·have hb:=Hm (this.none hq).1;omega
  ·have hb:=(this.IL hq).1;have h1:=hb.dl;have h2:=hb.l2;omega
section
variable {W:Q7}{m:MW}{w:Wo}{bs:List Nat}
def O6(W:Q7)(ms:Nat->MG)(k:Nat):List (ZD×MG):=(List.range k).map λ(j:Nat)=>(gi W.IE (j:Int),ms j)
def X8(W:Q7)(ms:Nat->MG)(k:Nat):(O6 W ms k).length=k:=by simp[O6]
def HX{W:Q7}{ms:Nat->MG}{k:Nat}{i:Int}(h0:0<=i)(h1:i<(k:Int)):gi (O6 W ms k) i=(gi W.IE i,ms i.toNat):=by
 obtain⟨j,rfl⟩:=Int.eq_ofNat_of_zero_le h0;rw[Ju (by rw[X8];omega)];simp[O6]
def zvl(W:Q7)(ms:Nat->MG)(k:Nat)(p:MG):O6 W (λj=>if j=k then p else ms j) (k+1)=O6 W ms k++[(gi W.IE (k:Int),p)]:=by
 unfold O6;rw[List.range_succ,List.map_append]
 congr 1
 ·refine List.map_congr_left λj hj=>?_
  have:=List.mem_range.1 hj;show (_,if j=k then p else ms j)=_;rw[B' Qo]
 ·simp
def M0(h:XV [] w W m)(ha:WA W) :
  Cz JS #[.agg (Qc W m).toArray] w λe w'=>∃m',e=.returned (.agg (Qc W m').toArray)/\Zp 8 w.heap.size w' W m'/\Q0 [] w w':=by
 refine(zk9 _ _ _ _ _ _ _ _ _ _ (R:=λv w'=>∃m',v=.agg (Qc W m').toArray/\Zp 8 w.heap.size w' W m'/\Q0 [] w w') ?_).mono λe w' ⟨v,he,m',hv,h3⟩=>⟨m',by rw[he,hv],h3⟩
 have qT:=ha.c2;have jF:=ha.t;have bU:=ha.gl;intro x hx x1 S9 x2 Rk;have s0:Sc w [x,x1,x2] w:=(((Sc.start w).add hx).add S9).add Rk
 refine⟨λvs w1=>∃(i:Nat) (cO:OA) (cC:Nat),vs=[I (i:Int),I W.now,.slice cO (W.IF.take i).length cC,.slice none 0 0,.slice none 0 0]/\i<=W.IF.length/\Sc w [x,x1,x2] w1/\Ob Gv 5 Zi w.heap.size [x,x1,x2] w1 cO cC (W.IF.take i),
  ZG W.IF.length 0,λwr hx _=>⟨0,none,0,Qs,Ic _,s0.R7 hx,⟨.inl ⟨rfl,rfl,rfl⟩,by simp[QL]⟩⟩,?_⟩
 rintro c1 l S8 Si Sp Se Sk Sn Sf Sg Sh RI V' ⟨i,cO,cC,he,hi,s1,hC⟩;simp only[I4,I5,Iv,true_and,and_true] at he;obtain⟨rfl,rfl,⟨rfl,rfl,rfl⟩,⟨rfl,rfl,rfl⟩,rfl,rfl,rfl⟩:=he;refine⟨λIW=>?_,λRM=>?_⟩
 ·have IW:=Ot IW;have hr:=h.c.scb s1;refine⟨hr.ix Y1 Qo IW,_,_,_,_,_,hr i Qo IW,λb4 hb4=>⟨rfl,λRD Rl fY WO=>?_⟩⟩;have s2:=s1.put Rl hb4;have vA:=hC.put Rl hb4;obtain⟨o2,c2,w2,We,uF,hC3,SQ⟩:=vA.AG3 HN KK (x:=gi W.IF (i:Int)) fY s2.ext.size WO (z44 _) (by rw[List.length_take];omega) Qd Zy #[false,false];rw[Hy Qo] at We hC3;have s3:=s2.call SQ λy hm=>(vA.own.lt y hm).1
  refine⟨_,_,_,w2,We,uF,⟨Qo,Qo⟩,λw5 Su _=>⟨⟨i+1,o2,c2,rfl,Qo,(s3.step Su).sub Qs,(hC3.step Su).sub Qs⟩,?_⟩⟩;simp only[ZG,Xt,Ye,Ie];omega
 have RM:=Ou RM;rw[show W.IF.take i=W.IF from List.take_of_length_le Qo] at hC ⊢
 refine⟨λvs w1=>∃(i:Nat) (tO:OA) (tC:Nat),vs=[I (i:Int),I W.now,.slice S8 W.IF.length Sp,.slice tO (W.IJ.take i).length tC,.slice none 0 0]/\i<=W.IJ.length/\Sc w [x,x1,x2] w1/\Ob Gv 5 Zi w.heap.size [x,x1,x2] w1 S8 Sp W.IF/\Ob Xc 9 QQ w.heap.size [x,x1,x2] w1 tO tC (W.IJ.take i),
  ZG W.IJ.length 0,λwr hx _=>⟨0,none,0,Qs,Ic _,s1.step hx,hC.step hx,⟨.inl ⟨rfl,rfl,rfl⟩,by simp[QL]⟩⟩,?_⟩
 clear hC s1 hi RM V';rintro t1 l4 nP jG nO nI pU nH kO oX nQ fC hs6 ⟨i,tO,tC,he,hi,s1,hC,hT⟩;simp only[I4,I5,Iv,true_and,and_true] at he;obtain⟨rfl,rfl,⟨rfl,rfl,rfl⟩,⟨rfl,rfl,rfl⟩,rfl,rfl,rfl⟩:=he;refine⟨λIW=>?_,λRM=>?_⟩
 ·have IW:=Ot IW;have hr:=h.t.scb s1;refine⟨hr.ix QT Qo IW,_,_,_,_,_,_,_,_,_,hr i Qo IW,λb4 hb4=>⟨rfl,λRD Rl fY WO=>?_⟩⟩;have s2:=s1.put Rl hb4;have vA:=hC.put Rl hb4;have hT2:=hT.put Rl hb4;obtain⟨o2,c2,w2,We,uF,hT3,SQ⟩:=hT2.AG3 Mh MU (x:=gi W.IJ (i:Int)) fY s2.ext.size WO (z6r _) (by rw[List.length_take];omega) Qd Z8 #[false,false];rw[Hy Qo] at We hT3;have s3:=s2.call SQ λy hm=>(hT2.own.lt y hm).1
  have hC3:=vA.call SQ (vA.own.Wd hT2.own Qd);refine⟨_,_,_,w2,We,uF,⟨Qo,Qo⟩,λw5 Su _=>⟨⟨i+1,o2,c2,rfl,Qo,(s3.step Su).sub Qs,(hC3.step Su).sub Qs,(hT3.step Su).sub Qs⟩,?_⟩⟩;simp only[ZG,Xt,Ye,Ie];omega
 have RM:=Ou RM;rw[show W.IJ.take i=W.IJ from List.take_of_length_le Qo] at hT ⊢
 refine⟨λvs w1=>∃(i:Nat) (gO:OA) (gC:Nat) (ms:Nat->MG),vs=[I (i:Int),I W.now,.slice nP W.IF.length nO,.slice nI W.IJ.length nH,.slice gO (O6 W ms i).length gC]/\i<=W.IE.length/\Sc w [x,x1,x2] w1/\Ob Gv 5 Zi w.heap.size [x,x1,x2] w1 nP nO W.IF/\Ob Xc 9 QQ w.heap.size [x,x1,x2] w1 nI nH W.IJ/\BG w.heap.size [x,x1,x2] w1 gO gC (O6 W ms i),
  ZG W.IE.length 0,λwr hx _=>⟨0,none,0,λ_=>default,by simp[O6],Ic _,s1.step hx,hC.step hx,hT.step hx,BG.nil _ _ _⟩,?_⟩
 clear hC hT s1 hi RM hs6;rintro k1 l22 A65 Be1 A64 A67 Be2 A66 BL0 Br2 BK9 jR DX1 ⟨i,gO,gC,ms,he,hi,s1,hC,hT,hG⟩;simp only[I4,I5,Iv,true_and,and_true] at he;obtain⟨rfl,rfl,⟨rfl,rfl,rfl⟩,⟨rfl,rfl,rfl⟩,rfl,rfl,rfl⟩:=he;refine⟨λIW=>?_,λRM=>?_⟩
 ·have IW:=Ot IW;have hr:=h.g.ext s1.ext;have hrb:Gd [x,x1,x2] jR m.gO W.IE m.ms:=(h.g.wide (cs:=[x,x1,x2]) λy hm=>.inr (s1.new y hm)).ext s1.ext.of_nil;have Wn:=hrb.ix (i:=(i:Int)) Qo IW;obtain⟨bl1,bl2,bl3⟩:=KR ha (k:=(i:Int)) Qo Qo;refine⟨Wn,_,_,_,_,_,_,_,_,_,_,_,_,_,_,_,_,_,_,_,_,hrb.cells (i:Int) Qo IW,λoK B08=>⟨Wn,_,_,_,_,_,_,_,_,_,hrb.IL Qo IW,λcX B24 CI8=>?_⟩⟩;have s2:=s1.put B24 B08;have vA:=hC.put B24 B08;have hT2:=hT.put B24 B08;have hG2:=hG.put B24 B08;have uH:=h.g.ext s2.ext;refine I3 (FV (uH.locals (i:Int) Qo IW) (uH.Ry (i:Int) Qo IW) bl1 Qo) ?_;rintro e pB ⟨p,he,hB,hy⟩;have s3:=s2.R7 hy;have hC3:=vA.R7 hy;have hT3:=hT2.R7 hy;have hG3:=hG2.R7 hy;have hBn:∀y∈YK p,cX.heap.size<=y:=λy hm=>(hB.lt y hm).1
  have hBb:∀y∈YK p,y∉[x,x1,x2]++[oK]:=λy hm gZ=>by
   have:=hBn y hm;have:=CI8 y gZ;omega
  refine⟨_,_,_,_,_,_,_,_,_,he,Qi hy CI8,λvs w1=>∃(c:Nat) (sO:OA) (sC:Nat),vs=[I (c:Int),.bool (gi W.IE (i:Int)).IV,I (gi W.IE (i:Int)).IG,.string (gi W.IE (i:Int)).name,I (gi W.IE (i:Int)).R2,I (gi W.IE (i:Int)).IF,I (gi W.IE (i:Int)).period,I (gi W.IE (i:Int)).next,I (gi W.IE (i:Int)).sum,I (gi W.IE (i:Int)).IL.I',I (gi W.IE (i:Int)).IL.RH,I (gi W.IE (i:Int)).IL.So,.slice p.lO (gi W.IE (i:Int)).IL.locals.length p.lC,.slice p.dO (gi W.IE (i:Int)).IL.Ry.length p.dC,.slice sO ((gi W.IE (i:Int)).IH.take c).length sC]/\c<=(gi W.IE (i:Int)).IH.length/\Sc w ([x,x1,x2]++[oK]) w1/\cX.heap.size<=w1.heap.size/\Ob Gv 5 Zi w.heap.size ([x,x1,x2]++[oK]) w1 A65 A64 W.IF/\Ob Xc 9 QQ w.heap.size ([x,x1,x2]++[oK]) w1 A67 A66 W.IJ/\BG w.heap.size ([x,x1,x2]++[oK]) w1 BL0 BK9 (O6 W ms i)/\Zz cX.heap.size w1 (gi W.IE (i:Int)).IL p/\Ob T9 5 ZO cX.heap.size ([x,x1,x2]++[oK]) w1 sO sC ((gi W.IE (i:Int)).IH.take c),
   ZG (gi W.IE (i:Int)).IH.length 0,λwr hx _=>⟨0,none,0,Qs,Ic _,s3.step hx,IB hy.size hx.size,hC3.step hx,hT3.step hx,hG3.step hx,hB.ext hx hBb,⟨.inl ⟨rfl,rfl,rfl⟩,by simp[QL]⟩⟩,?_⟩
  have sI:w.heap.size<=cX.heap.size:=s2.ext.size;have CT1:=hG2.lt;clear hB s3 hC3 hT3 hG3 vA hT2;rintro c4 l26 l27 l28 l29 l30 l31 l32 l33 l34 l35 l36 A70 A69 A68 A73 A72 A71 Ax7 BL1 Ax6 nT DX2 ⟨c,sO,sC,he,hc,s4,hz4,hC4,hT4,hG4,hB4,hS4⟩;simp only[I4,I5,Iv,Value.bool.injEq,Value.string.injEq,true_and,and_true] at he;obtain⟨rfl,rfl,rfl,rfl,rfl,rfl,rfl,rfl,rfl,rfl,rfl,rfl,⟨rfl,rfl,rfl⟩,⟨rfl,rfl,rfl⟩,rfl,rfl,rfl⟩:=he;have CI6:Gd ([x,x1,x2]++[oK]) nT m.gO W.IE m.ms:=(h.g.wide (cs:=[x,x1,x2]++[oK]) λy hm=>.inr (s4.new y hm)).ext s4.ext.of_nil;refine⟨Wn,_,_,_,CI6.Rn Qo IW,λRh=>?_,λaX=>?_⟩
  ·have Rh:=Ot Rh;have hrs:=CI6.IH (i:Int) Qo IW;refine⟨Wn,_,_,_,CI6.Rn Qo IW,hrs.ix YT Qo Rh,_,_,_,_,_,hrs c Qo Rh,λvS Bn8=>⟨rfl,λgU BK5 C15 WO=>?_⟩⟩;have s5:=s4.put BK5 Bn8;have jY:=hS4.put BK5 Bn8;have Cb0:cX.heap.size<=gU.heap.size:=IB hz4 BK5.size;obtain⟨o2,c2,w2,We,uF,hS6,SQ⟩:=jY.AG3 M6 PF (x:=gi (gi W.IE (i:Int)).IH (c:Int)) C15 Cb0 WO (z46 _) (by rw[List.length_take];omega) Qd Zd #[false,false];rw[Hy Qo] at We hS6;have hG5:=hG4.put BK5 Bn8;have hC5:=hC4.put BK5 Bn8;have hT5:=hT4.put BK5 Bn8;have hB5:=hB4.ext BK5 hBb;have s6:=s5.call SQ λy hm=>IB sI (jY.own.lt y hm).1
   have hC6:=hC5.call SQ (hC5.own.Wd jY.own Qd);have hT6:=hT5.call SQ (hT5.own.Wd jY.own Qd)
   have hG6:=hG5.ext SQ (hG5.own.row.Wd jY.own Qd) λj a b y hm gZ=>by
    have:=(CT1.2 j a b y hm).2;have:=(jY.own.lt y gZ).1;omega
   have Ct4:∀y∈YK p,y∉[x,x1,x2]++[oK]++[vS]:=λy hm gZ=>by
    rcases Im.1 gZ with h2|h2
    ·exact hBb y hm h2
    ·have:y=vS:=by simpa using h2
     have:=(hB4.lt y hm).2;omega
   have hB6:=hB5.ext SQ λy hm=>by
    rcases Im.1 hm with hm|hm
    ·exact hB5.loc.Wd jY.own Qd y hm
    ·exact hB5.Ry.Wd jY.own Qd y hm
   refine⟨_,_,_,w2,We,uF,⟨Qo,Qo⟩,λw5 Su _=>⟨⟨c+1,o2,c2,rfl,Qo,(s6.step Su).sub Qs,?_,(hC6.step Su).sub Qs,(hT6.step Su).sub Qs,(hG6.step Su).sub Qs,hB6.ext Su Ct4,(hS6.step Su).sub Qs⟩,?_⟩⟩
   ·have:=SQ.size;have:=Su.size;omega
   ·simp only[ZG,Xt,Ye,Ie];omega
  ·have aX:=Ou aX;rw[show (gi W.IE (i:Int)).IH.take c=(gi W.IE (i:Int)).IH from List.take_of_length_le Qo] at hS4 ⊢;intro b13 Bn9 nS Bd8 C16 WO;have s5:=s4.put Bd8 Bn9;have hG5:=hG4.put Bd8 Bn9;have hC5:=hC4.put Bd8 Bn9;have hT5:=hT4.put Bd8 Bn9;have hB5:=hB4.ext Bd8 hBb;have jY:=hS4.put Bd8 Bn9
   have B94:∀y∈Qt ⟨p.lO,p.lC,p.dO,p.dC,Ax7,Ax6⟩,cX.heap.size<=y/\y<nT.heap.size:=λy hm=>by
    simp only[Qt,Im] at hm;rcases hm with (hm|hm)|hm
    ·exact hB4.loc.lt y hm
    ·exact hB4.Ry.lt y hm
    ·exact hS4.own.lt y hm
   obtain⟨o2,c2,w2,We,uF,hG6,SQ⟩:=hG5.AG3 (p:=(gi W.IE (i:Int),⟨p.lO,p.lC,p.dO,p.dC,Ax7,Ax6⟩)) C16 s5.ext.size ⟨(hB5.mono sI).loc,(hB5.mono sI).Ry,jY.own.mono sI⟩ (λy hm gZ=>by
     have h1:=B94 y hm;rcases Im.1 gZ with h2|h2
     ·have:=CI8 y h2;omega
     ·have:y=b13:=by simpa using h2
      omega) (λj a b y hm gZ=>by
     have:=(CT1.2 j a b y hm).2;have:=(B94 y gZ).1;omega) WO (z6q _ _) (by rw[X8];omega) QE #[false,false]
   rw[<-zvl] at We hG6;have s6:=s5.call SQ λy hm=>(hG5.own.row.lt y hm).1
   have hC6:=hC5.call SQ (hC5.own.Wd hG5.own.row Qd);have hT6:=hT5.call SQ (hT5.own.Wd hG5.own.row Qd);refine⟨_,_,_,w2,We,uF,⟨Qo,Qo⟩,λw5 Su _=>⟨⟨i+1,o2,c2,_,rfl,Qo,(s6.step Su).sub Qs,(hC6.step Su).sub Qs,(hT6.step Su).sub Qs,(hG6.step Su).sub Qs⟩,?_⟩⟩;simp only[ZG,Xt,Ye,Ie];omega
 ·have RM:=Ou RM;have hi8:i=W.IE.length:=Qo;subst hi8;refine λw9 kL=>⟨⟨A65,A64,A67,A66,BL0,BK9,ms⟩,?_,⟨(hC.step kL).own,(hT.step kL).own,(hG.step kL).own,bU⟩,(s1.step kL).ext⟩
  rw[X8];rfl
def Zn(h:XV [] w W m)(hl:VB W) :
  Cz Z5 #[.agg (Qc W m).toArray] w λe w'=>(Qr W=false/\e=.returned (.tuple #[.agg (Qc Lu z0h).toArray,I 1])/\Q0 [] w w')\/(Qr W/\∃m',e=.returned (.tuple #[.agg (Qc W m').toArray,I (if QO W=true then 0 else 10)])/\Zp 8 w.heap.size w' W m'/\Q0 [] w w'):=by
 refine(CR _ _ _ _ _ _ _ _ _ _ (R:=λv w'=>(Qr W=false/\v=.tuple #[.agg (Qc Lu z0h).toArray,I 1]/\Q0 [] w w')\/(Qr W/\∃m',v=.tuple #[.agg (Qc W m').toArray,I (if QO W=true then 0 else 10)]/\Zp 8 w.heap.size w' W m'/\Q0 [] w w')) ?_).mono λe w' ⟨v,he,h3⟩=>by
  rw[he];rcases h3 with ⟨a,hv,b⟩|⟨a,m',hv,b⟩
  ·exact .inl ⟨a,by rw[hv],b⟩
  ·exact .inr ⟨a,m',by rw[hv],b⟩
 intro x hx x1 S9;refine⟨_,Uy h hl.c hl.t hl.g hl.f,λg wr hx=>.inl ⟨by simpa using g,rfl,hx⟩,λg R5 Rk dE=>?_⟩;have hW:Qr W:=by simpa using g
 have wp:=Qm.1 hW;refine I3 (M0 (h.ext Rk) wp.a) ?_;rintro e wv ⟨m',he,hM,hy⟩
 have hnb:∀y∈QM 8 m',y∉[x,x1]:=λy hy hm=>by
  have:=(hM.lt y hy).1;have:=dE y hm;omega
 have hro:=L8 (hM.rd hnb) hl;have A50:∀w2,Q0 [x,x1] wv w2->Zp 8 w.heap.size w2 W m'/\Q0 [] w w2:=λw2 h2=>⟨(hM.mono Rk.size).ext h2 hnb,(Rk.trans hy).fresh h2 λy hm=>.inl (YM hx S9 y hm)⟩
 refine⟨_,_,_,_,_,_,_,_,_,_,he,Qi hy dE,_,hro,λg2 w2 h2=>.inr ⟨hW,m',?_,A50 w2 h2⟩,λg2 w2 h2=>.inr ⟨hW,m',?_,A50 w2 h2⟩⟩
 ·have:¬QO W:=λhr=>by
   rw[show U0 (XQ W/\Ge W)=true from Qm.2 ⟨wp,Qm.1 hr⟩] at g2;cases g2
  rw[B' this];rfl
 ·have hd:U0 (XQ W/\Ge W):=by simpa using g2
  have:QO W:=Qm.2 (Qm.1 hd).2;rw[C' this];rfl
end
structure Wk (n:Nat) (bs:List Nat) (w0 w:Wo) (W:Q7) (m:MW):Prop where
 s:Sc w0 bs w
 o:OW n w0.heap.size bs w W m
section
variable {n:Nat}{bs cs:List Nat}{w0 w w':Wo}{W W':Q7}{m m':MW}{b:Nat}
def Wk.step(h:Wk n bs w0 w W m)(hx:Q0 bs w w'):Wk n bs w0 w' W m:=⟨h.s.step hx,h.o.step hx⟩
def Wk.R7(h:Wk n bs w0 w W m)(hx:Q0 [] w w'):Wk n bs w0 w' W m:=⟨h.s.R7 hx,h.o.R7 hx⟩
def Wk.add(h:Wk n bs w0 w W m)(hb:w.heap.size<=b):Wk n (bs++[b]) w0 w W m:=⟨h.s.add hb,h.o.add hb⟩
def Wk.sub(h:Wk n bs w0 w W m)(hs:∀x∈cs,x∈bs):Wk n cs w0 w W m:=⟨h.s.sub hs,h.o.sub hs⟩
def Wk.rd(h:Wk n bs w0 w W m):XV bs w W m:=h.o.rd
def Wk.own(h:Wk n bs w0 w W m):Zp n w0.heap.size w W m:=h.o.own
def Wk.nb(h:Wk n bs w0 w W m):∀x∈QM n m,x∉bs:=h.o.nb
def Wk.base(h:Wk n bs w0 w W m):w0.heap.size<=w.heap.size:=h.s.ext.size
def Wk.Ss(h:Wk n bs w0 w W m)(k:Mv n w0.heap.size [] w m w' W' m')(hs:∀x∈bs,x<w.heap.size):Wk n bs w0 w' W' m':=
 ⟨h.s.call k.ext λx hx=>(h.o.own.lt x hx).1,⟨k.own,λx hx hm=>by
  rcases k.sub x hx with h1|h1
  ·exact h.o.nb x h1 hm
  ·have:=hs x hm;omega⟩⟩
def Wk.kept(h:Wk n bs w0 w W m)(k:Mv n w0.heap.size [] w m w' W' m')(hs:∀x∈bs,x<w.heap.size):Q9 bs w w':=λx hm=>k.ext.block x (hs x hm) λgZ=>h.o.nb x gZ hm
def Wk.Rw(h:Wk n bs w0 w W m)(k:Zp n w0.heap.size w' W' m)(hx:Q0 (QM n m) w w'):Wk n bs w0 w' W' m:=⟨h.s.call hx λx hx=>(h.o.own.lt x hx).1,⟨k,h.o.nb⟩⟩
def Wk.fin(h:Wk n bs w0 w W m):Zp n w0.heap.size w W m/\Q0 [] w0 w:=⟨h.o.own,h.s.ext⟩
end
def QX(r:Q7×Int)(w:Wo)(v:Va)(w':Wo):Prop:=∃n m',v=.tuple #[.agg (Qc r.1 m').toArray,I r.2]/\Zp n w.heap.size w' r.1 m'/\Q0 [] w w'
def Zp.zero(base:Nat)(w:Wo):Zp 0 base w Lu z0h:=⟨.inl ⟨rfl,rfl,rfl⟩,.inl ⟨rfl,rfl,rfl⟩,⟨.inl ⟨rfl,rfl,rfl⟩,λi a b=>by simp[zs9,Lu] at b;omega,λi j a b=>by simp[zs9,Lu] at b;omega⟩,rfl⟩
section
variable {W W':Q7}{m:MW}{w:Wo}{bar:Int}
def QX.bad{w':Wo}(hW:Qr W=false)(hx:Q0 [] w w'):QX (Yz W bar W') w (.tuple #[.agg (Qc Lu z0h).toArray,I 1]) w':=by
 rw[zr6 hW];exact⟨0,z0h,rfl,Zp.zero _ _,hx⟩
def QX.no{n:Nat}{bs:List Nat}{w':Wo}{m':MW}(hW:Qr W)(hb:bar≠0)(hk:Wk n bs w w' W m'){c:Int}(hc:bar=c):QX (Yz W bar W') w (.tuple #[.agg (Qc W m').toArray,I c]) w':=by
 rw[za0 hW hb,hc];exact⟨n,m',rfl,hk.fin⟩
def QX.ok{n:Nat}{bs:List Nat}{w':Wo}{m':MW}(hW:Qr W)(hb:bar=0)(hk:Wk n bs w w' W' m'):QX (Yz W bar W') w (.tuple #[.agg (Qc W' m').toArray,I 0]) w':=by
 rw[zkn hW hb];exact⟨n,m',rfl,hk.fin⟩
def Wk.begin{x x1:Nat}{wr wv:Wo}{m':MW}(hx:w.heap.size<=x)(S9:w.heap.size<=x1)(Rk:Q0 [] w wr)(hs:∀y∈[x,x1],y<wr.heap.size)(hM:Zp 8 wr.heap.size wv W m')(hy:Q0 [] wr wv):Wk 8 [x,x1] w wv W m':=
 ⟨⟨Rk.trans hy,YM hx S9⟩,(OW.of hM hs).mono Rk.size⟩
def ND{t:Int}(h:XV [] w W m)(hl:VB W) :
  Cz Tz #[.agg (Qc W m).toArray,I t] w λe w'=>∃v,e=.returned v/\QX (Yz W (VD W t) (zck W t)) w v w':=by
 refine Ng _ _ _ _ _ _ _ _ _ _ t (R:=λv w'=>QX (Yz W (VD W t) (zck W t)) w v w') ?_;intro x hx x1 S9 wr Rk V';refine I3 (Zn (h.ext Rk) hl) ?_;rintro e wv (⟨hW,he,hy⟩|⟨hW,m',he,hM,hy⟩)
 ·exact⟨_,_,_,_,_,_,_,_,_,_,_,he,Qi hy V',λ_ R5 Rl=>QX.bad hW ((Rk.trans hy).fresh Rl λy hm=>.inl (YM hx S9 y hm)),λg=>by simp at g⟩
 have hK:=Wk.begin hx S9 Rk V' hM hy;have hr:=hK.rd;refine⟨_,_,_,_,_,_,_,_,_,_,_,he,Qi hy V',λg=>by split at g <;> simp at g,λ_=>⟨_,JU hr hl.t,λg R6 Rl=>?_,λg=>?_⟩⟩
 ·have g:Yn W t=false:=by simpa using g
  have hb:VD W t=2:=by unfold VD;rw[C' g]
  exact QX.no hW (by rw[hb];decide) (hK.step Rl) hb
 have g:Yn W t:=by simpa using g
 obtain⟨t0,t1,tn⟩:=Y7 g;have Wn:=hr.t.ix QT t0 t1;refine⟨Wn,_,hr.t.f t0 t1 (j:=0) rfl,λg2 RD Rl=>?_,λg2=>⟨λg3 RE Rl=>?_,λg3=>?_⟩⟩
 ·have g2:(Q8 W t).state≠1:=by simpa[Q8] using g2
  have hb:VD W t=6:=by unfold VD;rw[B' (by rw[g];decide),C' g2]
  exact QX.no hW (by rw[hb];decide) (hK.step Rl) hb
 ·have g2:¬(Q8 W t).state≠1:=by simpa[Q8] using g2
  have bM:¬QO W:=λhr=>by rw[C' hr] at g3;simp at g3
  have hb:VD W t=10:=by unfold VD;rw[B' (by rw[g];decide),B' g2,C' (by simpa using bM)]
  rw[B' bM];exact QX.no hW (by rw[hb];decide) (hK.step Rl) hb
 ·have g2:¬(Q8 W t).state≠1:=by simpa[Q8] using g2
  have bM:QO W:=Iq λhr=>by rw[B' hr] at g3;simp at g3
  have hb:VD W t=0:=by unfold VD;rw[B' (by rw[g];decide),B' g2,B' (by rw[bM];decide)]
  obtain⟨_,_,sw,sw1⟩:=zcl hW hb;have SS:Zp 8 w.heap.size _ (J' W t { Q8 W t with state:=2 }) m':=hK.own.AF3 t0 t1 (j:=0) (vs:=[I 2]) (x:={ Q8 W t with state:=2 }) rfl Qs;refine⟨Wn,ztu hK.own hK.nb t0 t1 Qd,λRQ Su fK=>?_⟩;have dZ:=(hK.Rw SS Hx).step Su;have RA:=QA dZ.own sw1 Qd Qd dZ.base;have e5:Qc (J' W t { Q8 W t with state:=2 }) m'=Qc W m':=by simp[Qc,J']
  rw[e5] at RA;refine I3 RA ?_;rintro e1 Rb ⟨m1,kB,cW⟩;exact⟨_,_,_,_,_,_,_,_,_,_,kB,dZ.kept cW fK,λSj bE=>QX.ok hW hb ((dZ.Ss cW fK).step bE)⟩
end
def Ln{α:Type}[Inhabited α]{l:List α}{i:Int}(h0:0<=i)(h1:i<(l.length:Int)):l.set i.toNat (gi l i)=l:=by
 obtain⟨k,rfl⟩:=Int.eq_ofNat_of_zero_le h0;rw[Ju Qo,Ig,List.set_getElem_self]
def MO{W:Q7}{k:Int}{b:Um}(h0:0<=k)(h1:k<(W.IE.length:Int)):gi (RF W k b).IE k={ gi W.IE k with IL:=b }:=by
 unfold RF;rw[Ym h0 h1 h0,C' rfl]
def zju{W:Q7}{k:Int}{b b':Um}(h0:0<=k)(h1:k<(W.IE.length:Int)):RF (RF W k b) k b'=RF W k b':=by
 show R3 (RF W k b) k { gi (RF W k b).IE k with IL:=b' }=_;rw[MO h0 h1];unfold RF R3;rw[List.set_set]
def zjv{W:Q7}{k:Int}{x y:ZD}:R3 (R3 W k x) k y=R3 W k y:=by unfold R3;rw[List.set_set]
def G6{W:Q7}{k:Int}(h0:0<=k)(h1:k<(W.IE.length:Int)):RF W k (gi W.IE k).IL=W:=by
 show R3 W k (gi W.IE k)=W;unfold R3;rw[Ln h0 h1]
section
variable {base:Nat}{W:Q7}{m:MW}{w:Wo}{k:Int}{b:Um}
abbrev zoq(m:MW)(k:Int):OA:=m.gO.map (·.add (Int.toNat k*14+8))
def N3(h:Zp 8 base w (RF W k b) m):W.IE.length=8:=by
 have:=h.len
 simpa[RF,R3] using this
def Zp.A32(h:Zp 8 base w (RF W k b) m)(k0:0<=k)(k8:k<8):Q1 [] w m.gO (Int.toNat k*14+8) (ZI b (m.ms k.toNat))/\zm3 [] w (m.ms k.toNat).lO b.locals/\zwi [] w (m.ms k.toNat).dO b.Ry:=by
 have hr:=(h.rd (bs:=[]) Qs).g;have hl:=N3 h;have hl2:=h.len;have hg:=MO (W:=W) (b:=b) k0 Qo;have h1:=hr.IL k0 Qo;have h2:=hr.locals k k0 Qo;have h3:=hr.Ry k k0 Qo;rw[hg] at h1 h2 h3;exact⟨h1,h2,h3⟩
def Zp.bdC(h:Zp 8 base w (RF W k b) m)(k0:0<=k)(k8:k<8){j:Nat}{v:Va}(hj:(ZI b (m.ms k.toNat))[j]? = some v):Q1 [] w (zoq m k) (0+j) [v]:=JK (h.A32 k0 k8).1 hj
def Zp.sY(h:Zp 8 base w (RF W k b) m)(k0:0<=k)(k8:k<8):(zoq m k).isSome:=MQ (h.A32 k0 k8).1
def Zp.Bm4(h:Zp 8 base w (RF W k b) m)(k0:0<=k)(k8:k<8){j n:Nat}(hj:j+n<=5):Xh [] w (zoq m k) (0+j) n:=by
 have:=zrw h (bs:=[]) Qs k0 Qo (j:=8+j) (k:=n) Qo;refine M5.2 ?_;rw[Nat.zero_add,Nat.add_assoc];exact this
def Zp.BQ9(h:Zp 8 base w (RF W k b) m)(k0:0<=k)(k8:k<8){c:Int}(c0:0<=c)(c1:c<(b.locals.length:Int)):Xh [] w (m.ms k.toNat).lO (Int.toNat c*1) 1:=by
 have hl:=N3 h;have:=z8c h (bs:=[]) Qs k0 Qo (c:=c) c0 (by rw[MO k0 Qo];exact c1) (j:=0) (k:=1) Qd;exact this
def Zp.B68(h:Zp 8 base w (RF W k b) m)(k0:0<=k)(k8:k<8){c:Int}(c0:0<=c)(c1:c<(b.Ry.length:Int)):Xh [] w (m.ms k.toNat).dO (Int.toNat c*1) 1:=by
 have hl:=N3 h;have:=z8b h (bs:=[]) Qs k0 Qo (c:=c) c0 (by rw[MO k0 Qo];exact c1) (j:=0) (k:=1) Qd;exact this
def Zp.A33(h:Zp 8 base w (RF W k b) m)(k0:0<=k)(k8:k<8){b':Um}(e1:b'.locals=b.locals)(e2:b'.Ry=b.Ry){j:Nat}{vs:List Va}(he:ZI b' (m.ms k.toNat)=(ZI b (m.ms k.toNat)).take j++vs++(ZI b (m.ms k.toNat)).drop (j+vs.length))(hj:j+vs.length<=5) :
  Zp 8 base (Rw w (zoq m k) (0+j) vs) (RF W k b') m:=by
 have hl:=N3 h;have hg:=MO (W:=W) (b:=b) k0 Qo
 have this:Zp 8 base _ (R3 (RF W k b) k { gi W.IE k with IL:=b' }) m:=h.Ae8 k0 Qo (g:={ gi W.IE k with IL:=b' }) (by rw[hg];exact e1) (by rw[hg];exact e2) (by rw[hg]) (j:=8+j) (vs:=vs) (by
  rw[hg];have e:∀x:Um,YA { gi W.IE k with IL:=x } (m.ms k.toNat)=(YA (gi W.IE k) (m.ms k.toNat)).take 8++ZI x (m.ms k.toNat)++[.slice (m.ms k.toNat).sO (gi W.IE k).IH.length (m.ms k.toNat).sC]:=λx=>rfl
  rw[e b',e b,he];have l8:((YA (gi W.IE k) (m.ms k.toNat)).take 8).length=8:=rfl;have l5:(ZI b (m.ms k.toNat)).length=5:=rfl;generalize (YA (gi W.IE k) (m.ms k.toNat)).take 8=A at l8;generalize ZI b (m.ms k.toNat)=B at l5
  have t1:(A++B++[Value.slice (m.ms k.toNat).sO (gi W.IE k).IH.length (m.ms k.toNat).sC]).take (8+j)=A++B.take j:=by
   rw[List.append_assoc,List.take_append,List.take_of_length_le Qo,l8,show 8+j-8=j by omega,List.take_append,show j-B.length=0 by omega,List.take_zero,List.append_nil]
  have t2:(A++B++[Value.slice (m.ms k.toNat).sO (gi W.IE k).IH.length (m.ms k.toNat).sC]).drop (8+j+vs.length)=B.drop (j+vs.length)++[Value.slice (m.ms k.toNat).sO (gi W.IE k).IH.length (m.ms k.toNat).sC]:=by
   rw[List.append_assoc,List.drop_append,List.drop_eq_nil_iff.2 Qo,List.nil_append,l8,show 8+j+vs.length-8=j+vs.length by omega,List.drop_append,show j+vs.length-B.length=0 by omega,List.drop_zero]
  rw[t1,t2];simp only[List.append_assoc]) Qo
 rw[show R3 (RF W k b) k { gi W.IE k with IL:=b' }=RF W k b' from zjv] at this;rw[TQ,Nat.zero_add,Nat.add_assoc];exact this
def Zp.AQ0{j:Nat}{vs:List Va}:Q0 (QM 8 m) w (Rw w (zoq m k) (0+j) vs):=by rw[TQ];exact Ag
def Zp.Aw1(h:Zp 8 base w (RF W k b) m)(k0:0<=k)(k8:k<8){c:Int}(c0:0<=c)(c1:c<(b.locals.length:Int))(x:Int) :
  Zp 8 base (Rw w (m.ms k.toNat).lO (Int.toNat c*1) [I x]) (RF W k { b with locals:=b.locals.set c.toNat x }) m:=by
 have hl:=N3 h;have hg:=MO (W:=W) (b:=b) k0 Qo;have hb:(gi (RF W k b).IE k).IL=b:=by rw[hg]
 have this:Zp 8 base _ (RF (RF W k b) k { (gi (RF W k b).IE k).IL with locals:=(gi (RF W k b).IE k).IL.locals.set c.toNat x }) m:=h.dV k0 Qo c0 (by rw[hg];exact c1) x;rw[zju k0 Qo,hb] at this;exact this
def Zp.Bm3(h:Zp 8 base w (RF W k b) m)(k0:0<=k)(k8:k<8){c:Int}(c0:0<=c)(c1:c<(b.Ry.length:Int))(x:Bool) :
  Zp 8 base (Rw w (m.ms k.toNat).dO (Int.toNat c*1) [.bool x]) (RF W k { b with Ry:=b.Ry.set c.toNat x }) m:=by
 have hl:=N3 h;have hg:=MO (W:=W) (b:=b) k0 Qo;have hb:(gi (RF W k b).IE k).IL=b:=by rw[hg]
 have this:Zp 8 base _ (RF (RF W k b) k { (gi (RF W k b).IE k).IL with Ry:=(gi (RF W k b).IE k).IL.Ry.set c.toNat x }) m:=h.B38 k0 Qo c0 (by rw[hg];exact c1) x;rw[zju k0 Qo,hb] at this;exact this
def zrz(base:Nat)(W:Q7)(m:MW)(k:Int)(b':Um)(w w':Wo):Prop:=Zp 8 base w' (RF W k b') m/\Q0 (QM 8 m) w w'
def zd1(h:Zp 8 base w (RF W k b) m)(k0:0<=k)(k8:k<8)(hl:b.Ry.length<=1048576) :
  Cz UI #[.pointer (zoq m k)] w λe w'=>e=.returned (.tuple #[])/\zrz base W m k { b with Ry:=List.replicate b.Ry.length false } w w':=by
 refine(CB (zoq m k) (R:=λv w'=>v=.tuple #[]/\zrz base W m k { b with Ry:=List.replicate b.Ry.length false } w w') ?_).mono λe w' ⟨v,he,hv,h3⟩=>⟨by rw[he,hv],h3⟩
 refine⟨h.sY k0 k8,_,_,_,h.bdC k0 k8 (j:=4) rfl,?_⟩;refine Jm b.Ry.length 0 rfl (λj w1=>j<=b.Ry.length/\Zp 8 base w1 (RF W k { b with Ry:=List.replicate j false++b.Ry.drop j }) m/\Q0 (QM 8 m) w w1) (λw1 S9 _=>⟨Ic _,by simpa using h.WH S9,S9.of_nil⟩) λj w1 hs ⟨hj,hO,hX⟩=>⟨λIW=>?_,λRM=>?_⟩
 ·have IW:=Ot IW;have hlen:(List.replicate j false++b.Ry.drop j).length=b.Ry.length:=by simp;omega
  have c1:(j:Int)<((List.replicate j false++b.Ry.drop j).length:Int):=by rw[hlen];exact IW
  have e1:=hO.Bm3 k0 k8 (c:=(j:Int)) Qo c1 false;have WO:=hO.bdC k0 k8 (j:=4) rfl;have Wn:=(hO.A32 k0 k8).2.2.ix LF (i:=(j:Int)) Qo c1;refine⟨hO.sY k0 k8,_,_,_,WO,Wn,hO.B68 k0 k8 Qo c1,⟨Qo,Qo⟩,λw2 Rk _=>Qw Qo ⟨Qo,?_,?_⟩⟩
  ·have e2:=e1.WH Rk;simp only[Ig] at e2;rw[zpg _ _ Qo] at e2;exact e2
  ·exact(hX.trans (z6x Qo)).trans Rk.of_nil
 ·have RM:=Ou RM;have uF:j=b.Ry.length:=Qo;subst uF;rw[List.drop_length,List.append_nil] at hO;exact λw2 Rk=>⟨rfl,hO.WH Rk,hX.trans Rk.of_nil⟩
def zdy(h:Zp 8 base w (RF W k b) m)(k0:0<=k)(k8:k<8)(hb:P2 b){c:Int}(c0:0<=c)(c1:c<(b.locals.length:Int)) :
  Cz Ur #[.pointer (zoq m k),I c] w λe w'=>e=.returned (I 0)/\zrz base W m k (Yi b c) w w':=by
 refine(Dk (zoq m k) c (R:=λv w'=>v=I 0/\zrz base W m k (Yi b c) w w') ?_).mono λe w' ⟨v,he,hv,h3⟩=>⟨by rw[he,hv],h3⟩
 have he':=hb.each c c0 c1;have p1:=hb.p1;have p2:=hb.p2;have q2:=hb.q2;have hs:=h.sY k0 k8;have hL:=(h.A32 k0 k8).2.1;have Wn:=hL.ix XU c0 c1;have e1:=h.A33 k0 k8 (b':={ b with RH:=b.RH+gi b.locals c }) rfl rfl (j:=1) (vs:=[I (b.RH+gi b.locals c)]) rfl Qs;have e2:=e1.Aw1 k0 k8 c0 c1 0;have hX:=(Zp.AQ0 (m:=m) (k:=k) (w:=w) (j:=1) (vs:=[I (b.RH+gi b.locals c)])).trans (z2y (m:=m) (k:=Int.toNat c*1) (vs:=[I 0]) (i:=k.toNat) Qo);refine⟨hs,_,h.bdC k0 k8 (j:=1) rfl,hs,_,_,_,h.bdC k0 k8 (j:=3) rfl,Wn,_,hL c c0 c1,⟨Qo,Qo⟩,hs,h.Bm4 k0 k8 (j:=1) Qd,hs,_,_,_,e1.bdC k0 k8 (j:=3) rfl,Wn,e1.BQ9 k0 k8 c0 c1,hs,_,e2.bdC k0 k8 (j:=1) rfl,λg wr hx _=>?_,λg wr hx=>⟨rfl,?_,hX.trans hx.of_nil⟩⟩
 ·have g:=Ot g;refine I3 (zd1 (e2.WH hx) k0 k8 (by show b.Ry.length<=_;have:=hb.dl;have:=hb.l2;omega)) ?_;rintro e wv ⟨he,hM,hy⟩;refine⟨he,Xm,λR5 S9=>⟨rfl,?_,((hX.trans hx.of_nil).trans hy).trans S9.of_nil⟩⟩;have:Yi b c=⟨b.I',b.RH+gi b.locals c,b.So,b.locals.set c.toNat 0,List.replicate b.Ry.length false⟩:=by unfold Yi;rw[C' g]
  rw[this];exact hM.WH S9
 ·have g:=Ou g;have:Yi b c=⟨b.I',b.RH+gi b.locals c,b.So,b.locals.set c.toNat 0,b.Ry⟩:=by unfold Yi;rw[B' g]
  rw[this];exact e2.WH hx
def zp7(l:List Int)(k:Nat)(h:k<l.length):(List.replicate k (0:Int)++l.drop k).set k 0=List.replicate (k+1) 0++l.drop (k+1):=by
 rw[List.set_append,B' Qs,List.length_replicate,Nat.sub_self,List.drop_eq_getElem_cons h,List.set_cons_zero,List.replicate_succ',List.append_assoc,List.singleton_append]
def zdx(h:Zp 8 base w (RF W k b) m)(k0:0<=k)(k8:k<8)(hb:P2 b) :
  Cz Uq #[.pointer (zoq m k)] w λe w'=>e=.returned (I 0)/\zrz base W m k (Jt b) w w':=by
 refine(Dj (zoq m k) (R:=λv w'=>v=I 0/\zrz base W m k (Jt b) w w') ?_).mono λe w' ⟨v,he,hv,h3⟩=>⟨by rw[he,hv],h3⟩
 have hdl:=hb.dl;have hl2:=hb.l2;have hs:=h.sY k0 k8;have e1:=h.A33 k0 k8 (b':={ b with RH:=b.I' }) rfl rfl (j:=1) (vs:=[I b.I']) rfl Qs;have e2:=e1.A33 k0 k8 (b':={ b with RH:=b.I',So:=0 }) rfl rfl (j:=2) (vs:=[I 0]) rfl Qs;have hX2:=(Zp.AQ0 (m:=m) (k:=k) (w:=w) (j:=1) (vs:=[I b.I'])).trans (Zp.AQ0 (m:=m) (k:=k) (j:=2) (vs:=[I 0]));refine⟨hs,_,h.bdC k0 k8 (j:=0) rfl,hs,h.Bm4 k0 k8 (j:=1) Qd,hs,e1.Bm4 k0 k8 (j:=2) Qd,hs,_,_,_,e2.bdC k0 k8 (j:=3) rfl,?_⟩;refine Jm b.locals.length 0 rfl (λj w1=>j<=b.locals.length/\Zp 8 base w1 (RF W k { b with RH:=b.I',So:=0,locals:=List.replicate j 0++b.locals.drop j }) m/\Q0 (QM 8 m) w w1) (λw1 S9 _=>⟨Ic _,by simpa using e2.WH S9,hX2.trans S9.of_nil⟩) λj w1 hs ⟨hj,hO,hX⟩=>⟨λIW=>?_,λRM=>?_⟩
 ·have IW:=Ot IW;have hlen:(List.replicate j (0:Int)++b.locals.drop j).length=b.locals.length:=by simp;omega
  have c1:(j:Int)<((List.replicate j (0:Int)++b.locals.drop j).length:Int):=by rw[hlen];exact IW
  have e1:=hO.Aw1 k0 k8 (c:=(j:Int)) Qo c1 0;have WO:=hO.bdC k0 k8 (j:=3) rfl;have Wn:=(hO.A32 k0 k8).2.1.ix XU (i:=(j:Int)) Qo c1;refine⟨hO.sY k0 k8,_,_,_,WO,Wn,hO.BQ9 k0 k8 Qo c1,⟨Qo,Qo⟩,λw2 Rk _=>Qw Qo ⟨Qo,?_,?_⟩⟩
  ·have e2:=e1.WH Rk;simp only[Ig] at e2;rw[zp7 _ _ Qo] at e2;exact e2
  ·exact(hX.trans (z2y Qo)).trans Rk.of_nil
 ·have RM:¬(j:Int)<(b.locals.length:Int):=Ou RM;have uF:j=b.locals.length:=Qo;subst uF;rw[List.drop_length,List.append_nil] at hO;intro R6 Rk _;refine I3 (zd1 (hO.WH Rk) k0 k8 (by show b.Ry.length<=_;omega)) ?_;rintro e wv ⟨he,hM,hy⟩;refine⟨he,Xm,λR5 S9=>⟨rfl,?_,((hX.trans Rk.of_nil).trans hy).trans S9.of_nil⟩⟩;unfold Jt;rw[show List.replicate b.Ry.length (0:Int)=List.replicate b.locals.length 0 by rw[hdl]];exact hM.WH S9
def z6k(p:Int):(if p<20 then p else 20)=Zr 20 p:=by
 unfold Zr
 split <;> split <;> omega
def zvo{l:List Bool}{c:Int}(c0:0<=c)(c1:c<(l.length:Int))(h:gi l c=false):l.set c.toNat false=l:=by
 have:=Ln c0 c1
 rwa[h] at this
def zzj{l:List Int}{c:Int}(c0:0<=c)(c1:c<(l.length:Int))(h:gi l c=0):l.set c.toNat 0=l:=by
 have:=Ln c0 c1
 rwa[h] at this
def zlo(h:Zp 8 base w (RF W k b) m)(k0:0<=k)(k8:k<8)(hb:P2 b){c:Int}(c0:0<=c)(c1:c<(b.locals.length:Int)) :
  Cz VG #[.pointer (zoq m k),I c] w λe w'=>e=.returned (I (ZL b c).2)/\zrz base W m k (ZL b c).1 w w':=by
 refine(Ft (zoq m k) c (R:=λv w'=>v=I (ZL b c).2/\zrz base W m k (ZL b c).1 w w') ?_).mono λe w' ⟨v,he,hv,h3⟩=>⟨by rw[he,hv],h3⟩
 have he':=hb.each c c0 c1;have hdl:=hb.dl;have p1:=hb.p1;have p2:=hb.p2;have q2:=hb.q2;have hm:=zbc p1;have hs:=h.sY k0 k8;have hL:=(h.A32 k0 k8).2.1;have hD:=(h.A32 k0 k8).2.2;have Wn:=hL.ix XU c0 c1;refine⟨hs,_,_,_,h.bdC k0 k8 (j:=3) rfl,Wn,_,hL c c0 c1,λg wr hx=>?_,λg=>⟨hs,_,h.bdC k0 k8 (j:=1) rfl,?_⟩⟩
 ·have ht:ZL b c=(b,0):=by unfold ZL;rw[C' (Ot g)]
  rw[ht];exact⟨rfl,h.WH hx,hx.of_nil⟩
 have g:=Ou g;have hz:gi b.locals c=0:=Qo;have ht:ZL b c=(⟨b.I',b.RH-Zr 20 b.RH,b.So,b.locals.set c.toNat (Zr 20 b.RH),b.Ry.set c.toNat (Zr 20 b.RH==0)⟩,if Zr 20 b.RH=0 then 2 else 0):=by unfold ZL;rw[B' g]
 rw[ht,z6k];refine⟨λg2=>?_,λg2=>?_⟩
 ·have g2':Zr 20 b.RH=0:=by simpa using g2
  have e1:=h.Bm3 k0 k8 c0 Qo true;refine⟨hs,_,_,_,h.bdC k0 k8 (j:=4) rfl,hD.ix LF c0 Qo,h.B68 k0 k8 c0 Qo,λwr hx=>⟨by rw[C' g2'],?_,(z6x Qo).trans hx.of_nil⟩⟩
  dsimp only
  rw[g2',Int.sub_zero,zzj c0 c1 hz];exact e1.WH hx
 ·have g2':Zr 20 b.RH≠0:=by simpa using g2
  have hdr:gi b.Ry c=false:=by
   cases hd:gi b.Ry c with
   |false=>rfl
   |true=>have:=(he'.2.2 hd).2;omega
  have e1:=h.A33 k0 k8 (b':={ b with RH:=b.RH-Zr 20 b.RH }) rfl rfl (j:=1) (vs:=[I (b.RH-Zr 20 b.RH)]) rfl Qs;have e2:=e1.Aw1 k0 k8 c0 c1 (Zr 20 b.RH);have hX:=(Zp.AQ0 (m:=m) (k:=k) (w:=w) (j:=1) (vs:=[I (b.RH-Zr 20 b.RH)])).trans (z2y (m:=m) (k:=Int.toNat c*1) (vs:=[I (Zr 20 b.RH)]) (i:=k.toNat) Qo);refine⟨hs,_,h.bdC k0 k8 (j:=1) rfl,⟨Qo,Qo⟩,hs,h.Bm4 k0 k8 (j:=1) Qd,hs,_,_,_,e1.bdC k0 k8 (j:=3) rfl,Wn,e1.BQ9 k0 k8 c0 c1,λwr hx=>⟨by rw[B' g2'],?_,hX.trans hx.of_nil⟩⟩
  dsimp only
  rw[g2,zvo c0 Qo hdr];exact e2.WH hx
def zhh(h:Zp 8 base w (RF W k b) m)(k0:0<=k)(k8:k<8)(hb:P2 b){c n:Int}(c0:0<=c)(c1:c<(b.locals.length:Int)) :
  Cz V7 #[.pointer (zoq m k),I c,I n] w λe w'=>e=.returned (I (Y6 b c n).2)/\zrz base W m k (Y6 b c n).1 w w':=by
 refine(Eg (zoq m k) c n (R:=λv w'=>v=I (Y6 b c n).2/\zrz base W m k (Y6 b c n).1 w w') ?_).mono λe w' ⟨v,he,hv,h3⟩=>⟨by rw[he,hv],h3⟩
 have he':=hb.each c c0 c1;have q2:=hb.q2;have s1:=hb.s1;have s2:=hb.s2;have hs:=h.sY k0 k8;have hL:=(h.A32 k0 k8).2.1;have Wn:=hL.ix XU c0 c1;refine⟨λ_=>hs,_,_,_,λ_=>h.bdC k0 k8 (j:=3) rfl,λ_=>Wn,_,λ_=>hL c c0 c1,λg wr hx=>?_,λg=>?_⟩
 ·have ht:Y6 b c n=(b,3):=by unfold Y6;rw[C' (by simpa using g)]
  rw[ht];exact⟨rfl,h.WH hx,hx.of_nil⟩
 ·have g':¬(n<1\/n>gi b.locals c):=by simpa using g
  have ht:Y6 b c n=({ b with So:=b.So+n,locals:=b.locals.set c.toNat (gi b.locals c-n) },0):=by unfold Y6;rw[B' g']
  rw[ht];have e1:=h.Aw1 k0 k8 c0 c1 (gi b.locals c-n);have e2:=e1.A33 k0 k8 (b':={ b with So:=b.So+n,locals:=b.locals.set c.toNat (gi b.locals c-n) }) rfl rfl (j:=2) (vs:=[I (b.So+n)]) rfl Qs;have hX:=(z2y (m:=m) (w:=w) (k:=Int.toNat c*1) (vs:=[I (gi b.locals c-n)]) (i:=k.toNat) (n:=8) Qo).trans (Zp.AQ0 (m:=m) (k:=k) (j:=2) (vs:=[I (b.So+n)]));exact⟨hs,_,_,_,h.bdC k0 k8 (j:=3) rfl,Wn,_,hL c c0 c1,⟨Qo,Qo⟩,Wn,h.BQ9 k0 k8 c0 c1,hs,_,e1.bdC k0 k8 (j:=2) rfl,⟨by show _<=b.So+n;omega,by show b.So+n<=_;omega⟩,hs,e1.Bm4 k0 k8 (j:=2) Qd,λwr hx=>⟨rfl,e2.WH hx,hX.trans hx.of_nil⟩⟩
def Nu(h:Zp 8 base w (RF W k b) m)(k0:0<=k)(k8:k<8)(hb:P2 b){op:z69} :
  Cz JL #[.pointer (zoq m k),.agg (z6f op).toArray] w λe w'=>e=.returned (I (ZP b op).2)/\zrz base W m k (ZP b op).1 w w':=by
 refine(zcz (zoq m k) op.kind op.nJ op.n (R:=λv w'=>v=I (ZP b op).2/\zrz base W m k (ZP b op).1 w w') ?_).mono λe w' ⟨v,he,hv,h3⟩=>⟨by rw[he,hv],h3⟩
 have hl2:=hb.l2;have hs:=h.sY k0 k8;intro b1 bY
 have one:∀{w1:Wo},Q0 [] w w1->∀y∈QM 8 m,y∉[b1]:=λ_ y hy hm=>by
  have:y=b1:=by simpa using hm
  have:=(h.lt y hy).2;omega
 have fin:∀{w1 w2 w3:Wo} {b':Um} {c:Int},Q0 [] w w1->(∀y∈[b1],y<w1.heap.size)->zrz base W m k b' w1 w2->Q0 [b1] w2 w3->ZP b op=(b',c)->Q9 [b1] w1 w2/\zrz base W m k (ZP b op).1 w w3:=λh1 h2 h3 h4 h5=>by
  refine⟨λy hm=>h3.2.block y (h2 y hm) λgZ=>one h1 y gZ hm,?_⟩;rw[h5]
  exact ⟨h3.1.ext h4 (one h1), (h1.of_nil.trans h3.2).fresh h4 fun y hm => .inl (by have:y=b1:=by simpa using hm
                                                                                    omega)⟩
 refine⟨λg wr hx dE=>?_,λg=>⟨hs,_,_,_,h.bdC k0 k8 (j:=3) rfl,⟨Qo,Qo⟩,_,QK,λg2 wr hx=>?_,λg2=>?_⟩⟩
 ·have eI:ZP b op=(Jt b,0):=by unfold ZP;rw[C' (by simpa using g)]
  refine I3 (zdx (h.WH hx) k0 k8 hb) ?_;rintro e wv ⟨he,hR⟩;exact⟨_,he,(fin hx dE hR (Q0.refl _ _) eI).1,λR5 S9=>⟨by rw[eI],(fin hx dE hR S9 eI).2⟩⟩
 all_goals have g:¬op.kind=4:=by simpa using g
 ·have eI:ZP b op=(b,1):=by unfold ZP;rw[B' g,C' (by simpa using g2)]
  rw[eI];exact⟨rfl,h.WH hx,hx.of_nil⟩
 have g2:YY op.nJ 0 ((b.locals.length:Int)-1):=by simpa using g2
 obtain⟨c0,c1⟩:=Qu.1 g2;have c1:op.nJ<(b.locals.length:Int):=Qo
 have eI:ZP b op=if op.kind=1 then ZL b op.nJ else if op.kind=2 then Y6 b op.nJ op.n else if op.kind=3 then (Yi b op.nJ,0) else (b,1):=by
  unfold ZP;rw[B' g,B' (by rw[g2];decide)]
 refine⟨λg3 wr hx dE=>?_,λg3=>⟨λg4 wr hx dE=>?_,λg4=>⟨λg5 wr hx dE=>?_,λg5 wr hx=>?_⟩⟩⟩
 ·rw[C' (by simpa using g3)] at eI;refine I3 (zlo (h.WH hx) k0 k8 hb c0 c1) ?_;rintro e wv ⟨he,hR⟩;exact⟨_,he,(fin hx dE hR (Q0.refl _ _) eI).1,λR5 S9=>⟨by rw[eI],(fin hx dE hR S9 eI).2⟩⟩
 ·rw[B' (by simpa using g3),C' (by simpa using g4)] at eI;refine I3 (zhh (n:=op.n) (h.WH hx) k0 k8 hb c0 c1) ?_;rintro e wv ⟨he,hR⟩;exact⟨_,he,(fin hx dE hR (Q0.refl _ _) eI).1,λR5 S9=>⟨by rw[eI],(fin hx dE hR S9 eI).2⟩⟩
 ·rw[B' (by simpa using g3),B' (by simpa using g4),C' (by simpa using g5)] at eI;refine I3 (zdy (h.WH hx) k0 k8 hb c0 c1) ?_;rintro e wv ⟨he,hR⟩;exact⟨_,he,(fin hx dE hR (Q0.refl _ _) eI).1,λR5 S9=>⟨by rw[eI],(fin hx dE hR S9 eI).2⟩⟩
 ·rw[B' (by simpa using g3),B' (by simpa using g4),B' (by simpa using g5)] at eI;rw[eI];exact⟨rfl,h.WH hx,hx.of_nil⟩
end
structure PW (base pb:Nat) (w:Wo) (W:Q7) (m:MW):Prop where
 own:Zp 8 base w W m
 pt:w.heap[pb]? = some (.cells (Qc W m).toArray Q5 (0,0))
 pn:pb∉QM 8 m
abbrev pA(pb:Nat):OA:=some ⟨pb,0,none⟩
structure Mp (base pb:Nat) (bs:List Nat) (w0:Wo) (m0:MW) (w:Wo) (W:Q7) (m:MW):Prop where
 v:Mv 8 base bs w0 m0 w W m
 pt:w.heap[pb]? = some (.cells (Qc W m).toArray Q5 (0,0))
 pn:pb∉QM 8 m
 pb:pb∉bs
section
variable {base pb:Nat}{bs cs:List Nat}{w0 w w':Wo}{W W':Q7}{m0 m m':MW}{b:Nat}
def Mp.start(h:PW base pb w W m):Mp base pb [] w m w W m:=⟨Mv.start h.own,h.pt,h.pn,Qs⟩
def Mp.pw(h:Mp base pb bs w0 m0 w W m):PW base pb w W m:=⟨h.v.own,h.pt,h.pn⟩
def Mp.add(h:Mp base pb bs w0 m0 w W m)(hb:w.heap.size<=b):Mp base pb (bs++[b]) w0 m0 w W m:=⟨h.v.add hb,h.pt,h.pn,λhm=>by
 rcases Im.1 hm with hm|hm
 ·exact h.pb hm
 ·have:pb=b:=by simpa using hm
  have:=V3 h.pt;omega⟩
def Mp.step(h:Mp base pb bs w0 m0 w W m)(hx:Q0 bs w w'):Mp base pb bs w0 m0 w' W m:=⟨h.v.step hx,QP h.pt hx h.pb,h.pn,h.pb⟩
def Mp.R7(h:Mp base pb bs w0 m0 w W m)(hx:Q0 [] w w'):Mp base pb bs w0 m0 w' W m:=⟨h.v.R7 hx,QP h.pt hx Qs,h.pn,h.pb⟩
def Mp.call(h:Mp base pb bs w0 m0 w W m)(k:Mp base pb [] w m w' W' m')(hs:∀x∈bs,x<w.heap.size):Mp base pb bs w0 m0 w' W' m':=⟨h.v.call k.v hs,k.pt,k.pn,h.pb⟩
def Mp.kept(h:Mp base pb bs w0 m0 w W m)(k:Mp base pb [] w m w' W' m')(hs:∀x∈bs,x<w.heap.size):Q9 bs w w':=h.v.kept k.v hs
def Mp.Ss(h:Mp base pb bs w0 m0 w W m)(k:Zp 8 base w' W' m)(hx:Q0 (QM 8 m) w w')(he:Qc W' m=Qc W m):Mp base pb bs w0 m0 w' W' m:=⟨h.v.Ss k hx,by rw[he];exact QP h.pt hx h.pn,h.pn,h.pb⟩
def Mp.sub(h:Mp base pb bs w0 m0 w W m)(hs:∀x∈cs,x∈bs):Mp base pb cs w0 m0 w W m:=⟨h.v.BO0 hs,h.pt,h.pn,λhm=>h.pb (hs _ hm)⟩
def Mp.close(h:Mp base pb bs w0 m0 w W m):Mp base pb [] w0 m0 w W m:=h.sub Qs
def Mp.wpt(h:Mp base pb bs w0 m0 w W m):Pn bs w (pA pb) W m:=⟨VE h.pt h.pb (k0:=0) λj v hj=>by simpa using hj,h.v.rd⟩
def Mp.own(h:Mp base pb bs w0 m0 w W m):Zp 8 base w W m:=h.v.own
def Mp.nb(h:Mp base pb bs w0 m0 w W m):∀x∈QM 8 m,x∉bs:=h.v.nb
end
def zo1{W:Q7}{k c:Int}{s:KM}(h0:0<=k)(h1:k<(W.IE.length:Int)):gi (RC W k c s).IE k={ gi W.IE k with IH:=(gi W.IE k).IH.set c.toNat s }:=by
 unfold RC;rw[Ym h0 h1 h0,C' rfl]
def zvn{W:Q7}{k c:Int}{s s':KM}(h0:0<=k)(h1:k<(W.IE.length:Int)):RC (RC W k c s) k c s'=RC W k c s':=by
 show R3 (RC W k c s) k { gi (RC W k c s).IE k with IH:=(gi (RC W k c s).IE k).IH.set c.toNat s' }=_;rw[zo1 h0 h1]
 dsimp only
 rw[List.set_set];exact zjv
def zrf{W:Q7}{k c:Int}(h0:0<=k)(h1:k<(W.IE.length:Int))(c0:0<=c)(c1:c<((gi W.IE k).IH.length:Int)):RC W k c (Qa W k c)=W:=by
 show R3 W k { gi W.IE k with IH:=(gi W.IE k).IH.set c.toNat (gi (gi W.IE k).IH c) }=W;rw[Ln c0 c1];unfold R3;rw[Ln h0 h1]
section
variable {base pb:Nat}{bs:List Nat}{w:Wo}{W:Q7}{m:MW}{k c:Int}
def Zp.Ae6(h:Zp 8 base w W m)(k0:0<=k)(k8:k<8)(c0:0<=c)(c1:c<((gi W.IE k).IH.length:Int)){j:Nat}{vs:List Va}{s:KM}(he:T9 s=(T9 (Qa W k c)).take j++vs++(T9 (Qa W k c)).drop (j+vs.length))(hj:j+vs.length<=5) :
  Zp 8 base (Rw w (zwb m k c) (0+j) vs) (RC W k c s) m:=by
 have:=h.B39 k0 Qo c0 c1 he hj;rw[<-z3u] at this;unfold zwb;rw[TQ,Nat.zero_add];exact this
def Zp.Be6(h:Zp 8 base w W m)(hd:∀x∈QM 8 m,x∉bs)(k0:0<=k)(k8:k<8)(c0:0<=c)(c1:c<((gi W.IE k).IH.length:Int)){j n:Nat}(hj:j+n<=5):Xh bs w (zwb m k c) (0+j) n:=by
 unfold zwb;refine M5.2 ?_;rw[Nat.zero_add];exact z65 h hd k0 Qo c0 c1 hj
def zj4{vs:List Va}{j:Nat}(k0:0<=k)(k8:k<8):Q0 (QM 8 m) w (Rw w (zwb m k c) (0+j) vs):=by
 unfold zwb;rw[TQ];exact zml Qo
def UR(h:PW base pb w W m)(c0:0<=c)(c1:c<(W.IF.length:Int)) :
  Cz Yp #[.agg #[.pointer (pA pb),I c]] w λe w'=>e=.returned (.tuple #[])/\Mp base pb [] w m w' (Rc W c) m:=by
 refine(H2 (pA pb) c (R:=λv w'=>v=.tuple #[]/\Mp base pb [] w m w' (Rc W c) m) ?_).mono λe w' ⟨v,he,hv,h3⟩=>⟨by rw[he,hv],h3⟩
 intro b hb;obtain⟨e1,e2⟩:=zs3 h.own c0 c1;have hM:=Mp.start h;have hp:=hM.wpt;have hr:=h.own.rd (bs:=[]) Qs;have hs:=MQ (n:=Int.toNat c*5) (hr.c c c0 c1);refine⟨_,VU hp c0 c1,_,VU hp c0 c1,hs,M5.2 (zpk h.own Qs c0 c1 Qd),hs,?_⟩;rw[TQ];refine⟨M5.2 (zpk e1 Qs c0 (by simpa using c1) Qd),?_⟩;rw[TQ];exact λwr hx=>⟨rfl,(hM.Ss e2 (Dz.trans Dz) (by simp[Qc,Rc,RO])).R7 hx⟩
def zhf{p:OA}{g:Int}(h:Pn bs w p W m)(ht:Yr W.IE)(hu:Q6 W.IE g):PX bs V8 #[.pointer p,I g] w (I (dep 3 W.IE g)):=
 Ez p g λwr hx=>by
  have h:=(h.ext hx).less (cs:=[]) Qs
  have hdr:∀x,Q6 W.IE x->0<=dep 3 W.IE x/\dep 3 W.IE x<=3:=λx hux=>by
   by_cases hz:x=0
   ·subst hz;rw[ZR];omega
   ·obtain⟨_,_,_,d,e,_,hd⟩:=Y0 ht hux hz;omega
  refine⟨λvs=>∃(x s:Int),vs=[I x,I s]/\Q6 W.IE x/\0<=s/\s+dep 3 W.IE x=dep 3 W.IE g,λvs=>(dep 3 W.IE (Ye 0 vs)).toNat,⟨g,0,rfl,hu,Qd,Qo⟩,?_⟩;rintro x s ⟨x',s',he,hux,hs0,hI⟩;simp only[I4,I5,true_and,and_true] at he;obtain⟨rfl,rfl⟩:=he;have hgd:=hdr g hu;have hxd:=hdr x hux;refine⟨λhz=>?_,λhz=>?_⟩
  ·have hz:x≠0:=by simpa using hz
   obtain⟨hp,a,b,d,e,e2,hd⟩:=Y0 ht hux hz;refine⟨⟨Qo,Qo⟩,h.some,_,_,_,h.IE,h.rd.g.ix a b,_,h.rd.g.IG a b,⟨_,_,rfl,hp,Qo,Qo⟩,?_⟩;show (dep 3 W.IE (gi W.IE x).IG).toNat<(dep 3 W.IE x).toNat;omega
  ·have hz:x=0:=by simpa using hz
   subst hz;rw[ZR] at hI;rw[show s=dep 3 W.IE g by omega]
def PL{F K:Int}(h:PW base pb w W m)(jJ:SF F K W)(hk:F+Qh<=K)(hK:K<=1000000000000000000)(c0:0<=c)(c1:c<(W.IF.length:Int)) :
  Cz YL #[.agg #[.pointer (pA pb),I c]] w λe w'=>e=.returned (.tuple #[])/\Mp base pb [] w m w' (QF W c) m:=by
 refine(Kt (pA pb) c (R:=λv w'=>v=.tuple #[]/\Mp base pb [] w m w' (QF W c) m) ?_).mono λe w' ⟨v,he,hv,h3⟩=>⟨by rw[he,hv],h3⟩
 intro x hx;have bU:=jJ.w.a.gl
 refine⟨λvs w1=>∃(j:Nat),vs=[I (3-(j:Int))]/\j<=3/\Mp base pb [x] w m w1 (Yh W c j) m,
  λvs _=>(Ye 0 vs).toNat,λwr sJ _=>⟨0,rfl,Qd,((Mp.start h).add hx).R7 sJ⟩,?_⟩
 rintro d wv hs ⟨j,he,j3,hM⟩;obtain⟨hS,hO⟩:=HQ jJ hk c0 c1 j j3;have hN:Yh W c (j+1)=Z9 (Yh W c j) c (3-(j:Int)) 8:=rfl;have hE:j=3->Yh W c j=QF W c:=λe=>by rw[e];rfl
 generalize Yh W c j=W1 at hM hS hO hN hE;simp only[I4,I5,true_and,and_true] at he;refine⟨λhd=>?_,λhd=>?_⟩
 ·have hd:=Ot hd;have oM:c<(W1.IF.length:Int):=by rw[hO.c];exact c1
  have Cx1:W1.IE.length=W.IE.length:=hO.g.len;have hp:=hM.wpt;refine⟨hp.some,_,_,_,hp.IE,?_⟩;rw[Cx1];refine Jm W.IE.length 0 rfl (λk w2=>k<=8/\Mp base pb [x] w m w2 (Z9 W1 c d k) m) (λw2 Rk _=>⟨Qd,hM.step Rk⟩) λk w2 V' ⟨hk8,Wz⟩=>?_
  obtain⟨kW,nG⟩:=FZ hS hk (c:=c) (d:=d) Qo c0 oM k hk8;have hf2:=hO.trans nG;have sG:(Z9 W1 c d k).IE.length=W.IE.length:=hf2.g.len;have AQ8:(Z9 W1 c d k).IF.length=W.IF.length:=by rw[hf2.c]
  have W8:Z9 W1 c d (k+1)=if (gi (Z9 W1 c d k).IE (k:Int)).IV=true/\dep 3 (Z9 W1 c d k).IE (k:Int)=d then RC (Z9 W1 c d k) (k:Int) c (ZH (Z9 W1 c d k) (k:Int) c) else Z9 W1 c d k:=rfl;have hN8:k=8->Yh W c (j+1)=Z9 W1 c d k:=λe=>by rw[hN,<-he,e]
  generalize Z9 W1 c d k=W2 at Wz kW nG hf2 sG AQ8 W8 hN8;have dD:=Wz.wpt;have hr:=dD.rd;refine⟨λIW=>?_,λRM=>?_⟩
  ·have IW:=Ot IW;have Rh:(k:Int)<(W2.IE.length:Int):=Qo;have Wn:=hr.g.ix (i:=(k:Int)) Qo Rh;have hru:=hr.g.IV (i:=(k:Int)) Qo Rh;refine⟨dD.some,_,_,_,dD.IE,Wn,(gi W2.IE (k:Int)).IV,hru,dep 3 W2.IE (k:Int),λg=>?_,λg=>?_,λg=>?_⟩
   ·exact zhf dD kW.w.a.tree (Q2.2 ⟨Qo,Rh,by simpa using g⟩)
   ·refine⟨⟨Qo,Qo⟩,λw3 Rl _=>Qw Qo ⟨Qo,?_⟩⟩;rw[W8,B']
    ·exact Wz.step Rl
    ·rintro⟨h1,h2⟩;rw[h1,h2] at g;simp at g
   ·simp only[H',I6,bne_eq_false_iff_eq] at g;have hu:Q6 W2.IE (k:Int):=Q2.2 ⟨Qo,Rh,g.1⟩;rw[C' ⟨g.1,g.2⟩] at W8;have hsl:=kW.w.a.sl hu
    have hz:(k:Int)≠0:=λe=>by
     rw[e,ZR] at g;omega
    have hpa:=kW.w.a.up hu hz;obtain⟨p0,p1,_⟩:=Q2.1 hpa;have hpl:=kW.w.a.sl hpa;have s1:=kW.w.s _ c hu c0 Qo;have s2:=kW.w.s _ c hpa c0 Qo;have lc:=ZF ((Qa W2 (k:Int) c).v-(Qa W2 (gi W2.IE (k:Int)).IG c).IM) (Qa W2 (k:Int) c).w;have lm:=ZN (Qa W2 (k:Int) c).w;have hsh:=dD.sh (g:=(k:Int)) (c:=c) Qo Rh c0 Qo;have Ca8:=dD.sh (g:=(gi W2.IE (k:Int)).IG) (c:=c) p0 p1 c0 Qo;have AG7:=Kz (g:=(k:Int)) dD kW.w.a c0 Qo;have B11:=zds (g:=(k:Int)) dD kW.w.a hu c0 Qo;have cS:c<((gi W2.IE (k:Int)).IH.length:Int):=Qo;refine⟨_,Zt dD Qo Rh c0 cS,Qv W2 (k:Int) c,AG7,Xu W2 (k:Int) c,λ_=>B11,λ_=>hsh.1,_,λ_=>hsh.2 (j:=1) rfl,λg2=>?_,λg2=>?_⟩
    ·have hss:ZH W2 (k:Int) c=⟨(Qa W2 (k:Int) c).IM,Qv W2 (k:Int) c && !Xu W2 (k:Int) c,(Qa W2 (gi W2.IE (k:Int)).IG c).IM+Yg ((Qa W2 (k:Int) c).v-(Qa W2 (gi W2.IE (k:Int)).IG c).IM) (Qa W2 (k:Int) c).w,(Qa W2 (k:Int) c).w,(Qa W2 (k:Int) c).sum⟩:=by
      unfold ZH;rw[C']
      simpa[Qa] using g2
     have e1:=Wz.own.Ae6 (k:=(k:Int)) (c:=c) Qo Qo c0 cS (j:=2) (vs:=[I ((Qa W2 (gi W2.IE (k:Int)).IG c).IM+Yg ((Qa W2 (k:Int) c).v-(Qa W2 (gi W2.IE (k:Int)).IG c).IM) (Qa W2 (k:Int) c).w)]) (s:={ Qa W2 (k:Int) c with v:=(Qa W2 (gi W2.IE (k:Int)).IG c).IM+Yg ((Qa W2 (k:Int) c).v-(Qa W2 (gi W2.IE (k:Int)).IG c).IM) (Qa W2 (k:Int) c).w }) rfl Qs;have cS1:c<((gi (RC W2 (k:Int) c { Qa W2 (k:Int) c with v:=(Qa W2 (gi W2.IE (k:Int)).IG c).IM+Yg ((Qa W2 (k:Int) c).v-(Qa W2 (gi W2.IE (k:Int)).IG c).IM) (Qa W2 (k:Int) c).w }).IE (k:Int)).IH.length:Int):=by rw[zjz Qo Rh Qo];exact cS
     have dE:Qa (RC W2 (k:Int) c { Qa W2 (k:Int) c with v:=(Qa W2 (gi W2.IE (k:Int)).IG c).IM+Yg ((Qa W2 (k:Int) c).v-(Qa W2 (gi W2.IE (k:Int)).IG c).IM) (Qa W2 (k:Int) c).w }) (k:Int) c={ Qa W2 (k:Int) c with v:=(Qa W2 (gi W2.IE (k:Int)).IG c).IM+Yg ((Qa W2 (k:Int) c).v-(Qa W2 (gi W2.IE (k:Int)).IG c).IM) (Qa W2 (k:Int) c).w }:=by
      rw[UV Qo Rh c0 cS Qo c0,C' ⟨rfl,rfl⟩]
     have e2:=e1.Ae6 (k:=(k:Int)) (c:=c) Qo Qo c0 cS1 (j:=1) (vs:=[.bool (Qv W2 (k:Int) c && !Xu W2 (k:Int) c)]) (s:=ZH W2 (k:Int) c) (by rw[dE,hss];rfl) Qs;rw[zvn Qo Rh] at e2;have hX:=(zj4 (m:=m) (w:=w2) (k:=(k:Int)) (c:=c) (j:=2) (vs:=[I ((Qa W2 (gi W2.IE (k:Int)).IG c).IM+Yg ((Qa W2 (k:Int) c).v-(Qa W2 (gi W2.IE (k:Int)).IG c).IM) (Qa W2 (k:Int) c).w)]) Qo Qo).trans (zj4 (m:=m) (k:=(k:Int)) (c:=c) (j:=1) (vs:=[.bool (Qv W2 (k:Int) c && !Xu W2 (k:Int) c)]) Qo Qo);have heq:Qc (RC W2 (k:Int) c (ZH W2 (k:Int) c)) m=Qc W2 m:=U4 (US Qo Rh).fr;refine⟨dD.some,_,_,_,dD.IE,Wn,_,hr.g.IG Qo Rh,_,Zt dD p0 p1 c0 Qo,Ca8.1,_,Ca8.2 (j:=0) rfl,hsh.1,_,hsh.2 (j:=2) rfl,⟨Qo,Qo⟩,hsh.1,_,hsh.2 (j:=3) rfl,_,zhb,⟨Qo,Qo⟩,hsh.1,Wz.own.Be6 Wz.nb Qo Qo c0 cS (j:=2) Qd,hsh.1,e1.Be6 Wz.nb Qo Qo c0 cS1 (j:=1) Qd,⟨Qo,Qo⟩,λw3 Rl _=>Qw Qo ⟨Qo,?_⟩⟩;rw[W8];exact(Wz.Ss e2 hX heq).step Rl
    ·have hss:ZH W2 (k:Int) c=⟨(Qa W2 (k:Int) c).IM,Qv W2 (k:Int) c && !Xu W2 (k:Int) c,(Qa W2 (k:Int) c).v,(Qa W2 (k:Int) c).w,(Qa W2 (k:Int) c).sum⟩:=by
      unfold ZH;rw[B'];intro h1;rw[h1.1,show (Qa W2 (k:Int) c).on=false from h1.2] at g2;cases g2
     have e2:=Wz.own.Ae6 (k:=(k:Int)) (c:=c) Qo Qo c0 cS (j:=1) (vs:=[.bool (Qv W2 (k:Int) c && !Xu W2 (k:Int) c)]) (s:=ZH W2 (k:Int) c) (by rw[hss];rfl) Qs;have heq:Qc (RC W2 (k:Int) c (ZH W2 (k:Int) c)) m=Qc W2 m:=U4 (US Qo Rh).fr;refine⟨hsh.1,Wz.own.Be6 Wz.nb Qo Qo c0 cS (j:=1) Qd,⟨Qo,Qo⟩,λw3 Rl _=>Qw Qo ⟨Qo,?_⟩⟩;rw[W8];exact(Wz.Ss e2 (zj4 Qo Qo) heq).step Rl
  ·have RM:=Ou RM;have hN8:=hN8 Qo;refine⟨⟨Qo,Qo⟩,λw3 Rl _=>⟨⟨j+1,?_,Qo,?_⟩,?_⟩⟩
   ·rw[show d-1=3-((j+1:Nat):Int) by omega]
   ·rw[hN8];exact Wz.step Rl
   ·show (d-1).toNat<d.toNat;omega
 ·have hd:=Ou hd;rw[<-hE Qo];exact λw2 Rk=>⟨rfl,(hM.step Rk).close⟩
end
def TK(W:Q7)(g c:Int):Nat->Int
 |0=>100000000000000001
 |k+1=>if Z3 W g c k=true then (if Z1 W c k<TK W g c k then Z1 W c k else TK W g c k) else TK W g c k
def Ax{W:Q7}{g c:Int}:∀k:Nat,(∀j,j<k->Z3 W g c j->Z1 W c j<=100000000000000000)->TK W g c k=if Za W g c k=true then QZ W g c k else 100000000000000001
 |0,_=>by
  have:Za W g c 0=false:=rfl;rw[this];rfl
 |k+1,h=>by
  have ih:=Ax k λj hj=>h j Qo
  simp only[TK]
  cases hp:Z3 W g c k with
  |false=>
   have:=Fm (W:=W) (g:=g) (c:=c) (k:=k) (by rw[hp];rfl);rw[B' Qd,ih,this.1,this.2]
  |true=>
   have hv:=h k Qo hp;rw[C' rfl,ih]
   cases hb:Za W g c k with
   |false=>
    have:=Fo (W:=W) (g:=g) (c:=c) (k:=k) (by rw[hp,hb];rfl);rw[this.1,this.2,B' (show ¬(false) by decide),C' (show Z1 W c k<100000000000000001 by omega),C' (show true=true from rfl)]
   |true=>
    rw[C' rfl]
    by_cases IW:Z1 W c k<QZ W g c k
    ·have:=Fo (W:=W) (g:=g) (c:=c) (k:=k) (by rw[hp,Ih IW];simp);rw[this.1,this.2,C' rfl,C' IW]
    ·have:=Fm (W:=W) (g:=g) (c:=c) (k:=k) (by rw[hp,hb,decide_eq_false IW];rfl);rw[this.1,this.2,hb,C' rfl,B' IW]
def z2e{K:Int}{W:Q7}(h:SW K W){g c:Int}(c0:0<=c)(c1:c<(W.IF.length:Int)){j:Nat}(hj:j<20)(hp:Z3 W g c j):Z1 W c j<=K:=by
 have hl:=h.a.gl;unfold Z1
 by_cases h12:j<12
 ·rw[C' h12];exact(h.tv (j:Int) Qo Qo).2
 ·rw[B' h12];unfold Z3 at hp;rw[B' h12] at hp;unfold Xb at hp;simp only[A'] at hp;have hu:Q6 W.IE ((j-12:Nat):Int):=Q2.2 ⟨Qo,Qo,hp.1.2.1⟩;exact(h.s _ c hu c0 c1).2.2.2.1
section
variable {base pb:Nat}{w:Wo}{W:Q7}{m:MW}{k c:Int}
def zn2{K:Int}(h:PW base pb w W m)(jJ:SW K W)(hK0:0<=K)(hK:K<=100000000000000000)(c0:0<=c)(c1:c<(W.IF.length:Int)) :
  Cz Tl #[.agg #[.pointer (pA pb),I c]] w λe w'=>e=.returned (.tuple #[])/\Mp base pb [] w m w' (Z4 W c) m:=by
 refine(Na (pA pb) c (R:=λv w'=>v=.tuple #[]/\Mp base pb [] w m w' (Z4 W c) m) ?_).mono λe w' ⟨v,he,hv,h3⟩=>⟨by rw[he,hv],h3⟩
 intro x hx;have bU:=jJ.a.gl;have hp0:=(Mp.start h).wpt;refine⟨hp0.some,_,_,_,hp0.IE,?_⟩;refine Jm W.IE.length 0 rfl (λk w2=>k<=8/\Mp base pb [x] w m w2 (QI W c k) m) (λw2 Rk _=>⟨Qd,((Mp.start h).add hx).R7 Rk⟩) λk w2 V' ⟨hk8,Wz⟩=>?_
 obtain⟨kW,nG⟩:=On jJ hK0 c0 c1 k hk8;have sG:(QI W c k).IE.length=W.IE.length:=nG.g.len;have AQ8:(QI W c k).IF.length=W.IF.length:=by rw[nG.c]
 have W8:QI W c (k+1)=if (gi (QI W c k).IE (k:Int)).IV=true/\Za (QI W c k) (k:Int) c 20/\QZ (QI W c k) (k:Int) c 20>(Qa (QI W c k) (k:Int) c).IM then RC (QI W c k) (k:Int) c (Eo (QI W c k) (k:Int) c) else QI W c k:=rfl;have hN8:k=8->Z4 W c=QI W c k:=λe=>by rw[e];rfl
 generalize QI W c k=W2 at Wz kW nG sG AQ8 W8 hN8;have hp:=Wz.wpt;have hr:=hp.rd;have jF:=kW.a.t;refine⟨λIW=>?_,λRM=>?_⟩
 ·have IW:=Ot IW;have Rh:(k:Int)<(W2.IE.length:Int):=Qo;refine⟨hp.some,_,_,_,hp.IE,hr.g.ix (i:=(k:Int)) Qo Rh,(gi W2.IE (k:Int)).IV,hr.g.IV Qo Rh,λg=>?_,λg=>?_⟩
  ·refine⟨⟨Qo,Qo⟩,λw3 Rl _=>Qw Qo ⟨Qo,?_⟩⟩;rw[W8,B' (λh1=>by rw[h1.1] at g;cases g)];exact Wz.step Rl
  have g:(gi W2.IE (k:Int)).IV:=by simpa using g
  have hu:Q6 W2.IE (k:Int):=Q2.2 ⟨Qo,Rh,g⟩;have hsl:=kW.a.sl hu;have cS:c<((gi W2.IE (k:Int)).IH.length:Int):=Qo;have hlm:=Ax (W:=W2) (g:=(k:Int)) (c:=c) 20 λj hj hp=>IC (z2e kW c0 Qo hj hp) hK
  refine⟨hp.some,_,_,_,hp.IJ,λvs w1=>∃(t:Nat),vs=[I (TK W2 (k:Int) c t),I (t:Int)]/\t<=12/\Mp base pb [x] w m w1 W2 m,ZG W2.IJ.length 1,λw3 Rl _=>⟨0,rfl,Qd,Wz.step Rl⟩,?_⟩;rintro least x1 Rb fY ⟨t,he,ht,fX⟩;simp only[I4,I5,true_and,and_true] at he;obtain⟨rfl,rfl⟩:=he;have hp3:=fX.wpt;refine⟨λBp3=>?_,λAM5=>?_⟩
  ·have Bp3:=Ot Bp3;have hq:=KB (g:=(k:Int)) (c:=c) hp3 (t:=(t:Int)) Qo Bp3;rw[Ig] at hq;refine⟨hp3.rd.t.ix QT Qo Bp3,_,_,_,_,_,_,_,_,_,hp3.rd.t (t:Int) Qo Bp3,λb1 bY=>⟨Ug W2 (k:Int) c t,hq,λga=>⟨⟨Qo,Qo⟩,λw4 T' _=>⟨⟨t+1,?_,Qo,fX.step T'⟩,?_⟩⟩,λga=>⟨⟨Qo,Qo⟩,λw4 T' _=>⟨⟨t+1,?_,Qo,fX.step T'⟩,?_⟩⟩⟩⟩
   ·simp only[TK];rw[Jn Qo,C' ga,Hh Qo];rfl
   ·simp only[ZG,Xt,Ye,Ie,List.getElem?_cons_succ];omega
   ·simp only[TK];rw[Jn Qo,B' (by rw[ga];decide)];rfl
   ·simp only[ZG,Xt,Ye,Ie,List.getElem?_cons_succ];omega
  have AM5:=Ou AM5;have CJ4:t=12:=Qo;subst CJ4;refine⟨hp3.some,_,_,_,hp3.IE,λvs w1=>∃(i:Nat),vs=[I (TK W2 (k:Int) c (12+i)),I (i:Int)]/\i<=8/\Mp base pb [x] w m w1 W2 m,ZG W2.IE.length 1,λw4 T' _=>⟨0,rfl,Qd,fX.step T'⟩,?_⟩;rintro gQ x9 RI dT ⟨i,he,hi,cM⟩;simp only[I4,I5,true_and,and_true] at he;obtain⟨rfl,rfl⟩:=he;have hp4:=cM.wpt;refine⟨λBd0=>?_,λCW0=>?_⟩
  ·have Bd0:=Ot Bd0;have hh:=LJ (g:=(k:Int)) hp4 kW.a (k:=(i:Int)) Qo Bd0 c0 Qo;rw[Ig] at hh
   have cE:TK W2 (k:Int) c (12+(i+1))=if Xb W2 (k:Int) c i=true then (if (Qa W2 (i:Int) c).v<TK W2 (k:Int) c (12+i) then (Qa W2 (i:Int) c).v else TK W2 (k:Int) c (12+i)) else TK W2 (k:Int) c (12+i):=by
    rw[show 12+(i+1)=12+i+1 from rfl];simp only[TK];rw[J7,Hg]
   refine⟨Xb W2 (k:Int) c i,hh,λga=>?_,λga=>⟨⟨Qo,Qo⟩,λw5 Su _=>⟨⟨i+1,?_,Qo,cM.step Su⟩,?_⟩⟩⟩
   ·have hui:Q6 W2.IE (i:Int):=by
     unfold Xb at ga;simp only[A'] at ga;exact Q2.2 ⟨Qo,Bd0,ga.1.2.1⟩
    have DX6:=kW.a.sl hui;have hsh:=hp4.sh (g:=(i:Int)) (c:=c) Qo Bd0 c0 Qo;refine⟨_,Zt hp4 Qo Bd0 c0 Qo,hsh.1,_,hsh.2 (j:=2) rfl,⟨Qo,Qo⟩,λw5 Su _=>⟨⟨i+1,?_,Qo,cM.step Su⟩,?_⟩⟩
    ·rw[cE,C' ga];rfl
    ·simp only[ZG,Xt,Ye,Ie,List.getElem?_cons_succ];omega
   ·rw[cE,B' (by rw[ga];decide)];rfl
   ·simp only[ZG,Xt,Ye,Ie,List.getElem?_cons_succ];omega
  have CW0:=Ou CW0;have hi8:i=8:=Qo;subst hi8;rw[show 12+8=20 from rfl,hlm];have hsh:=hp4.sh (g:=(k:Int)) (c:=c) Qo Rh c0 cS;have br:=zcj kW (k:=(k:Int)) c0 Qo hK0;refine⟨λgl=>?_,λgl=>?_⟩
  ·have hb:Za W2 (k:Int) c 20:=Iq λhb=>by rw[B' hb] at gl;revert gl;decide
   rw[C' hb];have e1:=cM.own.Ae6 (k:=(k:Int)) (c:=c) Qo Qo c0 cS (j:=0) (vs:=[I (if QZ W2 (k:Int) c 20>(Qa W2 (k:Int) c).IM then QZ W2 (k:Int) c 20 else (Qa W2 (k:Int) c).IM)]) (s:={ Qa W2 (k:Int) c with IM:=if QZ W2 (k:Int) c 20>(Qa W2 (k:Int) c).IM then QZ W2 (k:Int) c 20 else (Qa W2 (k:Int) c).IM }) rfl Qs
   have heq:RC W2 (k:Int) c { Qa W2 (k:Int) c with IM:=if QZ W2 (k:Int) c 20>(Qa W2 (k:Int) c).IM then QZ W2 (k:Int) c 20 else (Qa W2 (k:Int) c).IM }=QI W c (k+1):=by
    rw[W8]
    by_cases hgt:QZ W2 (k:Int) c 20>(Qa W2 (k:Int) c).IM
    ·rw[C' hgt,C' (show (gi W2.IE (k:Int)).IV/\Za W2 (k:Int) c 20/\_>_ from ⟨g,hb,hgt⟩)];rfl
    ·rw[B' hgt,B' (λh=>hgt h.2.2)];exact zrf Qo Rh c0 cS
   have vJ:Qc (RC W2 (k:Int) c { Qa W2 (k:Int) c with IM:=if QZ W2 (k:Int) c 20>(Qa W2 (k:Int) c).IM then QZ W2 (k:Int) c 20 else (Qa W2 (k:Int) c).IM }) m=Qc W2 m:=U4 (US Qo Rh).fr;refine⟨_,Zt hp4 Qo Rh c0 cS,_,Zt hp4 Qo Rh c0 cS,hsh.1,_,hsh.2 (j:=0) rfl,hsh.1,cM.own.Be6 cM.nb Qo Qo c0 cS (j:=0) Qd,⟨Qo,Qo⟩,λw5 Su _=>Qw (w1:=w2) Qo ⟨Qo,?_⟩⟩;rw[<-heq];exact(cM.Ss e1 (zj4 Qo Qo) vJ).step Su
  ·have hb:¬Za W2 (k:Int) c 20:=λhb=>by
    rw[C' hb] at gl;have:=Ou gl;omega
   refine⟨⟨Qo,Qo⟩,λw5 Su _=>Qw (w1:=w2) Qo ⟨Qo,?_⟩⟩;rw[W8,B' (λh=>hb h.2.1)];exact cM.step Su
 ·have RM:=Ou RM;rw[hN8 Qo];exact λw3 Rl=>⟨rfl,(Wz.step Rl).close⟩
def Mp.nil{w0 w:Wo}{m0:MW}(h:Mp base pb [] w0 m0 w W m){w':Wo}(hx:Q0 [] w w'):Mp base pb [] w0 m0 w' W m:=h.step hx
def JT{K:Int}(h:PW base pb w W m)(jJ:SW K W)(hK0:0<=K)(hK:K+UW<=100000000000000000) :
  Cz ZB #[.pointer (pA pb)] w λe w'=>e=.returned (.tuple #[])/\Mp base pb [] w m w' (Qb W) m:=by
 refine(Do (pA pb) (R:=λv w'=>v=.tuple #[]/\Mp base pb [] w m w' (Qb W) m) ?_).mono λe w' ⟨v,he,hv,h3⟩=>⟨by rw[he,hv],h3⟩
 have bU:=jJ.a.gl;have CV1:=jJ.a.c2;simp only[UW,Qh] at hK;have hp0:=(Mp.start h).wpt;refine⟨hp0.some,_,_,_,hp0.IF,?_⟩;refine Jm W.IF.length 0 rfl (λk w1=>k<=W.IF.length/\Mp base pb [] w m w1 (Z2 W k) m) (λw1 S9 _=>⟨Ic _,(Mp.start h).R7 S9⟩) λk w1 dE ⟨hk,hM⟩=>?_
 obtain⟨hS,hO⟩:=T3 (F:=K) (K:=K+Qh) (jJ.sf.mono (I2 _) (by simp only[Qh];omega)) (I2 _) k hk;have W8:Z2 W (k+1)=QF (Z2 W k) (k:Int):=rfl;have sF:k=W.IF.length->Z2 W W.IF.length=Z2 W k:=λe=>by rw[e]
 obtain⟨n1,n2,n3⟩:=LH hO.fr;generalize Z2 W k=W1 at hM hS hO W8 sF n1 n2 n3;refine⟨λIW=>⟨_,_,Ux,λR5 S9 V'=>?_⟩,λRM=>?_⟩
 ·have IW:=Ot IW;have hM1:=hM.nil S9;refine I3 (PL hM1.pw hS Qo (by simp only[Qh];omega) (c:=(k:Int)) Qo Qo) ?_;rintro e RI ⟨he,hy⟩;refine⟨he,Xm,⟨Qo,Qo⟩,λw3 Rl _=>Qw Qo ⟨Qo,?_⟩⟩;rw[W8];exact(hM1.call hy Qs).nil Rl
 have RM:=Ou RM;have sF:=sF Qo;have SS:Qb W=YB (PK W1) W.IF.length:=by unfold Qb;rw[sF]
 have hp1:=hM.wpt;refine⟨hp1.some,_,_,_,hp1.IE,?_⟩;refine Jm W1.IE.length 0 rfl (λg w2=>g<=8/\Mp base pb [] w m w2 (Zv W1 g) m) (λw2 Rk _=>⟨Qd,hM.nil Rk⟩) λg w2 V' ⟨hg8,Wz⟩=>?_
 obtain⟨kW,nG⟩:=JP hS g hg8;have AL2:Zv W1 (g+1)=if (gi (Zv W1 g).IE (g:Int)).IV=true/\(gi (Zv W1 g).IE (g:Int)).IL.I'≠0 then Ze (Zv W1 g) (g:Int) (Zv W1 g).IF.length else Zv W1 g:=rfl;have AR0:g=8->PK W1=Zv W1 g:=λe=>by rw[e];rfl
 have hf2:=hO.fr.trans nG.fr;generalize Zv W1 g=W2 at Wz kW nG AL2 AR0 hf2;obtain⟨q1,q2,q3⟩:=LH hf2;have dD:=Wz.wpt;refine⟨λIW=>?_,λaX=>?_⟩
 ·have IW:=Ot IW;have Rh:(g:Int)<(W2.IE.length:Int):=Qo;have hrl:=dD.rd.g.Cc9 (i:=(g:Int)) Qo Rh;refine⟨dD.some,_,_,_,dD.IE,dD.rd.g.ix Qo Rh,_,_,_,hrl,?_⟩
  by_cases hq:(gi W2.IE (g:Int)).IV/\(gi W2.IE (g:Int)).IL.I'≠0
  ·rw[C' hq] at AL2;have hu:Q6 W2.IE (g:Int):=Q2.2 ⟨Qo,Rh,hq.1⟩;have vI:=((kW.w.a.u hu).2.2.IL hq.2).2.1;refine Jm (gi W2.IE (g:Int)).IL.locals.length 0 rfl (λc w3=>c<=W2.IF.length/\Mp base pb [] w m w3 (Ze W2 (g:Int) c) m) (λw3 Rl _=>⟨Ic _,Wz.nil Rl⟩) λc w3 fY ⟨hc,fX⟩=>?_
   obtain⟨hS3,hO3,hq3⟩:=Mz kW hu hq.2 c hc;have AB7:Ze W2 (g:Int) (c+1)=if gi (gi (Ze W2 (g:Int) c).IE (g:Int)).IL.locals (c:Int)>0/\Qv (Ze W2 (g:Int) c) (g:Int) (c:Int)=false then RF (Ze W2 (g:Int) c) (g:Int) (Yi (gi (Ze W2 (g:Int) c).IE (g:Int)).IL (c:Int)) else Ze W2 (g:Int) c:=rfl;have B81:c=W2.IF.length->Zv W1 (g+1)=Ze W2 (g:Int) c:=λe=>by rw[AL2,e]
   have hu3:Q6 (Ze W2 (g:Int) c).IE (g:Int):=by rw[hO3.g.aO];exact hu
   have hf3:=hf2.trans hO3.fr;generalize Ze W2 (g:Int) c=W3 at fX hS3 hO3 hq3 AB7 B81 hu3 hf3;obtain⟨r1,r2,r3⟩:=LH hf3;obtain⟨u0,u1,kJ⟩:=hS3.w.a.u hu3;obtain⟨qS,Cv7,_⟩:=kJ.IL hq3;have Ab4:(g:Int)<(W3.IE.length:Int):=Qo;have hp3:=fX.wpt;have hLo:=hp3.rd.g.locals (g:Int) Qo Ab4;refine⟨λkN=>?_,λAR3=>?_⟩
   ·have kN:=Ot kN;have CX1:=hLo.ix XU (i:=(c:Int)) Qo Qo;rw[Cv7,r1,<-q1,<-vI] at CX1;have AG7:=Kz (g:=(g:Int)) (c:=(c:Int)) hp3 hS3.w.a Qo Qo;refine⟨CX1,_,hLo (c:Int) Qo Qo,_,_,λ_=>Ux,_,λ_=>AG7,λg3 RQ Su _=>?_,λg3=>?_⟩
    ·simp only[A',Ij,ID] at g3;rw[C' g3] at AB7;have nM:=fX.nil Su;have Bp7:Zp 8 base RQ (RF W3 (g:Int) (gi W3.IE (g:Int)).IL) m:=by rw[G6 Qo Ab4];exact nM.own
     refine I3 (Nu (op:=⟨3,(c:Int),0⟩) Bp7 Qo Qo qS) ?_;rintro e1 dX ⟨kB,hB,hX⟩
     have eI:ZP (gi W3.IE (g:Int)).IL ⟨3,(c:Int),0⟩=(Yi (gi W3.IE (g:Int)).IL (c:Int),0):=by
      unfold ZP;rw[B' (show ¬(3:Int)=4 by decide),B' (by rw[Qu.2 (by show 0<=(c:Int)/\(c:Int)<=_;omega)];decide),B' (show ¬(3:Int)=1 by decide),B' (show ¬(3:Int)=2 by decide),C' rfl]
     rw[eI] at kB hB
     dsimp only at kB hB
     refine⟨_,kB,Xm,⟨Qo,Qo⟩,λw6 bE _=>Qw Qo ⟨Qo,?_⟩⟩;rw[AB7];exact(nM.Ss hB hX (U4 (HT Qo Ab4).fr)).nil bE
    ·refine⟨⟨Qo,Qo⟩,λw6 bE _=>Qw Qo ⟨Qo,?_⟩⟩;rw[AB7,B']
     ·exact fX.nil bE
     ·rintro⟨h1,h2⟩;rw[h2,Ih h1] at g3;cases g3
   ·have AR3:=Ou AR3;refine⟨⟨Qo,Qo⟩,λw6 bE _=>Qw Qo ⟨Qo,?_⟩⟩;rw[B81 Qo];exact fX.nil bE
  ·rw[B' hq] at AL2
   have hz:(gi W2.IE (g:Int)).IL.locals.length=0:=by
    have hgp:=kW.w.a.grp (g:Int) Qo Qo
    cases hu:(gi W2.IE (g:Int)).IV with
    |false=>exact(Hm (hgp.1 hu).b).2.2.2.1
    |true=>
     have h0:(gi W2.IE (g:Int)).IL.I'=0:=Iq λhn=>hq ⟨hu,hn⟩
     exact(Hm ((hgp.2 hu).none h0).1).2.2.2.1
   rw[hz];refine Jm 0 0 rfl (λc w3=>c<=0/\Mp base pb [] w m w3 W2 m) (λw3 Rl _=>⟨Ic _,Wz.nil Rl⟩) λc w3 fY ⟨hc,fX⟩=>⟨λkN=>?_,λ_=>⟨⟨Qo,Qo⟩,λw6 bE _=>Qw Qo ⟨Qo,?_⟩⟩⟩
   ·have:=Ot kN;omega
   ·rw[AL2];exact fX.nil bE
 have aX:=Ou aX;have AR0:=AR0 Qo;rw[AR0] at SS;have hS4:SW (K+Qh) W2:=kW.w;refine⟨dD.some,_,_,_,dD.IF,?_⟩;refine Jm W2.IF.length 0 rfl (λk w3=>k<=W2.IF.length/\Mp base pb [] w m w3 (YB W2 k) m) (λw3 Rl _=>⟨Ic _,Wz.nil Rl⟩) λk w3 fY ⟨hk,lR⟩=>?_
 obtain⟨hS7,hf7⟩:=Pi hS4 (by simp only[Qh];omega) k hk;have AQ9:YB W2 (k+1)=Xs (YB W2 k) (k:Int):=rfl;have AR1:k=W2.IF.length->Qb W=YB W2 k:=λe=>by rw[SS,<-q1,e]
 have hfW:=hf2.trans hf7;obtain⟨q1,q2,q3⟩:=LH hfW;generalize YB W2 k=W7 at lR hS7 hf7 AQ9 AR1 hfW q1 q2 q3;refine⟨λIW=>⟨_,_,Ux,λb hb Sq AC2 oP=>?_⟩,λRM=>?_⟩
 ·have IW:=Ot IW;have hM9:=(lR.add hb).R7 AC2;have hk4:(k:Int)<=4:=Qo;have oM:(k:Int)<(W7.IF.length:Int):=Qo;have hSF:=hS7.sf.mono (F':=K+Qh+(k:Int)*Qh) (K':=K+Qh+(k:Int)*Qh+Qh) (I2 _) (by simp only[Qh];omega);refine I3 (PL hM9.pw hSF (I2 _) (by simp only[Qh];omega) (c:=(k:Int)) Qo oM) ?_;rintro e2 fB ⟨bH,SQ⟩;obtain⟨hS8,hO8⟩:=HP hSF (I2 _) (c:=(k:Int)) Qo oM;have hM8:=hM9.call SQ oP;refine⟨bH,hM9.kept SQ oP,λSr wA AC0=>?_⟩;have BJ0:=hM8.step wA;have cE:Xs W7 (k:Int)=if P9 (Z4 (QF W7 (k:Int)) (k:Int)) (k:Int)=true then Rc (Z4 (QF W7 (k:Int)) (k:Int)) (k:Int) else Z4 (QF W7 (k:Int)) (k:Int):=rfl;have c2':(k:Int)<((QF W7 (k:Int)).IF.length:Int):=by rw[hO8.c];exact oM
  refine I3 (zn2 BJ0.pw hS8.w (by simp only[Qh];omega) (by simp only[Qh];omega) (c:=(k:Int)) Qo c2') ?_;rintro e3 sA ⟨gD,eD⟩;obtain⟨CF1,CF0⟩:=On hS8.w (by simp only[Qh];omega) (c:=(k:Int)) Qo c2' 8 Qd;have Ab2:=BJ0.call eD AC0;have BI9:=BJ0.kept eD AC0;have Bc5:Fr W (Z4 (QF W7 (k:Int)) (k:Int)):=(hfW.trans hO8.fr).trans CF0.fr;have tD:SW (K+Qh+(k:Int)*Qh+Qh) (Z4 (QF W7 (k:Int)) (k:Int)):=CF1;generalize Z4 (QF W7 (k:Int)) (k:Int)=W11 at Ab2 Bc5 tD cE;obtain⟨r1,r2,r3⟩:=LH Bc5;have hp:=Ab2.wpt;have c3':(k:Int)<(W11.IF.length:Int):=Qo;have qU:=tD.cu (k:Int) Qo c3';have jF:=tD.a.t
  have hT:((gi W11.IF (k:Int)).cur != -1)->0<=(gi W11.IF (k:Int)).cur/\(gi W11.IF (k:Int)).cur<(W11.IJ.length:Int):=λg=>by
   have:(gi W11.IF (k:Int)).cur≠-1:=by simpa using g
   exact⟨Qo,Qo⟩
  have B10:=VU (c:=(k:Int)) hp Qo c3';have CA0:=MQ (n:=Int.toNat (k:Int)*5) (hp.rd.c (k:Int) Qo c3');have WO:=JK (hp.rd.c (k:Int) Qo c3') (j:=1) rfl
  have B84:P9 W11 (k:Int)=(((gi W11.IF (k:Int)).cur != -1) && !(((Q8 W11 (gi W11.IF (k:Int)).cur).R1==(k:Int))&&Zf W11 (gi W11.IF (k:Int)).cur)):=by
   unfold P9
   have e:decide ((gi W11.IF (k:Int)).cur>=0)=((gi W11.IF (k:Int)).cur != -1):=by
    by_cases hc:(gi W11.IF (k:Int)).cur = -1
    ·rw[hc];rfl
    ·rw[It.2 hc,Ih Qo]
   rw[e,Bool.not_and];rfl
  refine⟨gD,BI9,_,B10,CA0,_,WO,_,λ_=>B10,λ_=>CA0,_,λ_=>WO,_,λg=>DJ hp tD.a (hT g).1 (hT g).2 Qo c3' (λhs=>(tD.li (hT g).1 (hT g).2 hs).1),λg SA wB AR9=>?_,λg=>?_⟩
  ·have BJ1:=Ab2.step wB;refine I3 (UR BJ1.pw (c:=(k:Int)) Qo c3') ?_;rintro e4 uO ⟨he4,iD⟩;refine⟨he4,BJ1.kept iD AR9,⟨Qo,Qo⟩,λw6 bE _=>Qw Qo ⟨Qo,?_⟩⟩;rw[AQ9,cE,C' (by rw[B84];exact g)];exact((BJ1.call iD AR9).step bE).close
  ·refine⟨⟨Qo,Qo⟩,λw6 bE _=>Qw Qo ⟨Qo,?_⟩⟩;rw[AQ9,cE,B' (by rw[B84,g];decide)];exact(Ab2.step bE).close
 ·have RM:=Ou RM;rw[AR1 Qo];exact λw9 kL=>⟨rfl,lR.nil kL⟩
end
section
variable {b:Um}{m:MG}{w:Wo}
def zqi(h1:zm3 [] w m.lO b.locals)(h2:zwi [] w m.dO b.Ry)(l1:b.locals.length<=1048576)(l2:b.Ry.length<=1048576) :
  Cz Oo #[.agg (ZI b m).toArray] w λe w'=>∃p,e=.returned (.agg (ZI b p).toArray)/\Zz w.heap.size w' b p/\Q0 [] w w':=by
 refine(CD b.I' b.RH b.So m.lO b.locals.length m.lC m.dO b.Ry.length m.dC (R:=λv w'=>∃p,v=.agg (ZI b p).toArray/\Zz w.heap.size w' b p/\Q0 [] w w') ?_).mono λe w' ⟨v,he,p,hv,h3⟩=>⟨p,by rw[he,hv],h3⟩
 have hm9:=Y5;intro x hx x5 Su wr sJ hs0;have s0:Sc w [x,x5] wr:=(((Sc.start w).add hx).add Su).R7 sJ;refine⟨_,_,_,_,KI Xe MV b.locals.length Qo Qo wr,Qi (Zc _ _) hs0,λR5 S9 dE=>?_⟩;have hL0:Ob U2 1 Qg wr.heap.size [x,x5] _ (some ⟨wr.heap.size,0,none⟩) b.locals.length (List.replicate b.locals.length (0:Int)):=Ob.of (Vj (enc:=U2) Xe.len Qg b.locals.length (0:Int) wr) hs0;have s1:=(s0.R7 (Zc wr (.cells ((List.replicate b.locals.length (0:Int)).flatMap U2).toArray Qg))).step S9;have hL1:=hL0.step S9;obtain⟨n1,w2,A56,hL2,cW⟩:=ztf Xe MV z45 Qd (c2:=m.lC) hL1.own (h1.ext s1.ext) (m:=b.locals) Qs Qg #[false,false];rw[List.length_replicate] at A56;have s2:=s1.call cW λy hy=>IB s0.ext.size (hL1.own.lt y hy).1
 have Cu2:Ob U2 1 Qg wr.heap.size [x,x5] w2 (some ⟨wr.heap.size,0,none⟩) b.locals.length b.locals:=⟨hL2,hL1.nb⟩;refine⟨_,_,A56,Ld cW dE hL1.nb,λR6 Rk V'=>⟨_,_,_,_,KI J0 Lq b.Ry.length Qo Qo R6,Qi (Zc _ _) V',λRD Rl fY=>?_⟩⟩;have s3:=((s2.step Rk).R7 (Zc R6 (.cells ((List.replicate b.Ry.length false).flatMap K3).toArray ZA))).step Rl;have hL3:=((Cu2.step Rk).R7 (Zc R6 (.cells ((List.replicate b.Ry.length false).flatMap K3).toArray ZA))).step Rl;have hD0:Ob K3 1 ZA R6.heap.size [x,x5] _ (some ⟨R6.heap.size,0,none⟩) b.Ry.length (List.replicate b.Ry.length false):=Ob.of (Vj (enc:=K3) J0.len ZA b.Ry.length false R6) V';have hD1:=hD0.step Rl;obtain⟨n2,w4,A57,hD2,SQ⟩:=ztf J0 Lq z6p Qd (c2:=m.dC) hD1.own (h2.ext s3.ext) (m:=b.Ry) Qs Qg #[false,false];rw[List.length_replicate] at A57;have hz2:w.heap.size<=R6.heap.size:=(s2.step Rk).ext.size;have s4:=s3.call SQ λy hy=>IB hz2 (hD1.own.lt y hy).1
 have hL4:=hL3.call SQ (hL3.own.Wd hD1.own Qd);have hD3:Ob K3 1 ZA R6.heap.size [x,x5] w4 (some ⟨R6.heap.size,0,none⟩) b.Ry.length b.Ry:=⟨hD2,hD1.nb⟩;exact⟨_,_,A57,Ld SQ fY hD1.nb,λRE T'=>⟨⟨some ⟨wr.heap.size,0,none⟩,b.locals.length,some ⟨R6.heap.size,0,none⟩,b.Ry.length,none,0⟩,rfl,⟨(hL4.step T').own.mono s0.ext.size,(hD3.step T').own.mono hz2⟩,(s4.step T').ext⟩⟩
end
def Bo{α:Type}[Inhabited α]{P:Program}{enc:α->List Va}{z:Nat}{ty t:TypeId}{bytes:Nat}{zero:α}(E:zpl P enc z ty bytes zero)(ht:P.underlying t=some (.slice ty))(Bp6:∀x,Zk (enc x))(hz0:0<z){w:Wo}{o:OA}{c:Nat}{l:List α}(h:Rd enc z [] w o l)(hl:l.length<=1048576)(hby:bytes<=1000)(tr:TypeId)(cs:Array Bool) :
  ∃o' c' w',(builtin .append #[t,t] tr cs #[.slice none 0 0,.slice o l.length c]).run P w=.ok (.value (.slice o' l.length c')) w'/\UD enc z ty w.heap.size w' o' c' l/\Q0 [] w w':=by
 have hO:UD enc z ty w.heap.size w none 0 ([]:List α):=.inl ⟨rfl,rfl,rfl⟩
 have hbb:(2*(([]:List α).length+l.length))*bytes<=281474976710656:=by
  rw[List.length_nil,Nat.zero_add];exact IB (Nat.mul_le_mul (show 2*l.length<=2097152 by omega) hby) Qd
 obtain⟨o',c',w',h1,h2,h3,_⟩:=zte E ht hO (zzo E.len Bp6 ht h (c:=c) hz0) hbb (by rw[List.length_nil];omega) tr (I7 _);rw[List.length_nil,Nat.zero_add] at h1;exact⟨o',c',w',zcn h1,h2,h3⟩
def zop(W:Q7)(ms:Nat->MG)(n k:Nat)(hk:k<n)(p:MG):(O6 W ms n).set k (gi W.IE (k:Int),p)=O6 W (λj=>if j=k then p else ms j) n:=by
 refine zqc (by rw[E',X8,X8]) λj hj=>?_
 rw[E',X8] at hj;have:=Qx (O6 W ms n) (gi W.IE (k:Int),p) (i:=(k:Int)) Qo (by rw[X8];omega) (j:=(j:Int)) Qo;rw[Ig] at this;rw[this,HX Qo Qo,HX Qo Qo]
 by_cases e:k=j
 ·subst e;simp
 ·rw[B' Qo,B' (by simp;omega)]
def zq3(W:Q7){ms ms':Nat->MG}{n:Nat}(h:∀j,j<n->ms j=ms' j):O6 W ms n=O6 W ms' n:=by
 unfold O6;exact List.map_congr_left λj hj=>by rw[h j (List.mem_range.1 hj)]
section
variable {W:Q7}{m:MW}{w:Wo}
def Aw(h:XV [] w W m)(ha:WA W) :
  Cz U7 #[.agg (Qc W m).toArray] w λe w'=>∃m',e=.returned (.agg (Qc W m').toArray)/\Zp 8 w.heap.size w' W m'/\Q0 [] w w':=by
 refine(Nb _ _ _ _ _ _ _ _ _ _ (R:=λv w'=>∃m',v=.agg (Qc W m').toArray/\Zp 8 w.heap.size w' W m'/\Q0 [] w w') ?_).mono λe w' ⟨v,he,m',hv,h3⟩=>⟨m',by rw[he,hv],h3⟩
 have qT:=ha.c2;have jF:=ha.t;have bU:=ha.gl;intro x hx x1 S9 x2 Rk wr sJ hs0;have s0:Sc w [x,x1,x2] wr:=((((Sc.start w).add hx).add S9).add Rk).R7 sJ;obtain⟨cO,cC,w1,A56,hC1,cW⟩:=Bo HN KK z44 Qd (c:=m.cC) (h.c.ext s0.ext) Qo Qd Zy #[false,false];refine⟨_,_,_,_,A56,Qi cW hs0,λR5 Cb5 dE=>?_⟩;have s1:=(s0.R7 cW).step Cb5;have vA:=(Ob.of hC1 hs0).step Cb5;obtain⟨tO,tC,w2,A57,hT1,SQ⟩:=Bo Mh MU z6r Qd (c:=m.tC) (h.t.ext s1.ext) Qo Qd Z8 #[false,false];refine⟨_,_,_,_,A57,Qi SQ dE,λR6 CJ7 V'=>?_⟩;have s2:=(s1.R7 SQ).step CJ7;have hC3:=(vA.R7 SQ).step CJ7;have hT3:=(Ob.of hT1 dE).step CJ7
 have hrp:Rd Om 14 [] R6 m.gO (O6 W m.ms 8):=λi h0 hi=>by
  rw[X8] at hi;rw[HX h0 hi];exact(h.g.ext s2.ext).cells i h0 Qo
 obtain⟨gO,gC,w3,Bq2,hG1,eD⟩:=Bo YG PE (λp=>z6q p.1 p.2) Qd (c:=m.gC) hrp (by rw[X8];decide) Qd QE #[false,false];rw[X8] at Bq2;have Bq3:(builtin .append #[QE,QE] QE #[false,false] #[.slice none 0 0,.slice m.gO W.IE.length m.gC]).run Tryz.prog R6=.ok (.value (.slice gO W.IE.length gC)) w3:=by rw[bU];exact Bq2
 have z1:w.heap.size<=R5.heap.size:=s1.ext.size;have z2:w.heap.size<=R6.heap.size:=s2.ext.size;have s3:=s2.R7 eD;have hC4:=(hC3.R7 eD).mono s0.ext.size;have hT4:=(hT3.R7 eD).mono z1;have hG4:=Ob.of hG1 V'
 refine⟨_,_,_,_,Bq3,Qi eD V',λvs w4=>∃(k:Nat) (ms:Nat->MG),vs=[I (k:Int)]/\k<=8/\Sc w [x,x1,x2] w4/\R6.heap.size<=w4.heap.size/\Ob Gv 5 Zi w.heap.size [x,x1,x2] w4 cO cC W.IF/\Ob Xc 9 QQ w.heap.size [x,x1,x2] w4 tO tC W.IJ/\Ob Om 14 Z0 R6.heap.size [x,x1,x2] w4 gO gC (O6 W ms 8)
   /\ (∀j,j<k->PR R6.heap.size w4 (gi W.IE (j:Int),ms j)/\∀y∈Qt (ms j),y∉[x,x1,x2])/\(∀i j,i<k->j<k->i≠j->∀y∈Qt (ms i),y∉Qt (ms j))/\(∀j,k<=j->ms j=m.ms j),
  ZG W.IE.length 0,λw4 T' _=>⟨0,m.ms,rfl,Qd,s3.step T',IB eD.size T'.size,hC4.step T',hT4.step T',hG4.step T',λj hj=>by omega,λi j hi=>by omega,λj _=>rfl⟩,?_⟩
 clear s3 hC4 hT4 hG4 hG1 hrp Bq2 Bq3 hC3 hT3 vA hT1 A56 A57 hC1;rintro x9 S3 fY ⟨k,ms,he,hk,s3,z3,hC,hT,hG,hE,hJ,hF⟩;simp only[I4,I5,true_and,and_true] at he;subst he;refine⟨λIW=>?_,λRM=>?_⟩
 ·have IW:=Ot IW;have hrb:Gd [x,x1,x2] S3 m.gO W.IE m.ms:=(h.g.wide (cs:=[x,x1,x2]) λy hm=>.inr (s3.new y hm)).ext s3.ext.of_nil;have Wn:=hrb.ix (i:=(k:Int)) Qo IW;obtain⟨bl1,bl2,bl3⟩:=KR ha (k:=(k:Int)) Qo Qo;refine⟨Wn,_,_,_,_,_,_,_,_,_,_,_,_,_,_,_,_,_,_,_,_,hrb.cells (k:Int) Qo IW,λb3 qS RE T' dT=>?_⟩;have s4:=s3.put T' qS;have hC4:=hC.put T' qS;have hT4:=hT.put T' qS;have hG4:=hG.put T' qS;have hr4:=h.g.ext s4.ext;have z4:R6.heap.size<=RE.heap.size:=IB z3 T'.size;refine I3 (zqi (hr4.locals (k:Int) Qo IW) (hr4.Ry (k:Int) Qo IW) Qo Qo) ?_;rintro e bG ⟨p,he,hB,iD⟩;have s5:=s4.R7 iD;have hC5:=hC4.R7 iD;have hT5:=hT4.R7 iD;have hG5:=hG4.R7 iD;have sU:gi (O6 W ms 8) (k:Int)=(gi W.IE (k:Int),ms k):=by rw[HX Qo Qo,Ig]
  have hmk:ms k=m.ms k:=hF k (I7 _);have hBn:∀y∈YK p,RE.heap.size<=y:=λy hm=>(hB.lt y hm).1
  have e1:=hG5.own.Rw YG.len (i:=(k:Int)) Qo (by rw[X8];omega) (j:=8) (vs:=ZI (gi W.IE (k:Int)).IL p) (x:=(gi W.IE (k:Int),KH (ms k) p)) (by rw[sU];rfl) (by simp[ZI]);have CW1:=hG5.own.ix (i:=(k:Int)) Qo (by rw[X8];omega);have CW4:=hG5.own.wr YG.len hG5.nb (i:=(k:Int)) Qo (by rw[X8];omega) (j:=8) (n:=5) Qd;rw[X8] at CW1;have B83:Ix gO W.IE.length (k:Int):=by rw[bU];exact CW1
  simp only[Ig] at e1 CW4;rw[zop W ms 8 k Qo] at e1;refine⟨_,_,_,_,_,_,_,_,_,he,Qi iD dT,rfl,B83,CW4,λRQ Su fK=>?_⟩;have hX5:=hG5.own.rP (k*14+8) (ZI (gi W.IE (k:Int)).IL p);have s6:=(s5.call hX5 λy hy=>IB z2 (hG5.own.lt y hy).1).step Su;have hC6:=(hC5.call hX5 (hC5.own.Wd hG5.own Qd)).step Su;have hT6:=(hT5.call hX5 (hT5.own.Wd hG5.own Qd)).step Su;have hG6:Ob Om 14 Z0 R6.heap.size ([x,x1,x2]++[b3]) RQ gO gC (O6 W (λj=>if j=k then KH (ms k) p else ms j) 8):=(⟨e1,hG5.nb⟩:Ob Om 14 Z0 R6.heap.size ([x,x1,x2]++[b3]) _ gO gC _).step Su
  have Bz5:∀y∈YK p,y∉[x,x1,x2]++[b3]:=λy hm gZ=>by
   have:=hBn y hm;have:=dT y gZ;omega
  have hBg:∀y∈YK p,y∉QL gO:=λy hm gZ=>by
   have:=hBn y hm;have:=(hG4.own.lt y gZ).2;omega
  have hB6:=(hB.ext hX5 hBg).ext Su Bz5;have z5:RE.heap.size<=RQ.heap.size:=IB (IB iD.size hX5.size) Su.size;obtain⟨sO,sC,w6,Ca4,hS6,hy6⟩:=Bo M6 PF z46 Qd (c:=(m.ms k).sC) ((h.g.ext s6.ext).IH (k:Int) Qo IW) Qo Qd Zd #[true,false];have s7:=s6.R7 hy6;have hC7:=hC6.R7 hy6;have hT7:=hT6.R7 hy6;have hG7:=hG6.R7 hy6;have hB7:=hB6.WH hy6
  have Cx0:gi (O6 W (λj=>if j=k then KH (ms k) p else ms j) 8) (k:Int)=(gi W.IE (k:Int),KH (ms k) p):=by
   rw[HX Qo Qo,Ig,C' rfl]
  have e2:=hG7.own.Rw YG.len (i:=(k:Int)) Qo (by rw[X8];omega) (j:=13) (vs:=[.slice sO (gi W.IE (k:Int)).IH.length sC]) (x:=(gi W.IE (k:Int),⟨p.lO,p.lC,p.dO,p.dC,sO,sC⟩)) (by rw[Cx0];rfl) Qs;have B86:=hG7.own.wr YG.len hG7.nb (i:=(k:Int)) Qo (by rw[X8];omega) (j:=13) (n:=1) Qd;simp only[Ig] at e2 B86;rw[zop _ _ 8 k Qo] at e2
  have Cz5:O6 W (λj=>if j=k then (⟨p.lO,p.lC,p.dO,p.dC,sO,sC⟩:MG) else if j=k then KH (ms k) p else ms j) 8=O6 W (λj=>if j=k then (⟨p.lO,p.lC,p.dO,p.dC,sO,sC⟩:MG) else ms j) 8:=zq3 W λj _=>by
   by_cases e:j=k
   ·rw[C' e,C' e]
   ·rw[B' e,B' e,B' e]
  rw[Cz5] at e2;have hX7:=hG7.own.rP (k*14+13) [.slice sO (gi W.IE (k:Int)).IH.length sC];refine⟨_,_,_,_,Ca4,Qi hy6 fK,rfl,B83,B86,⟨Qo,Qo⟩,λw9 kL _=>⟨⟨k+1,λj=>if j=k then (⟨p.lO,p.lC,p.dO,p.dC,sO,sC⟩:MG) else ms j,rfl,Qo,?_,?_,?_,?_,?_,?_,?_,?_⟩,?_⟩⟩
  ·exact((s7.call hX7 λy hy=>IB z2 (hG7.own.lt y hy).1).step kL).sub Qs
  ·exact IB (IB (IB (IB z4 z5) hy6.size) hX7.size) kL.size
  ·exact((hC7.call hX7 (hC7.own.Wd hG7.own Qd)).step kL).sub Qs
  ·exact((hT7.call hX7 (hT7.own.Wd hG7.own Qd)).step kL).sub Qs
  ·exact((⟨e2,hG7.nb⟩:Ob Om 14 Z0 R6.heap.size ([x,x1,x2]++[b3]) _ gO gC _).step kL).sub Qs
  ·intro j hj;have hSn:∀y∈QL sO,RQ.heap.size<=y:=λy hm=>(hS6.lt y hm).1
   by_cases e:j=k
   ·subst e;simp only[if_true]
    have CU2:∀y∈QL sO,y∉[x,x1,x2]++[b3]:=λy hm gZ=>by
     have:=hSn y hm;have:=fK y gZ;omega
    have hO9:PR R6.heap.size w9 (gi W.IE (j:Int),⟨p.lO,p.lC,p.dO,p.dC,sO,sC⟩):=by
     have hB9:=((hB7.ext hX7 hBg).ext kL Bz5).mono z4;exact⟨hB9.loc,hB9.Ry,(((hS6.ext hX7 (hS6.Wd hG7.own Qd)).ext kL CU2)).mono (IB z4 z5)⟩
    refine⟨hO9,λy hm gZ=>?_⟩;have CH9:y∈[x,x1,x2]++[b3]:=Ia _ gZ;simp only[Qt,Im] at hm;rcases hm with (hm|hm)|hm
    ·exact Bz5 y (Ia _ hm) CH9
    ·exact Bz5 y (Iy _ hm) CH9
    ·exact CU2 y hm CH9
   ·dsimp only
    rw[B' e];obtain⟨hm1,hm2⟩:=hE j Qo;refine⟨?_,hm2⟩
    have CY6:∀y∈Qt (ms j),y∉[x,x1,x2]++[b3]:=λy hm gZ=>by
     rcases Im.1 gZ with h1|h1
     ·exact hm2 y hm h1
     ·have:y=b3:=by simpa using h1
      have:=(hm1.lt y hm).2;omega
    have hgg:∀y∈Qt (ms j),y∉QL gO:=Jv (p:=(gi W.IE (j:Int),ms j)) hG.own hm1;exact((((((hm1.ext T' hm2).WH iD).ext hX5 hgg).ext Su CY6).WH hy6).ext hX7 hgg).ext kL CY6
  ·intro i j hi hj hij y hm gZ
   dsimp only at hm gZ
   have Aw8:∀y∈Qt (⟨p.lO,p.lC,p.dO,p.dC,sO,sC⟩:MG),RE.heap.size<=y:=λy hm=>by
    simp only[Qt,Im] at hm;rcases hm with (hm|hm)|hm
    ·exact hBn y (Ia _ hm)
    ·exact hBn y (Iy _ hm)
    ·exact IB z5 (hS6.lt y hm).1
   have hold:∀j,j<k->∀y∈Qt (ms j),y<RE.heap.size:=λj hj y hm=>Nat.lt_of_lt_of_le ((hE j hj).1.lt y hm).2 T'.size
   by_cases e1:i=k
   ·rw[C' e1] at hm
    by_cases e2:j=k
    ·omega
    ·rw[B' e2] at gZ;have:=Aw8 y hm;have:=hold j Qo y gZ;omega
   ·rw[B' e1] at hm
    by_cases e2:j=k
    ·rw[C' e2] at gZ;have:=Aw8 y gZ;have:=hold i Qo y hm;omega
    ·rw[B' e2] at gZ;exact hJ i j Qo Qo hij y hm gZ
  ·intro j hj
   dsimp only
   rw[B' Qo];exact hF j Qo
  ·simp only[ZG,Xt,Ye,Ie];omega
 ·have RM:=Ou RM;have hk8:k=8:=Qo;subst hk8;refine λw9 kL=>⟨⟨cO,cC,tO,tC,gO,gC,ms⟩,rfl,⟨(hC.step kL).own,(hT.step kL).own,?_,bU⟩,(s3.step kL).ext⟩
  have e:zs9 W ⟨cO,cC,tO,tC,gO,gC,ms⟩=O6 W ms 8:=by unfold zs9 O6;rw[bU]
  rw[e]
  have hgi:∀i:Int,0<=i->i<((O6 W ms 8).length:Int)->i.toNat<8/\gi (O6 W ms 8) i=(gi W.IE ((i.toNat:Nat):Int),ms i.toNat):=λi a b=>by
   rw[X8] at b;refine⟨Qo,?_⟩;rw[HX a b,show ((i.toNat:Nat):Int)=i by omega]
  refine⟨(hG.step kL).own.mono z2,λi a b=>?_,λi j a b a' b' hij=>?_⟩
  ·obtain⟨c1,c2⟩:=hgi i a b;rw[c2];exact((hE _ c1).1.ext kL (hE _ c1).2).mono z2
  ·obtain⟨c1,c2⟩:=hgi i a b;obtain⟨d1,d2⟩:=hgi j a' b';rw[c2,d2];exact hJ _ _ c1 d1 Qo
end
end Go.Proofs.YtjinkcmkgnofjaaGreatDoor
